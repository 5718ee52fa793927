/- Parts that the texts behind stand on: T11p, T11a, T11b, T11c, T11d, T11e, T11f, T11g, T11h, T11i, T11j, T11k, T11m, T11n, T11q, T11r, T11s, T11t, T11o. -/
import Derived.Test.YtenfjpigffjgmaaGreatWL11Lone3
set_option linter.unusedSimpArgs false
set_option linter.unusedVariables false
namespace Go.Proofs.YtenfjpigffjgmaaGreat
open Go.RowKit
namespace V
set_option maxHeartbeats 4000000
def stN (l : List Bs) : Nd := .mk 2 0 [] (l.map strN)
def stB (l : List Bs) : Bs := wr (stN l)
def unS (s : Bs) : List Bs := (readM s).1.kids.map Nd.s
def DTell (b : Bs) (rs : List Rec) (p : Bs) (g : LG) : Prop := b = recsB rs ++ p ∧ torn p ∧ Plays LG.new rs g
noncomputable def telR (b : Bs) : List Rec := open Classical in if h : ∃ rs p g, DTell b rs p g then h.choose else []
noncomputable def telP (b : Bs) : Bs := open Classical in if h : ∃ rs p g, DTell b rs p g then h.choose_spec.choose else []
noncomputable def telG (b : Bs) : LG := open Classical in if h : ∃ rs p g, DTell b rs p g then h.choose_spec.choose_spec.choose else LG.new
theorem tells_of {b : Bs} (h : ∃ rs p g, DTell b rs p g) : DTell b (telR b) (telP b) (telG b) := by
  unfold telR telP telG
  rw [dif_pos h, dif_pos h, dif_pos h]
  exact h.choose_spec.choose_spec.choose_spec
theorem rec_pre {g h : LG} {r r' : Rec} {t t' : Bs} (hr : r.may g) (hg : g.ok) (hl : (wr r.nd).length ≤ 16777216) (hr' : r'.may h) (hh : h.ok) (hl' : (wr r'.nd).length ≤ 16777216) (e : r.bytes ++ t = r'.bytes ++ t') : r.nd = r'.nd ∧ t = t' := by
  have h1 : be4N (r.bytes ++ t) = (wr r.nd).length := by unfold Rec.bytes; rw [List.append_assoc]; exact be4_N (by omega) _
  have h2 : be4N (r'.bytes ++ t') = (wr r'.nd).length := by unfold Rec.bytes; rw [List.append_assoc]; exact be4_N (by omega) _
  have h3 : (wr r.nd).length = (wr r'.nd).length := by rw [← h1, ← h2, e]
  have h4 : r.bytes.length = r'.bytes.length := by unfold Rec.bytes; rw [List.length_append, List.length_append, be4_len, be4_len, h3]
  obtain ⟨h5, h6⟩ := List.append_inj e h4
  have h7 : wr r.nd = wr r'.nd := by
    unfold Rec.bytes at h5
    exact (List.append_inj h5 (by rw [be4_len, be4_len])).2
  have h8 := Rec.read hr hg hl
  have h9 := Rec.read hr' hh hl'
  rw [h7, h9] at h8
  exact ⟨(Prod.mk.inj h8).1.symm, h6⟩
theorem numN_inj {a b : Nat} (h : numN a = numN b) : a = b := by unfold numN at h; injection h
theorem strN_inj {a b : Bs} (h : strN a = strN b) : a = b := by unfold strN at h; injection h
theorem ents_inj : ∀ {l m : List Ent}, (∀ e ∈ l, u64B e.1) → (∀ e ∈ m, u64B e.1) → l.map entN = m.map entN → l = m
  | [], [], _, _, _ => rfl
  | [], _ :: _, _, _, h => by simp at h
  | _ :: _, [], _, _, h => by simp at h
  | (a, s) :: l, (b, t) :: m, hl, hm, h => by
    simp only [List.map_cons, List.cons.injEq] at h
    obtain ⟨h1, h2⟩ := h
    unfold entN at h1
    injection h1 with _ _ _ h3
    simp only [List.cons.injEq, and_true] at h3
    have h4 := numN_inj h3.1
    have h5 := strN_inj h3.2
    have h6 := hl (a, s) (by simp)
    have h7 := hm (b, t) (by simp)
    unfold u64B at h6 h7
    dsimp only at h4 h5 h6 h7
    have h8 : a = b := by omega
    rw [h8, h5, ents_inj (fun e he => hl e (by simp [he])) (fun e he => hm e (by simp [he])) h2]
theorem listN_inj {l m : List Ent} (hl : ∀ e ∈ l, u64B e.1) (hm : ∀ e ∈ m, u64B e.1) (h : listN l = listN m) : l = m := by
  unfold listN at h; injection h with _ _ _ h2; exact ents_inj hl hm h2
theorem rec_play {g : LG} {r r' : Rec} (hr : r.may g) (hr' : r'.may g) (hg : g.ok) (e : r.nd = r'.nd) : g.play r = g.play r' := by
  unfold Rec.nd at e
  injection e with _ _ _ e
  cases r <;> cases r' <;> simp only [Rec.kids, List.cons.injEq, and_true, List.cons_ne_nil, List.nil_eq, reduceCtorEq, and_false] at e
  · rename_i t v t' v'
    obtain ⟨_, e1, e2⟩ := e
    have e1 := numN_inj e1
    have e2 := numN_inj e2
    obtain ⟨a1, a2⟩ := hr
    obtain ⟨b1, b2⟩ := hr'
    unfold u64B at a1 b1
    obtain ⟨rfl, rfl⟩ : t = t' ∧ v = v' := by omega
    rfl
  · exact absurd (numN_inj e.1) (by decide)
  · exact absurd (numN_inj e.1) (by decide)
  · rename_i b m b' m'
    obtain ⟨_, e1, e2⟩ := e
    have e1 := numN_inj e1
    obtain ⟨a1, a2, _⟩ := hr
    obtain ⟨b1, b2, _⟩ := hr'
    have hb := hg.base
    obtain rfl : b = b' := by omega
    rw [listN_inj (fun e he => (a2 e he).1) (fun e he => (b2 e he).1) e2]
  · rename_i h h'
    obtain ⟨_, e1, e2, e3, e4, e5, e6⟩ := e
    have e1 := numN_inj e1
    have e2 := numN_inj e2
    have e3 := numN_inj e3
    have e4 := numN_inj e4
    have f5 := strN_inj e5
    have hk : h.ok := hr
    have hk' : h'.ok := hr'
    have f6 := listN_inj (fun e he => (hk.all e he).1) (fun e he => (hk'.all e he).1) e6
    have a1 := hk.term
    have a2 := hk.vote
    have a3 := hk.base
    have a4 := hk.baseT
    have b1 := hk'.term
    have b2 := hk'.vote
    have b3 := hk'.base
    have b4 := hk'.baseT
    unfold u64B at a1 a4 b1 b4
    show ({ h with down := g.down } : LG) = { h' with down := g.down }
    have c1 : h.term = h'.term := by omega
    have c2 : h.vote = h'.vote := by omega
    have c3 : h.base = h'.base := by omega
    have c4 : h.baseT = h'.baseT := by omega
    rw [c1, c2, c3, c4, f5, f6]
theorem torn_no {r : Rec} {t : Bs} (hl : (wr r.nd).length ≤ 16777216) : ¬ torn (r.bytes ++ t) := by
  unfold torn
  have h1 : be4N (r.bytes ++ t) = (wr r.nd).length := by unfold Rec.bytes; rw [List.append_assoc]; exact be4_N (by omega) _
  have h2 : (r.bytes ++ t).length = 4 + (wr r.nd).length + t.length := by unfold Rec.bytes; simp [be4_len]; omega
  rw [h1, h2]
  omega
theorem plays_one : ∀ {rs rs' : List Rec} {g0 g h : LG} {p p' : Bs}, recsB rs ++ p = recsB rs' ++ p' → torn p → torn p' → Plays g0 rs g → Plays g0 rs' h → recsB rs = recsB rs' ∧ p = p' ∧ g = h
  | [], [], g0, g, h, p, p', e, _, _, hg, hh => by
    cases hg; cases hh
    exact ⟨rfl, by simpa [recsB] using e, rfl⟩
  | [], r :: rs', g0, g, h, p, p', e, hp, _, _, hh => by
    cases hh with
    | cons a b c d =>
      rw [recsB_cons, List.append_assoc] at e
      have e : p = r.bytes ++ (recsB rs' ++ p') := by simpa [recsB] using e
      exact absurd (e ▸ hp) (torn_no c)
  | r :: rs, [], g0, g, h, p, p', e, _, hp, hg, _ => by
    cases hg with
    | cons a b c d =>
      rw [recsB_cons, List.append_assoc] at e
      have e : p' = r.bytes ++ (recsB rs ++ p) := by simpa [recsB] using e.symm
      exact absurd (e ▸ hp) (torn_no c)
  | r :: rs, r' :: rs', g0, g, h, p, p', e, hp, hp', hg, hh => by
    cases hg with
    | cons a b c d =>
      cases hh with
      | cons a' b' c' d' =>
        rw [recsB_cons, recsB_cons, List.append_assoc, List.append_assoc] at e
        obtain ⟨e1, e2⟩ := rec_pre b a c b' a' c' e
        have e3 : wr r.nd = wr r'.nd := by rw [e1]
        rw [← rec_play b b' a e1] at d'
        obtain ⟨k1, k2, k3⟩ := plays_one e2 hp hp' d d'
        refine ⟨?_, k2, k3⟩
        rw [recsB_cons, recsB_cons, k1]
        unfold Rec.bytes
        rw [e3]
theorem tells_one {b : Bs} {rs : List Rec} {p : Bs} {g : LG} (h : DTell b rs p g) : recsB (telR b) = recsB rs ∧ telP b = p ∧ telG b = g := by
  obtain ⟨a1, a2, a3⟩ := tells_of ⟨rs, p, g, h⟩
  obtain ⟨b1, b2, b3⟩ := h
  exact plays_one (a1.symm.trans b1) a2 b2 a3 b3
structure OC where
  node : Int
  index : Int
  term : Int
  out : Bs
structure MS where
  x : ND
  D : DK
  l : List Bs
  ap : Int
structure GS where
  ms : List MS
  st : List One1
  last : Int
  out : List OC
def cmdOut (k : Nat) : Bs := [UInt8.ofNat (k / 256 % 256), UInt8.ofNat (k % 256)]
def MS.todo (m : MS) : List Ent := (m.x.g.all.drop (m.ap - m.x.g.base).toNat).take (m.x.commit - m.ap).toNat
def MS.rest (m : MS) : MS := if m.x.g.base > m.ap then { m with l := unS m.x.g.state, ap := m.x.g.base } else m
def app1 (i : Int) (r : MS × List OC) (e : Ent) : MS × List OC :=
  if e.2 = [] then ({ r.1 with ap := r.1.ap + 1 }, r.2) else ({ r.1 with ap := r.1.ap + 1, l := r.1.l ++ [e.2] }, r.2 ++ [⟨i, r.1.ap + 1, e.1, cmdOut (r.1.l.length + 1)⟩])
def MS.dn (m : MS) : Bool := downS (m.x, m.D)
def doneM (i : Int) (m : MS) (o : List OC) : MS × List OC := if m.dn = true then (m, o) else m.rest.todo.foldl (app1 i) (m.rest, o)
def GS.done (G : GS) (i : Nat) (m : MS) (l : List Msg) : GS := ⟨G.ms.set i (doneM i m G.out).1, G.st ++ numb G.last l, G.last + l.length, (doneM i m G.out).2⟩
def MS.act (m : MS) (r : List Msg × NS) : MS × List Msg := ({ m with x := r.2.1.q, D := r.2.2 }, r.1)
def MS.tick (m : MS) : MS × List Msg := m.act (runN (m.x, m.D) tickN)
def MS.recv (m : MS) (g : Msg) : MS × List Msg := m.act (runN (m.x, m.D) (fun s => receiveN s g))
def MS.prop (m : MS) (c : Bs) : (Int × Int) × (MS × List Msg) := (((proposeN (m.x, m.D) c).1.1, (proposeN (m.x, m.D) c).1.2.1), m.act ((proposeN (m.x, m.D) c).1.2.2, (proposeN (m.x, m.D) c).2))
def MS.comp (m : MS) : Int × MS := ((compactN (m.x, m.D) m.ap (stB m.l)).1, { m with x := (compactN (m.x, m.D) m.ap (stB m.l)).2.1.q, D := (compactN (m.x, m.D) m.ap (stB m.l)).2.2 })
def GS.tick (G : GS) (i : Nat) : GS := match G.ms[i]? with
  | none => G
  | some m => G.done i m.tick.1 m.tick.2
def GS.take (G : GS) (k : Int) : GS := { G with st := dropL G.st k }
def GS.deliver (G : GS) (k : Int) : GS :=
  if hasB G.st k = true then
    if 0 ≤ (atM G.st k).2.to then match G.ms[(atM G.st k).2.to.toNat]? with
      | none => G.take k
      | some m => (G.take k).done (atM G.st k).2.to.toNat (m.recv (atM G.st k).2).1 (m.recv (atM G.st k).2).2
    else G.take k
  else G
def GS.propose (G : GS) (i : Nat) (c : Bs) : (Int × Int) × GS := match G.ms[i]? with
  | none => ((0, 0), G)
  | some m => ((m.prop c).1, G.done i (m.prop c).2.1 (m.prop c).2.2)
def GS.compact (G : GS) (i : Nat) : Int × GS := match G.ms[i]? with
  | none => (1, G)
  | some m => (m.comp.1, { G with ms := G.ms.set i m.comp.2 })
def GS.fuel (G : GS) (i : Nat) (n : Int) : GS := match G.ms[i]? with
  | none => G
  | some m => { G with ms := G.ms.set i { m with D := m.D.setFuel n } }
def startS (i n : Nat) (g : LG) (D : DK) : MS := if g.base > 0 then ⟨ND.start i n g, D, unS g.state, g.base⟩ else ⟨ND.start i n g, D, [], 0⟩
noncomputable def MS.crash (m : MS) (i n : Nat) (keep : Int) : MS := startS i n (telG (m.D.crash keep).b) ((m.D.crash keep).open (telR (m.D.crash keep).b) (telP (m.D.crash keep).b)).2
noncomputable def GS.crash (G : GS) (i : Nat) (keep : Int) : GS := match G.ms[i]? with
  | none => G
  | some m => { G with ms := G.ms.set i (m.crash i G.ms.length keep) }
def GS.new (n : Nat) : GS := ⟨(List.range n).map fun i => startS i n LG.new DK.new, [], 0, []⟩
structure MW (m : MS) : Prop where
  up : ¬ m.dn = true → NIn 0 m.x
  out : m.x.out = []
  ok : m.D.ok 690000000
  l : m.l.length ≤ 9500 ∧ ∀ s ∈ m.l, s.length ≤ 100
  ap : 0 ≤ m.ap ∧ m.ap ≤ 150000000000000
structure GW (G : GS) : Prop where
  n : G.ms.length ≤ 9
  ms : ∀ m ∈ G.ms, MW m
  st : G.st.length ≤ 900000
  last : 0 ≤ G.last ∧ G.last ≤ 900000
  msg : ∀ x ∈ G.st, MIm 0 x.2 ∧ smallM x.2
  out : G.out.length ≤ 900000000
end V
end Go.Proofs.YtenfjpigffjgmaaGreat
set_option linter.unusedSimpArgs false
set_option linter.unusedVariables false
set_option maxRecDepth 100000
namespace Go.Proofs.YtenfjpigffjgmaaGreat
open Go.RowKit
namespace V
set_option maxHeartbeats 4000000
def bsV (l : List Bs) : List Value := l.map fun s => Value.string (str s)
theorem bsV_snoc (l : List Bs) (s : Bs) : bsV l ++ [Value.string (str s)] = bsV (l ++ [s]) := by simp [bsV]
@[reducible] def lsB (b : Nat) (v : Value) : Asn := blk b [v] 105
@[reducible] def lsS (v : Value) (l : List Bs) : Asn := slc 9 1 v l.length (bsV l)
theorem cmd8 (n : Nat) : IntKind.u8.wrap ((n : Int).fdiv (2 ^ min (8 : Int).toNat IntKind.i64.bits)) = ((UInt8.ofNat (n / 256 % 256)).toNat : Int) ∧ IntKind.u8.wrap (n : Int) = ((UInt8.ofNat (n % 256)).toNat : Int) := by
  refine ⟨?_, ?_⟩
  · rw [shr_nat n 8 8 rfl (by decide), wrap8]
  · rw [wrap8]
theorem apply_t {R : Hp} (b : Nat) (v : Value) (l : List Bs) (c : Bs) (hl : l.length ≤ 200000) : Tri Tryz.prog 170 [.pointer (some ⟨b, 0, none⟩), .string (str c)] R [lsB b v, lsS v l]
    (fun r R' L' => R = R' ∧ r = .string (str (cmdOut (l.length + 1))) ∧ ∃ v', L' = [lsB b v', lsS v' (l ++ [c])]) := by
  obtain ⟨g1, g2⟩ := cmd8 (l.length + 1)
  refine tri_of Tryz.func170 rfl Tryz.ntmps170 rfl (fun σ F Q hret hend hpan => ?_)
  try simp only [cA, nA]
  refine cj_seq fun K1 hK1 => cj_region ?_
  refine Ps ?_
  refine rj_nil (hK1 _ _ _ (cj_seq fun K2 hK2 => cj_region ?_))
  refine Pm ?_
  refine Pm ?_
  refine Pa (y_nilCheck rfl) ?_
  refine Pa (Ga Tryz.underlying105 Tryz.sizeOf42) ?_
  first | refine Pa (La o42) ?_ | refine Pa (Ls o42) ?_
  refine Pm ?_
  refine rj_buildSlice (sz := 1) (wn0 rfl) rfl Tryz.underlying42 Tryz.sizeOf9 Tryz.zeroValue9 rfl rfl rfl (by decide) (by decide) (fun bz => ?_)
  refine rj_append (sz := 1) (by_ := 16) ⟨Tryz.underlying42, _, _, rfl, rfl, rfl, rfl, rfl⟩ (wn0 rfl) rfl rfl rfl fd_ (src_slc (xs := [.string (str c)]) Tryz.underlying42 fd_ (by (first | (simp [Value.oneCell']; done) | (intro u hu; simp only [List.mem_cons, List.not_mem_nil, or_false] at hu; rcases hu with rfl | rfl | rfl | rfl <;> first | rfl | assumption)))) rfl om_ (by simp only [maxLen]; omega) (fun v12 ho12 hh12 => ?_)
  rw [bsV_snoc]
  rw [show l.length + 1 = (l ++ [c]).length by simp]
  refine Pa (y_nilCheck rfl) ?_
  refine Pa (Ga Tryz.underlying105 Tryz.sizeOf42) ?_
  refine Sa o42 ?_
  refine rj_nil (hK2 _ _ _ (cj_seq fun K3 hK3 => ?_))
  refine cj_mix [0, 1, 2, 3, 4, 5, 6, 7, 8, 9, 10, 11, 12] [] [13, 14, 15] (by kernel_rfl) (by kernel_rfl) (by kernel_rfl) rfl ?_
  refine Wa rfl (fun R1 hR1 G => (y_move rfl)) ?_
  refine Wa rfl (fun R1 hR1 G => (y_nilCheck rfl)) ?_
  refine Wa rfl (fun R1 hR1 G => (Ga Tryz.underlying105 Tryz.sizeOf42)) ?_
  first | refine Wa rfl (fun R1 hR1 G => (La o42)) ?_ | refine Wa rfl (fun R1 hR1 G => (Ls o42)) ?_
  first | refine Wa rfl (fun R1 hR1 G => (y_len_sl Tryz.underlying42 rfl)) ?_ | refine Wa rfl (fun R1 hR1 G => (y_len_slc Tryz.underlying42 rfl fd_)) ?_
  refine Wa rfl (fun R1 hR1 G => (y_shr rfl rfl (by decide))) ?_
  refine Wa rfl (fun R1 hR1 G => (Yld.to (u := .int .u8 ((UInt8.ofNat ((l.length + 1) / 256 % 256)).toNat : Int)) (y_conv Tryz.underlying3 Tryz.underlying5 rfl) (congrArg (Value.int .u8) (by rw [List.length_append]; exact g1)))) ?_
  refine Wa rfl (fun R1 hR1 G => (y_move rfl)) ?_
  refine Wa rfl (fun R1 hR1 G => (y_nilCheck rfl)) ?_
  refine Wa rfl (fun R1 hR1 G => (Ga Tryz.underlying105 Tryz.sizeOf42)) ?_
  first | refine Wa rfl (fun R1 hR1 G => (La o42)) ?_ | refine Wa rfl (fun R1 hR1 G => (Ls o42)) ?_
  first | refine Wa rfl (fun R1 hR1 G => (y_len_sl Tryz.underlying42 rfl)) ?_ | refine Wa rfl (fun R1 hR1 G => (y_len_slc Tryz.underlying42 rfl fd_)) ?_
  refine Wa rfl (fun R1 hR1 G => (Yld.to (u := .int .u8 ((UInt8.ofNat ((l.length + 1) % 256)).toNat : Int)) (y_conv Tryz.underlying3 Tryz.underlying5 rfl) (congrArg (Value.int .u8) (by rw [List.length_append]; exact g2)))) ?_
  refine fj_nil ?_
  refine xj_nil ?_
  try simp only [cA, nA, List.append_nil]
  refine rj_buildSlice (sz := 1) (wn0 rfl) rfl Tryz.underlying123 Tryz.sizeOf5 Tryz.zeroValue5 rfl rfl rfl (by decide) (by decide) (fun by2 => ?_)
  refine rj_turn (A := slc 5 1 (.slice (some ⟨by2, 0, none⟩) 2 2) 2 _) (B := slc 5 1 (.slice (some ⟨by2, 0, none⟩) 2 2) (cmdOut (l.length + 1)).length (bytesV (cmdOut (l.length + 1)))) fd_ (fun h hh => hh) ?_
  refine Pa (y_str_slc Tryz.underlying123 Tryz.underlying5 Tryz.underlying9 rfl fd_) ?_
  refine Ps ?_
  refine rj_nil (hK3 _ _ _ ?_)
  refine cj_env (eL 4 rfl eN) ?_
  refine cj_ret (hret _ _ _ ?_)
  refine Ea Tryz.results170 (.cons (rv_tmp rfl) .nil) [lsB b v12, lsS v12 (l ++ [c])] le_ ?_
  exact ⟨rfl, rfl, _, rfl⟩
theorem stN_ok (l : List Bs) : OkN (stN l) := .mk (by decide) (fun x hx => by
  obtain ⟨s, _, rfl⟩ := List.mem_map.1 hx
  exact str_okN s)
theorem stN_right (l : List Bs) : rightB 20 (stN l) = true := by
  simp only [stN, rightB, List.all_map]
  simp [strN, rightB, Function.comp_def]
theorem wrs_strs : ∀ {l : List Bs}, (∀ s ∈ l, s.length ≤ 100) → (wrs (l.map strN)).length ≤ 104 * l.length
  | [], _ => by simp [wrs]
  | s :: l, h => by
    have h1 := wr_str (s := s) (by have := h s (by simp); omega)
    have h2 := h s (by simp)
    have h3 := wrs_strs (l := l) (fun t ht => h t (by simp [ht]))
    simp only [List.map_cons, wrs, List.length_append, List.length_cons]
    omega
theorem stB_len {l : List Bs} (h : ∀ s ∈ l, s.length ≤ 100) (hl : l.length ≤ 100000) : (stB l).length ≤ 10 + 104 * l.length := by
  have h1 := wrs_strs h
  have h2 := sizeB_len 2 (l.map strN).length (by simp; omega)
  unfold stB stN
  rw [wr, if_neg (by decide), if_neg (by decide)]
  simp only [List.length_append, List.length_cons]
  omega
theorem unS_stB {l : List Bs} (h : ∀ s ∈ l, s.length ≤ 100) (hl : l.length ≤ 100000) : unS (stB l) = l := by
  have h1 := stB_len h hl
  have h2 := readM_wr (x := stN l) (stN_ok l) (stN_right l) (by unfold stB at h1; omega)
  unfold unS
  rw [show stB l = wr (stN l) from rfl, h2]
  show (l.map strN).map Nd.s = l
  rw [List.map_map]
  exact List.map_id _
theorem kids_snoc (ks : List Nd) {i : Nat} {y : Nd} (hy : ks[i]? = some y) : (ks.take i).map Nd.s ++ [y.s] = (ks.take (i + 1)).map Nd.s := by
  rw [List.take_add_one, hy]; simp
theorem restore_t {R : Hp} (b : Nat) (v : Value) (l : List Bs) (s : Bs) (hs : s.length ≤ 16777216) : Tri Tryz.prog 171 [.pointer (some ⟨b, 0, none⟩), .string (str s)] R [lsB b v, lsS v l]
    (fun r R' L' => r = .bool (readM s).2 ∧ ∃ v', L' = [lsB b v', lsS v' (unS s)]) := by
  obtain ⟨Y, hY⟩ : ∃ Y, Y = (readM s).1 := ⟨_, rfl⟩
  refine tri_of Tryz.func171 rfl Tryz.ntmps171 rfl (fun σ F Q hret hend hpan => ?_)
  try simp only [cA, nA]
  refine cj_seq fun K1 hK1 => cj_region ?_
  refine Ps ?_
  refine rj_nil (hK1 _ _ _ (cj_seq fun K2 hK2 => cj_region ?_))
  refine Pm ?_
  refine Ra Tryz.call173 (rread_t s (by unfold big; omega)) ?_
  rintro r R1 L' hR1 ⟨cy, rfl, hy, rfl⟩
  rw [← hY] at hy
  obtain ⟨k1, n1, s1, l1, q1, cap1, hx1, rfl, hb1, hl1⟩ := hy.inv
  have hlb : l1.length ≤ big := hl1.choose_spec.1
  unfold big at hlb
  have hun : unS s = l1.map Nd.s := by unfold unS; rw [← hY, hx1]; rfl
  try simp only [cA, nA]
  refine Pm ?_
  refine Pa (y_extract rfl rfl) ?_
  refine Pa (y_extract rfl rfl) ?_
  refine rj_alloc (wn0 rfl) rfl Tryz.zeroValue150 rfl (fun bn => ?_)
  refine rj_stores m150 rfl (wn0 rfl) rfl rfl (rep_one hy) fd_ (by exact Nat.le_refl 4) rfl ?_
  refine Ps ?_
  refine rj_nil (hK2 _ _ _ (cj_seq fun K3 hK3 => cj_region ?_))
  refine Pm ?_
  refine Pa (y_nilCheck rfl) ?_
  refine Pa (Ga Tryz.underlying105 Tryz.sizeOf42) ?_
  refine Sa o42 ?_
  refine rj_add (A := lsS (.slice none 0 0) []) (slc_nil _ _) ?_
  refine rj_nil (hK3 _ _ _ (cj_seq fun K4 hK4 => cj_seq fun K5 hK5 => cj_region ?_))
  refine Pa (Ga Tryz.underlying150 Tryz.sizeOf148) ?_
  first | refine Pa (La o148) ?_ | refine Pa (Ls o148) ?_
  first | refine Pa (y_len_sl Tryz.underlying148 rfl) ?_ | refine Pa (y_len_slc Tryz.underlying148 rfl fd_) ?_
  refine Pm ?_
  refine rj_nil (hK5 _ _ _ (cj_block ?_))
  refine cj_env (E' := (fun (x : Nat × Value) => [(0, .pointer (some ⟨b, 0, none⟩)), (6, .bool (readM s).2), (18, .slice q1 l1.length cap1), (19, .int .i64 (l1.length : Int)), (20, .int .i64 (x.1 : Int))]) (0, .slice none 0 0)) (eC rfl (eC rfl (eC rfl (eC rfl (eC rfl eN))))) ?_
  refine cj_sub (M := (fun (x : Nat × Value) => lsB b x.2 :: lsS x.2 ((l1.take x.1).map Nd.s) :: F) (0, .slice none 0 0)) sb_ ?_
  refine cj_loop (fun (x : Nat × Value) => [(0, .pointer (some ⟨b, 0, none⟩)), (6, .bool (readM s).2), (18, .slice q1 l1.length cap1), (19, .int .i64 (l1.length : Int)), (20, .int .i64 (x.1 : Int))]) (fun (x : Nat × Value) => R1) (fun (x : Nat × Value) => lsB b x.2 :: lsS x.2 ((l1.take x.1).map Nd.s) :: F) (fun (x : Nat × Value) => x.1 ≤ l1.length ∧ x.2.oneCell' = true) (fun (x : Nat × Value) => l1.length - x.1) (0, .slice none 0 0) (⟨by simp, rfl⟩) ?_
  rintro ⟨i, vk⟩ ⟨hi, hvk⟩
  try dsimp only
  dsimp only at hi hvk
  refine cj_seq fun K6 hK6 => cj_region ?_
  refine Pa (y_lss rfl rfl) ?_
  refine rj_nil (hK6 _ _ _ (cj_seq fun K7 hK7 => ?_))
  refine cj_cond rfl (fun hc21 => ?_) (fun hc21 => ?_)
  try simp only [dT, dF, nT, nF, tF, fT] at hc21
  refine cj_skip (hK7 _ _ _ (cj_seq fun K9 hK9 => cj_block (cj_seq fun K10 hK10 => cj_region ?_)))
  have hi2 : i < l1.length := by (try simp at hc21); omega
  obtain ⟨y, hy2⟩ : ∃ x, l1[i]? = some x := ⟨_, List.getElem?_eq_getElem hi2⟩
  obtain ⟨bb, off, cs, rfl, hc4, hrep, hcell⟩ := hl1.at hy2
  obtain ⟨ky, ny, sy, ly, qy, capy, rfl, rfl, hby, _⟩ := hrep.inv
  have hml : ((l1.take i).map Nd.s).length = i := by rw [List.length_map, List.length_take]; omega
  first | refine Pa (y_indexAddr Tryz.underlying148 Tryz.sizeOf150 rfl rfl om_) ?_ | refine Pa (y_index_slc Tryz.underlying148 Tryz.sizeOf150 rfl rfl fd_ om_) ?_
  refine Pa ((y_loads_ro m150 hc4 rfl (fun j u hj => by simpa using hcell j u hj))) ?_
  refine rj_alloc (wn0 rfl) rfl Tryz.zeroValue150 rfl (fun b8 => ?_)
  refine rj_stores m150 rfl (wn0 rfl) rfl rfl (rep_one hrep) fd_ (by exact Nat.le_refl 4) rfl ?_
  refine rj_nil (hK10 _ _ _ ?_)
  refine cj_mixg (L := [lsB b vk, blk b8 [.int .i64 ky, .int .u64 ((ny : Nat) : Int), .string (str sy), .slice qy ly.length capy] 150]) [0, 1, 2, 3, 4, 5, 6] [7, 8] [9, 10, 11] _ sb_ (by kernel_rfl) (by kernel_rfl) (by kernel_rfl) rfl ?_
  refine Wa rfl (fun R1 hR1 G => (y_move rfl)) ?_
  refine Wa rfl (fun R1 hR1 G => (y_move rfl)) ?_
  refine Wa rfl (fun R1 hR1 G => (y_nilCheck rfl)) ?_
  refine Wa rfl (fun R1 hR1 G => (Ga Tryz.underlying105 Tryz.sizeOf42)) ?_
  first | refine Wa rfl (fun R1 hR1 G => (La o42)) ?_ | refine Wa rfl (fun R1 hR1 G => (Ls o42)) ?_
  refine Wa rfl (fun R1 hR1 G => (Ga Tryz.underlying150 Tryz.sizeOf9)) ?_
  first | refine Wa rfl (fun R1 hR1 G => (La o9)) ?_ | refine Wa rfl (fun R1 hR1 G => (Ls o9)) ?_
  refine fj_nil ?_
  refine xj_rj rfl ?_
  try simp only [cA, nA, List.append_nil]
  refine rj_buildSlice (sz := 1) (wn0 rfl) rfl Tryz.underlying42 Tryz.sizeOf9 Tryz.zeroValue9 rfl rfl rfl (by decide) (by decide) (fun bz => ?_)
  refine rj_xk le_ sb_ ?_
  refine xj_rj rfl ?_
  try simp only [cA, nA, List.append_nil]
  refine rj_append (sz := 1) (by_ := 16) ⟨Tryz.underlying42, _, _, rfl, rfl, rfl, rfl, rfl⟩ (wn0 rfl) rfl rfl rfl fd_ (src_slc (xs := [.string (str sy)]) Tryz.underlying42 fd_ (by (first | (simp [Value.oneCell']; done) | (intro u hu; simp only [List.mem_cons, List.not_mem_nil, or_false] at hu; rcases hu with rfl | rfl | rfl | rfl <;> first | rfl | assumption)))) rfl om_ (by simp only [maxLen]; omega) (fun v32 ho32 hh32 => ?_)
  rw [bsV_snoc, show (l1.take i).map Nd.s ++ [sy] = (l1.take (i + 1)).map Nd.s from kids_snoc l1 hy2]
  rw [show ((l1.take i).map Nd.s).length + 1 = ((l1.take (i + 1)).map Nd.s).length by rw [← kids_snoc l1 hy2]; simp]
  refine rj_xk le_ sb_ ?_
  refine xj_nil ?_
  try simp only [cA, nA, List.append_nil]
  refine Pa (y_nilCheck rfl) ?_
  refine Pa (Ga Tryz.underlying105 Tryz.sizeOf42) ?_
  refine Sa o42 ?_
  refine rj_nil (hK9 _ _ _ ?_)
  refine cj_env (eL 0 rfl (eL 6 rfl (eL 18 rfl (eL 19 rfl (eL 20 rfl eN))))) ?_
  refine cj_region ?_
  first | refine Pa (y_add64 rfl rfl om_) ?_ | refine Pa (y_add rfl rfl) ?_
  refine Pm ?_
  refine rj_nil ?_
  refine ej_on (q' := roundK _ _ _ _ _ _ _) rfl ?_
  refine ej_round ((i + 1, v32)) (⟨by dsimp only; omega, by assumption⟩) (by dsimp only; omega) (eC rfl (eC rfl (eC rfl (eC rfl (eC rfl eN))))) rfl sb_
  try simp only [dT, dF, nT, nF, tF, fT] at hc21
  refine cj_exit (hK4 _ _ _ (cj_seq fun K11 hK11 => cj_region ?_))
  obtain rfl : i = l1.length := by (try simp at hc21); omega
  rw [List.take_of_length_le (Nat.le_refl _), ← hun]
  refine Pm ?_
  refine Ps ?_
  refine rj_nil (hK11 _ _ _ (cj_ret (hret _ _ _ ?_)))
  apply ej_ret Tryz.results171 (.cons (rv_tmp rfl) .nil) _ [lsB b vk, lsS vk (unS s)] hR1 rfl
  case hp => exact ⟨rfl, vk, rfl⟩
  case hS => exact sb_
end V
end Go.Proofs.YtenfjpigffjgmaaGreat
set_option linter.unusedSimpArgs false
set_option linter.unusedVariables false
set_option maxRecDepth 100000
namespace Go.Proofs.YtenfjpigffjgmaaGreat
open Go.RowKit
namespace V
set_option maxHeartbeats 4000000
theorem sub_dim (A : Asn) : ∀ (L F : List Asn), Sub (A :: (L ++ F)) (L ++ A :: F)
  | [], F => .refl _
  | B :: L, F => zP (.tail (.head _)) (sub_dim A L F)
theorem QTri.eq3 {P : Program} {f : FuncId} {args : List Value} {R : Hp} {L : List Asn} {v v' : Value} (h : QTri P f args R L v) (e : v = v') : QTri P f args R L v' := e ▸ h
theorem QTri.big {P : Program} {f : FuncId} {args : List Value} {R : Hp} {l : List (List Asn)} {i : Nat} {As L : List Asn} {v : Value} (hi : l[i]? = some As) (h : QTri P f args R (As ++ L) v) : QTri P f args R (bigA l :: L) v := fun σ F w hs => by
  have h1 : Sat σ R (As ++ bigA (l.eraseIdx i) :: (L ++ F)) w := Sat.split (A := gA As) (fun _ k => k) (Sat.split (A := bigA l) (As := [gA As, bigA (l.eraseIdx i)]) (bigA_out hi) hs)
  have h2 : Sat σ R ((As ++ L) ++ bigA (l.eraseIdx i) :: F) w := by rw [List.append_assoc]; exact h1.sub (sub_pre As (sub_dim _ L F))
  refine (h σ _ w h2).mono fun e w' ⟨he, hw⟩ => ⟨he, ?_⟩
  have h3 : Sat σ R (As ++ bigA (l.eraseIdx i) :: (L ++ F)) w' := by rw [List.append_assoc] at hw; exact hw.sub (sub_pre As (sub_mid _ L F))
  have h4 := h3.bigIn (l := l) (i := i) (As := As) (M := L ++ F) (List.getElem?_eq_some_iff.1 hi).1 (.refl _)
  rw [show l.set i As = l from by apply List.ext_getElem?; intro j; rw [List.getElem?_set]; split <;> first | rfl | (rename_i h; subst h; rw [if_pos (List.getElem?_eq_some_iff.1 hi).1, hi])] at h4
  exact h4
theorem Tri.big {P : Program} {f : FuncId} {args : List Value} {R : Hp} {l : List (List Asn)} {i : Nat} {As L : List Asn} {post : Value → Hp → List Asn → List Asn → Prop} (hi : l[i]? = some As)
    (h : Tri P f args R (As ++ L) (fun r R' L' => ∃ As' L1, post r R' As' L1 ∧ L' = As' ++ L1)) : Tri P f args R (bigA l :: L) (fun r R' L' => ∃ As' L1, post r R' As' L1 ∧ L' = bigA (l.set i As') :: L1) := fun σ F w hs => by
  have h1 : Sat σ R (As ++ bigA (l.eraseIdx i) :: (L ++ F)) w := Sat.split (A := gA As) (fun _ k => k) (Sat.split (A := bigA l) (As := [gA As, bigA (l.eraseIdx i)]) (bigA_out hi) hs)
  have h2 : Sat σ R ((As ++ L) ++ bigA (l.eraseIdx i) :: F) w := by rw [List.append_assoc]; exact h1.sub (sub_pre As (sub_dim _ L F))
  refine (h σ _ w h2).mono fun e w' ⟨R', L', hR, hw, hp⟩ => ?_
  cases e with
  | panicked ch => exact hp.elim
  | outgrown => exact hp.elim
  | returned v =>
    obtain ⟨As', L1, hpost, rfl⟩ := hp
    have h3 : Sat σ R' (As' ++ bigA (l.eraseIdx i) :: (L1 ++ F)) w' := by rw [List.append_assoc] at hw; exact hw.sub (sub_pre As' (sub_mid _ L1 F))
    exact ⟨R', bigA (l.set i As') :: L1, hR, h3.bigIn (l := l) (i := i) (As := As') (M := L1 ++ F) (List.getElem?_eq_some_iff.1 hi).1 (.refl _), As', L1, hpost, rfl⟩
theorem ej_pure {c : Cx} {q : Act → World → Prop} {E : Env} {R : Hp} {L M : List Asn} {A : Asn} {p : Prop} (f : Find A L M) (k : ∀ h, A h → p) (h : p → EJ c q E R L) : EJ c q E R L := fun a w hf hs => h (Sat.pure k (hs.find f)) a w hf hs
structure MV where
  m : Nat
  b : NB
  l : Nat
  v : NV
  vl : Value
structure GV where
  g : Nat
  va : Value
  n : Nat
  vn : Value
  css : List (List Value)
  vo : Value
  cs : List MV
@[reducible] def ifV (l : Nat) : Value := .iface 103 (.pointer (some ⟨l, 0, none⟩))
@[reducible] def mbB (c : MV) (ap : Int) : Asn := blk c.m [.pointer (some ⟨c.b.d, 0, none⟩), .pointer (some ⟨c.b.x, 0, none⟩), ifV c.l, .int .u64 ap] 87
@[reducible] def memL (c : MV) (m : MS) : List Asn := mbB c m.ap :: lsB c.l c.vl :: lsS c.vl m.l :: ndI c.b c.v m.x m.D
def memsL (cs : List MV) (ms : List MS) : List (List Asn) := List.zipWith memL cs ms
theorem mems_at {cs : List MV} {ms : List MS} {i : Nat} {c : MV} {m : MS} (hc : cs[i]? = some c) (hm : ms[i]? = some m) : (memsL cs ms)[i]? = some (memL c m) := by
  unfold memsL; rw [List.getElem?_zipWith, hc, hm]
theorem mems_set {cs : List MV} {ms : List MS} {i : Nat} {c : MV} {m : MS} : (memsL cs ms).set i (memL c m) = memsL (cs.set i c) (ms.set i m) := by
  unfold memsL
  apply List.ext_getElem?
  intro j
  rw [List.getElem?_set, List.getElem?_zipWith, List.getElem?_zipWith, List.getElem?_set, List.getElem?_set]
  by_cases h : i = j
  · subst h
    rw [if_pos rfl, if_pos rfl, if_pos rfl]
    rw [List.length_zipWith]
    by_cases h1 : i < cs.length
    · by_cases h2 : i < ms.length
      · rw [if_pos (by omega), if_pos h1, if_pos h2]
      · rw [if_neg (by omega), if_pos h1, if_neg h2]
    · rw [if_neg (by omega), if_neg h1]
  · rw [if_neg h, if_neg h, if_neg h]
def ptrsV (cs : List MV) : List Value := cs.map fun c => Value.pointer (some ⟨c.m, 0, none⟩)
@[reducible] def fnV : Value := .func (.func 20) ⟨[]⟩ ⟨[]⟩
@[reducible] def grB (w : GV) : Asn := blk w.g [w.va, fnV, .pointer (some ⟨w.n, 0, none⟩), w.vo] 90
@[reducible] def grS (w : GV) : Asn := slc 81 1 w.va w.cs.length (ptrsV w.cs)
def ocC (o : OC) : List Value := [.int .i64 o.node, .int .u64 o.index, .int .u64 o.term, .string (str o.out)]
def ocV (l : List OC) : List Value := (l.map ocC).flatten
@[reducible] def ocS (vo : Value) (l : List OC) : Asn := slc 41 4 vo l.length (ocV l)
@[reducible] def grR (w : GV) (G : GS) : List Asn := [grB w, grS w, netB w.n w.vn G.last, netS w.vn G.st w.css, ocS w.vo G.out]
@[reducible] def grL (w : GV) (G : GS) : List Asn := bigA (memsL w.cs G.ms) :: grR w G
structure GOk (R : Hp) (w : GV) (G : GS) : Prop where
  len : w.cs.length = G.ms.length
  nd : ∀ (i : Nat) (c : MV) (m : MS), w.cs[i]? = some c → G.ms[i]? = some m → NOk R c.v m.x
  els : Els oneE R G.st w.css
theorem GOk.mono {R R' : Hp} (hR : R.le R') {w : GV} {G : GS} (h : GOk R w G) : GOk R' w G := ⟨h.len, fun i c m hc hm => (h.nd i c m hc hm).mono hR, h.els.mono hR⟩
theorem GOk.at {R : Hp} {w : GV} {G : GS} (h : GOk R w G) {i : Nat} {m : MS} (hm : G.ms[i]? = some m) : ∃ c, w.cs[i]? = some c ∧ NOk R c.v m.x ∧ (memsL w.cs G.ms)[i]? = some (memL c m) := by
  have hi := (List.getElem?_eq_some_iff.1 hm).1
  have hc : w.cs[i]? = some (w.cs[i]'(by rw [h.len]; exact hi)) := List.getElem?_eq_getElem _
  exact ⟨_, hc, h.nd i _ m hc hm, mems_at hc hm⟩
def ptrAt (cs : List MV) (i : Int) : Value := if 0 ≤ i then (match cs[i.toNat]? with | some c => .pointer (some ⟨c.m, 0, none⟩) | none => .pointer none) else .pointer none
theorem ptrAt_some {cs : List MV} {i : Nat} {c : MV} (h : cs[i]? = some c) : ptrAt cs (i : Int) = .pointer (some ⟨c.m, 0, none⟩) := by unfold ptrAt; rw [if_pos (by omega), Int.toNat_natCast, h]
theorem ptrAt_none {cs : List MV} {i : Int} (h : i < 0 ∨ (cs.length : Int) ≤ i) : ptrAt cs i = .pointer none := by
  unfold ptrAt
  by_cases h0 : 0 ≤ i
  · rw [if_pos h0, List.getElem?_eq_none (by omega)]
  · rw [if_neg h0]
theorem grAt_q {R : Hp} (w : GV) (i : Int) : QTri Tryz.prog 33 [.pointer (some ⟨w.g, 0, none⟩), .int .i64 i] R [grB w, grS w] (ptrAt w.cs i) := by
  refine Tri.q ?_
  refine tri_of Tryz.func33 rfl Tryz.ntmps33 rfl (fun σ F Q hret hend hpan => ?_)
  try simp only [cA, nA]
  refine cj_seq fun K1 hK1 => cj_region ?_
  refine Ps ?_
  refine rj_nil (hK1 _ _ _ (cj_seq fun K2 hK2 => cj_seq fun K3 hK3 => cj_region ?_))
  refine Pm ?_
  refine Pa (y_peql Tryz.underlying26 rfl rfl) ?_
  refine Pm ?_
  refine Pb (y_move rfl) ?_
  refine Pb (y_lss rfl rfl) ?_
  refine Pa (y_pick_f rfl rfl) ?_
  refine Pm ?_
  refine rj_part 11 rfl (fun hg11 => ?_) (fun hg11 => ?_)
  try simp only [dT, dF, nT, nF, tF, fT] at hg11
  refine Pk ?_
  refine Pk ?_
  refine Pk ?_
  refine Pk ?_
  refine Pk ?_
  refine Pk ?_
  refine Pk ?_
  refine Pa (y_pick_t rfl rfl) ?_
  refine rj_nil (hK3 _ _ _ (cj_cond_t rfl (cj_seq fun K4 hK4 => cj_region ?_)))
  refine Ps ?_
  refine rj_nil (hK4 _ _ _ (cj_ret (hret _ _ _ ?_)))
  refine Ea Tryz.results33 (.cons (rv_tmp rfl) .nil) [grB w, grS w] le_ ?_
  rw [ptrAt_none (.inl (by (try simp at hg11); omega))]; exact ⟨rfl, rfl, rfl⟩
  try simp only [dT, dF, nT, nF, tF, fT] at hg11
  refine Pb (y_move rfl) ?_
  refine Pb (y_move rfl) ?_
  refine Pb (y_nilCheck rfl) ?_
  refine Pb (Ga Tryz.underlying90 Tryz.sizeOf88) ?_
  first | refine Pb (La o88) ?_ | refine Pb (Ls o88) ?_
  first | refine Pb (y_len_sl Tryz.underlying88 rfl) ?_ | refine Pb (y_len_slc Tryz.underlying88 rfl fd_) ?_
  refine Pb (y_geq rfl rfl) ?_
  refine Pa (y_pick_f rfl rfl) ?_
  refine rj_nil (hK3 _ _ _ ?_)
  refine cj_env (eL 0 rfl (eL 1 rfl (eL 19 rfl eN))) ?_
  refine cj_cond rfl (fun hc19 => ?_) (fun hc19 => ?_)
  try simp only [dT, dF, nT, nF, tF, fT] at hc19
  refine cj_seq fun K6 hK6 => cj_region ?_
  refine Ps ?_
  refine rj_nil (hK6 _ _ _ (cj_ret (hret _ _ _ ?_)))
  refine Ea Tryz.results33 (.cons (rv_tmp rfl) .nil) [grB w, grS w] le_ ?_
  rw [ptrAt_none (.inr (by (try simp at hc19); omega))]; exact ⟨rfl, rfl, rfl⟩
  try simp only [dT, dF, nT, nF, tF, fT] at hc19
  refine cj_skip (hK2 _ _ _ (cj_seq fun K7 hK7 => cj_region ?_))
  obtain ⟨i, rfl⟩ := Int.eq_ofNat_of_zero_le (show 0 ≤ i by (try simp at hg11); omega)
  have hi2 : i < w.cs.length := by (try simp at hc19); omega
  obtain ⟨c, hc⟩ : ∃ c, w.cs[i]? = some c := ⟨_, List.getElem?_eq_getElem hi2⟩
  have hnth : nth (ptrsV w.cs) ((i : Int).toNat * 1 + 0) = some (.pointer (some ⟨c.m, 0, none⟩)) := by rw [Int.toNat_natCast, nth_eq]; simp [ptrsV, hc]
  refine Pm ?_
  refine Pa (y_nilCheck rfl) ?_
  refine Pa (Ga Tryz.underlying90 Tryz.sizeOf88) ?_
  first | refine Pa (La o88) ?_ | refine Pa (Ls o88) ?_
  refine Pm ?_
  refine Pa ((y_index_slc (sz := 1) (n := w.cs.length) Tryz.underlying88 Tryz.sizeOf81 rfl rfl fd_ (by omega))) ?_
  refine Pa ((y_load_slc o81 rfl fd_ hnth)) ?_
  refine Ps ?_
  refine rj_nil (hK7 _ _ _ (cj_ret (hret _ _ _ ?_)))
  refine Ea Tryz.results33 (.cons (rv_tmp rfl) .nil) [grB w, grS w] le_ ?_
  rw [ptrAt_some hc]; exact ⟨rfl, rfl, rfl⟩
theorem grNode_q {R : Hp} (w : GV) (c : MV) (m : MS) (i : Nat) (hc : w.cs[i]? = some c) : QTri Tryz.prog 22 [.pointer (some ⟨w.g, 0, none⟩), .int .i64 (i : Int)] R (memL c m ++ [grB w, grS w]) (.pointer (some ⟨c.b.x, 0, none⟩)) := by
  have ha := (grAt_q (R := R) w (i : Int)).eq3 (ptrAt_some hc)
  refine Tri.q ?_
  refine tri_of Tryz.func22 rfl Tryz.ntmps22 rfl (fun σ F Q hret hend hpan => ?_)
  try simp only [cA, nA]
  refine cj_seq fun K1 hK1 => cj_region ?_
  refine Ps ?_
  refine rj_nil (hK1 _ _ _ (cj_seq fun K2 hK2 => cj_seq fun K3 hK3 => cj_region ?_))
  refine Pm ?_
  refine Pm ?_
  refine Pa (Ca Tryz.call33 (ha)) ?_
  refine Ps ?_
  refine rj_nil (hK3 _ _ _ (cj_seq fun K4 hK4 => cj_region ?_))
  refine Pm ?_
  refine Pa (y_pneq Tryz.underlying81 rfl rfl) ?_
  refine rj_nil (hK4 _ _ _ (cj_cond_t rfl (cj_seq fun K5 hK5 => cj_region ?_)))
  refine Pm ?_
  refine Pa (y_nilCheck rfl) ?_
  refine Pa (Ga Tryz.underlying87 Tryz.sizeOf56) ?_
  first | refine Pa (La o56) ?_ | refine Pa (Ls o56) ?_
  refine Ps ?_
  refine rj_nil (hK5 _ _ _ (cj_ret (hret _ _ _ ?_)))
  refine Ea Tryz.results22 (.cons (rv_tmp rfl) .nil) (memL c m ++ [grB w, grS w]) le_ ?_
  exact ⟨rfl, rfl, rfl⟩
theorem grMachine_q {R : Hp} (w : GV) (c : MV) (m : MS) (i : Nat) (hc : w.cs[i]? = some c) : QTri Tryz.prog 45 [.pointer (some ⟨w.g, 0, none⟩), .int .i64 (i : Int)] R (memL c m ++ [grB w, grS w]) (ifV c.l) := by
  have ha := (grAt_q (R := R) w (i : Int)).eq3 (ptrAt_some hc)
  refine Tri.q ?_
  refine tri_of Tryz.func45 rfl Tryz.ntmps45 rfl (fun σ F Q hret hend hpan => ?_)
  try simp only [cA, nA]
  refine cj_seq fun K1 hK1 => cj_region ?_
  refine Ps ?_
  refine rj_nil (hK1 _ _ _ (cj_seq fun K2 hK2 => cj_seq fun K3 hK3 => cj_region ?_))
  refine Pm ?_
  refine Pm ?_
  refine Pa (Ca Tryz.call33 (ha)) ?_
  refine Ps ?_
  refine rj_nil (hK3 _ _ _ (cj_seq fun K4 hK4 => cj_region ?_))
  refine Pm ?_
  refine Pa (y_pneq Tryz.underlying81 rfl rfl) ?_
  refine rj_nil (hK4 _ _ _ (cj_cond_t rfl (cj_seq fun K5 hK5 => cj_region ?_)))
  refine Pm ?_
  refine Pa (y_nilCheck rfl) ?_
  refine Pa (Ga Tryz.underlying87 Tryz.sizeOf85) ?_
  first | refine Pa (La o85) ?_ | refine Pa (Ls o85) ?_
  refine Ps ?_
  refine rj_nil (hK5 _ _ _ (cj_ret (hret _ _ _ ?_)))
  refine Ea Tryz.results45 (.cons (rv_tmp rfl) .nil) (memL c m ++ [grB w, grS w]) le_ ?_
  exact ⟨rfl, rfl, rfl⟩
theorem grApplied_q {R : Hp} (w : GV) (c : MV) (m : MS) (i : Nat) (hc : w.cs[i]? = some c) : QTri Tryz.prog 18 [.pointer (some ⟨w.g, 0, none⟩), .int .i64 (i : Int)] R (memL c m ++ [grB w, grS w]) (.int .u64 m.ap) := by
  have ha := (grAt_q (R := R) w (i : Int)).eq3 (ptrAt_some hc)
  refine Tri.q ?_
  refine tri_of Tryz.func18 rfl Tryz.ntmps18 rfl (fun σ F Q hret hend hpan => ?_)
  try simp only [cA, nA]
  refine cj_seq fun K1 hK1 => cj_region ?_
  refine Ps ?_
  refine rj_nil (hK1 _ _ _ (cj_seq fun K2 hK2 => cj_seq fun K3 hK3 => cj_region ?_))
  refine Pm ?_
  refine Pm ?_
  refine Pa (Ca Tryz.call33 (ha)) ?_
  refine Ps ?_
  refine rj_nil (hK3 _ _ _ (cj_seq fun K4 hK4 => cj_region ?_))
  refine Pm ?_
  refine Pa (y_pneq Tryz.underlying81 rfl rfl) ?_
  refine rj_nil (hK4 _ _ _ (cj_cond_t rfl (cj_seq fun K5 hK5 => cj_region ?_)))
  refine Pm ?_
  refine Pa (y_nilCheck rfl) ?_
  refine Pa (Ga Tryz.underlying87 Tryz.sizeOf36) ?_
  first | refine Pa (La o36) ?_ | refine Pa (Ls o36) ?_
  refine Ps ?_
  refine rj_nil (hK5 _ _ _ (cj_ret (hret _ _ _ ?_)))
  refine Ea Tryz.results18 (.cons (rv_tmp rfl) .nil) (memL c m ++ [grB w, grS w]) le_ ?_
  exact ⟨rfl, rfl, rfl⟩
theorem grNet_q {R : Hp} (w : GV) : QTri Tryz.prog 28 [.pointer (some ⟨w.g, 0, none⟩)] R [grB w] (.pointer (some ⟨w.n, 0, none⟩)) := by
  refine Tri.q ?_
  refine tri_of Tryz.func28 rfl Tryz.ntmps28 rfl (fun σ F Q hret hend hpan => ?_)
  try simp only [cA, nA]
  refine cj_seq fun K1 hK1 => cj_region ?_
  refine Ps ?_
  refine rj_nil (hK1 _ _ _ (cj_seq fun K2 hK2 => cj_seq fun K3 hK3 => cj_region ?_))
  refine Pm ?_
  refine Pa (y_peql Tryz.underlying26 rfl rfl) ?_
  refine rj_nil (hK3 _ _ _ (cj_cond_f rfl (cj_skip (hK2 _ _ _ (cj_seq fun K4 hK4 => cj_region ?_)))))
  refine Pm ?_
  refine Pa (y_nilCheck rfl) ?_
  refine Pa (Ga Tryz.underlying90 Tryz.sizeOf66) ?_
  first | refine Pa (La o66) ?_ | refine Pa (Ls o66) ?_
  refine Ps ?_
  refine rj_nil (hK4 _ _ _ (cj_ret (hret _ _ _ ?_)))
  refine Ea Tryz.results28 (.cons (rv_tmp rfl) .nil) [grB w] le_ ?_
  exact ⟨rfl, rfl, rfl⟩
theorem did_q {R : Hp} (w : GV) (c : MV) (m : MS) (i : Nat) (hc : w.cs[i]? = some c) : QTri Tryz.prog 17 [.pointer (some ⟨w.g, 0, none⟩), .int .i64 (i : Int)] R (memL c m ++ [grB w, grS w]) c.vl := by
  refine Tri.q ?_
  refine tri_of Tryz.func17 rfl Tryz.ntmps17 rfl (fun σ F Q hret hend hpan => ?_)
  try simp only [cA, nA]
  refine cj_seq fun K1 hK1 => cj_region ?_
  refine Ps ?_
  refine rj_nil (hK1 _ _ _ (cj_seq fun K2 hK2 => cj_seq fun K3 hK3 => cj_region ?_))
  refine Pm ?_
  refine Pm ?_
  refine Pa (Ca Tryz.call45 (grMachine_q w c m i hc)) ?_
  refine rj_nil (hK3 _ _ _ (cj_block (cj_seq fun K4 hK4 => cj_region ?_)))
  refine Pa ((y_tassert (r := .tuple ⟨[.pointer (some ⟨c.l, 0, none⟩), .bool true]⟩) (fun w => by kernel_rfl) rfl)) ?_
  refine Pa (y_extract rfl rfl) ?_
  refine Pa (y_extract rfl rfl) ?_
  refine rj_nil (hK4 _ _ _ (cj_cond_t rfl (cj_seq fun K5 hK5 => cj_region ?_)))
  refine Ps ?_
  refine rj_nil (hK5 _ _ _ (cj_seq fun K6 hK6 => cj_region ?_))
  refine Pm ?_
  refine Pa (y_nilCheck rfl) ?_
  refine Pa (Ga Tryz.underlying105 Tryz.sizeOf42) ?_
  first | refine Pa (La o42) ?_ | refine Pa (Ls o42) ?_
  refine Ps ?_
  refine rj_nil (hK6 _ _ _ (cj_ret (hret _ _ _ ?_)))
  refine Ea Tryz.results17 (.cons (rv_tmp rfl) .nil) (memL c m ++ [grB w, grS w]) le_ ?_
  exact ⟨rfl, rfl, rfl⟩
end V
end Go.Proofs.YtenfjpigffjgmaaGreat
set_option linter.unusedSimpArgs false
set_option linter.unusedVariables false
set_option maxRecDepth 100000
namespace Go.Proofs.YtenfjpigffjgmaaGreat
open Go.RowKit
namespace V
set_option maxHeartbeats 4000000
def MS.apply (m : MS) (i : Int) (o : List OC) (k : Nat) : MS × List OC := (m.todo.take k).foldl (app1 i) (m, o)
theorem app1_x (i : Int) (r : MS × List OC) (e : Ent) : (app1 i r e).1.x = r.1.x ∧ (app1 i r e).1.D = r.1.D ∧ (app1 i r e).1.ap = r.1.ap + 1 ∧ (app1 i r e).1.l.length ≤ r.1.l.length + 1 ∧ (app1 i r e).2.length ≤ r.2.length + 1 := by
  unfold app1
  split
  · exact ⟨rfl, rfl, rfl, by simp, by simp⟩
  · exact ⟨rfl, rfl, rfl, by simp, by simp⟩
theorem app_x (i : Int) : ∀ (l : List Ent) (r : MS × List OC), (l.foldl (app1 i) r).1.x = r.1.x ∧ (l.foldl (app1 i) r).1.D = r.1.D ∧ (l.foldl (app1 i) r).1.ap = r.1.ap + l.length ∧ (l.foldl (app1 i) r).1.l.length ≤ r.1.l.length + l.length ∧ (l.foldl (app1 i) r).2.length ≤ r.2.length + l.length
  | [], r => ⟨rfl, rfl, by simp, by simp, by simp⟩
  | e :: l, r => by
    obtain ⟨a1, a2, a3, a4, a5⟩ := app1_x i r e
    obtain ⟨b1, b2, b3, b4, b5⟩ := app_x i l (app1 i r e)
    rw [List.foldl_cons]
    refine ⟨b1.trans a1, b2.trans a2, ?_, ?_, ?_⟩
    · rw [b3, a3, List.length_cons]; omega
    · rw [List.length_cons]; omega
    · rw [List.length_cons]; omega
theorem app_ge (i : Int) : ∀ (l : List Ent) (r : MS × List OC), r.1.l.length ≤ (l.foldl (app1 i) r).1.l.length
  | [], r => Nat.le_refl _
  | e :: l, r => by
    rw [List.foldl_cons]
    refine Nat.le_trans ?_ (app_ge i l (app1 i r e))
    unfold app1
    split
    · exact Nat.le_refl _
    · simp
theorem apply_succ {m : MS} {i : Int} {o : List OC} {k : Nat} {e : Ent} (h : m.todo[k]? = some e) : m.apply i o (k + 1) = app1 i (m.apply i o k) e := by
  unfold MS.apply
  rw [List.take_add_one, h]
  simp
theorem apply_all {m : MS} {i : Int} {o : List OC} {k : Nat} (h : m.todo.length ≤ k) : m.apply i o k = m.todo.foldl (app1 i) (m, o) := by unfold MS.apply; rw [List.take_of_length_le h]
theorem todo_at {m : MS} (h : m.x.g.base ≤ m.ap) {k : Nat} (hk : m.ap + k < m.x.commit) : m.x.g.at (m.ap + k + 1) = m.todo[k]? := by
  unfold MS.todo
  rw [List.getElem?_take, if_pos (by omega), List.getElem?_drop]
  rw [show m.ap + (k : Int) + 1 = m.x.g.base + 1 + (((m.ap - m.x.g.base).toNat + k : Nat) : Int) by omega, LG.at_k]
theorem todo_len {m : MS} : m.todo.length ≤ (m.x.commit - m.ap).toNat ∧ m.todo.length ≤ m.x.g.all.length := by
  unfold MS.todo
  rw [List.length_take, List.length_drop]; omega
theorem mrest_x (m : MS) : m.rest.x = m.x ∧ m.rest.D = m.D ∧ m.ap ≤ m.rest.ap ∧ m.x.g.base ≤ m.rest.ap := by
  unfold MS.rest
  split
  · exact ⟨rfl, rfl, by dsimp only; omega, Int.le_refl _⟩
  · exact ⟨rfl, rfl, Int.le_refl _, by omega⟩
theorem ocV_snoc (l : List OC) (o : OC) : ocV l ++ ocC o = ocV (l ++ [o]) := by simp [ocV]
theorem grDone_t {R : Hp} (w : GV) (G : GS) (c : MV) (m : MS) (i : Nat) (ms : List Msg) (vl : Value) (hc : (w.cs[i]?).map MV.m = some c.m) (hms : FrX msgE R ms vl) (hsm : ∀ x ∈ ms, smallM x) (hel : Els oneE R G.st w.css) (hv : NOk R c.v m.x)
    (hst : G.st.length + ms.length ≤ 1000000) (hla : 0 ≤ G.last ∧ G.last + ms.length ≤ 1000000) (hg : ¬ m.dn = true → m.x.g.ok ∧ m.x.commit ≤ 150000000000000 ∧ m.rest.l.length ≤ 100000) (hap : 0 ≤ m.ap ∧ m.ap ≤ 150000000000000) (hout : G.out.length ≤ 1000000000) :
    Tri Tryz.prog 44 [.pointer (some ⟨w.g, 0, none⟩), .int .i64 (i : Int), vl] R (memL c m ++ grR w G)
      (fun r R' L' => ∃ vl' vn css vo, Els oneE R' (G.st ++ numb G.last ms) css ∧ L' = memL { c with vl := vl' } (doneM i m G.out).1 ++ grR { w with vn := vn, css := css, vo := vo } { G with st := G.st ++ numb G.last ms, last := G.last + ms.length, out := (doneM i m G.out).2 }) := by
  obtain ⟨c0, hc0, hcm⟩ := Option.map_eq_some_iff.1 hc
  have hi2 : i < w.cs.length := (List.getElem?_eq_some_iff.1 hc0).1
  have hnth : nth (ptrsV w.cs) ((i : Int).toNat * 1 + 0) = some (.pointer (some ⟨c.m, 0, none⟩)) := by rw [Int.toNat_natCast, nth_eq]; simp [ptrsV, hc0, hcm]
  have hveo := hms.one
  obtain ⟨hrx, hrD, hrap, hrb⟩ := mrest_x m
  refine tri_of Tryz.func44 rfl Tryz.ntmps44 rfl (fun σ F Q hret hend hpan => ?_)
  try simp only [cA, nA]
  refine cj_seq fun K1 hK1 => cj_region ?_
  refine Pm ?_
  refine Pa (y_nilCheck rfl) ?_
  refine Pa (Ga Tryz.underlying90 Tryz.sizeOf66) ?_
  first | refine Pa (La o66) ?_ | refine Pa (Ls o66) ?_
  refine Pm ?_
  refine Ra Tryz.call65 (netPut_t w.n w.vn G.last G.st w.css hel vl ms hms hsm hla hst) ?_
  rintro r R2 L' hR2 ⟨vn, css, hels, rfl⟩
  have hv2 := hv.mono hR2
  try simp only [cA, nA]
  refine rj_nil (hK1 _ _ _ (cj_seq fun K2 hK2 => cj_region ?_))
  refine Pm ?_
  refine Pa (y_nilCheck rfl) ?_
  refine Pa (Ga Tryz.underlying90 Tryz.sizeOf88) ?_
  first | refine Pa (La o88) ?_ | refine Pa (Ls o88) ?_
  refine Pm ?_
  refine Pa ((y_index_slc (sz := 1) (n := w.cs.length) Tryz.underlying88 Tryz.sizeOf81 rfl rfl fd_ (by omega))) ?_
  refine Pa ((y_load_slc o81 rfl fd_ hnth)) ?_
  refine Ps ?_
  refine rj_nil (hK2 _ _ _ (cj_seq fun K3 hK3 => cj_seq fun K4 hK4 => cj_region ?_))
  refine Pm ?_
  refine Pa (y_nilCheck rfl) ?_
  refine Pa (Ga Tryz.underlying87 Tryz.sizeOf56) ?_
  first | refine Pa (La o56) ?_ | refine Pa (Ls o56) ?_
  refine Pa (Ca Tryz.call37 (ndDown_q c.b c.v m.x m.D)) ?_
  refine rj_nil (hK4 _ _ _ ?_)
  refine cj_env (eL 0 rfl (eL 1 rfl (eL 6 rfl (eL 29 rfl eN)))) ?_
  refine cj_cond rfl (fun hc29 => ?_) (fun hc29 => ?_)
  have f0 : m.dn = true := hc29
  have e0 : doneM i m G.out = (m, G.out) := by unfold doneM; rw [if_pos f0]
  refine cj_ret (hret _ _ _ ?_)
  refine Ea Tryz.results44 .nil (memL c m ++ grR { w with vn := vn, css := css, vo := w.vo } { G with st := G.st ++ numb G.last ms, last := G.last + ms.length, out := G.out }) (by first | exact Hp.le_trans hR2 hR4 | exact hR2) ?_
  rw [e0]; exact ⟨c.vl, vn, css, w.vo, hels, rfl⟩
  have f0 : ¬ m.dn = true := by unfold MS.dn; rw [show downS (m.x, m.D) = false from hc29]; decide
  obtain ⟨hgo, hco, hrl⟩ := hg f0
  have hgb := hgo.base
  have hgs := hgo.state
  have hga := hgo.alln
  have e0 : doneM i m G.out = m.rest.todo.foldl (app1 i) (m.rest, G.out) := by unfold doneM; rw [if_neg f0]
  refine cj_skip (hK3 _ _ _ (cj_seq fun K6 hK6 => ?_))
  have hJ7 : ∀ (x : Value × MS × Hp), m.rest = x.2.1 ∧ R2.le x.2.2 → EJ ⟨Tryz.prog, 116, σ⟩ K6 [(0, .pointer (some ⟨w.g, 0, none⟩)), (1, .int .i64 (i : Int)), (6, .pointer (some ⟨c.m, 0, none⟩))] x.2.2 (mbB c x.2.1.ap :: lsB c.l x.1 :: lsS x.1 x.2.1.l :: (ndI c.b c.v m.x m.D ++ [grB w, grS w, netB w.n vn (G.last + ms.length), netS vn (G.st ++ numb G.last ms) css, ocS w.vo G.out]) ++ F) := by
    rintro ⟨vl4, m4, R4⟩ ⟨hm4, hR4⟩
    try dsimp only
    dsimp only at hm4 hR4
    subst hm4
    refine ej_pure (A := lsS vl4 m.rest.l) fd_ slc_one (fun hvl4 => ?_)
    refine ej_pure (A := ocS w.vo G.out) fd_ slc_one (fun hvo4 => ?_)
    have hv4 := hv2.mono hR4
    have htl := todo_len (m := m.rest)
    rw [hrx] at htl
    refine hK6 _ _ _ (cj_block ?_)
    rw [show mbB c m.rest.ap = mbB c (m.rest.ap + ((0 : Nat) : Int)) by simp, show lsS vl4 m.rest.l = lsS vl4 (m.rest.apply i G.out 0).1.l from rfl, show ocS w.vo G.out = ocS w.vo (m.rest.apply i G.out 0).2 from rfl]
    refine cj_env (E' := (fun (y : Nat × Value × Value) => [(0, .pointer (some ⟨w.g, 0, none⟩)), (1, .int .i64 (i : Int)), (6, .pointer (some ⟨c.m, 0, none⟩))]) (0, vl4, w.vo)) (eC rfl (eC rfl (eC rfl eN))) ?_
    refine cj_sub (M := (fun (y : Nat × Value × Value) => mbB c (m.rest.ap + (y.1 : Int)) :: lsB c.l y.2.1 :: lsS y.2.1 (m.rest.apply i G.out y.1).1.l :: (ndI c.b c.v m.x m.D ++ [grB { w with vo := y.2.2 }, grS w, netB w.n vn (G.last + ms.length), netS vn (G.st ++ numb G.last ms) css, ocS y.2.2 (m.rest.apply i G.out y.1).2]) ++ F) (0, vl4, w.vo)) sb_ ?_
    refine cj_loop (fun (y : Nat × Value × Value) => [(0, .pointer (some ⟨w.g, 0, none⟩)), (1, .int .i64 (i : Int)), (6, .pointer (some ⟨c.m, 0, none⟩))]) (fun (y : Nat × Value × Value) => R4) (fun (y : Nat × Value × Value) => mbB c (m.rest.ap + (y.1 : Int)) :: lsB c.l y.2.1 :: lsS y.2.1 (m.rest.apply i G.out y.1).1.l :: (ndI c.b c.v m.x m.D ++ [grB { w with vo := y.2.2 }, grS w, netB w.n vn (G.last + ms.length), netS vn (G.st ++ numb G.last ms) css, ocS y.2.2 (m.rest.apply i G.out y.1).2]) ++ F) (fun (y : Nat × Value × Value) => y.1 ≤ m.rest.todo.length ∧ y.2.1.oneCell' = true ∧ y.2.2.oneCell' = true) (fun (y : Nat × Value × Value) => m.rest.todo.length - y.1) (0, vl4, w.vo) (⟨by simp, hvl4, hvo4⟩) ?_
    rintro ⟨k, vk, vo⟩ ⟨hk, hvk, hvo⟩
    try dsimp only
    dsimp only at hk hvk hvo
    obtain ⟨p1, p2, p3, p4, p5⟩ := app_x (i : Int) (m.rest.todo.take k) (m.rest, G.out)
    have p33 : (m.rest.apply i G.out k).1.ap = m.rest.ap + (k : Int) := by rw [show (m.rest.apply i G.out k) = (m.rest.todo.take k).foldl (app1 i) (m.rest, G.out) from rfl, p3, List.length_take, Nat.min_eq_left (by omega)]
    have p55 : (m.rest.apply i G.out k).2.length ≤ 1000200000 := Nat.le_trans p5 (by have h9 : (m.rest.todo.take k).length = min k m.rest.todo.length := List.length_take; dsimp only; omega)
    have px : (m.rest.apply i G.out k).1.x = m.x := p1.trans hrx
    have pD : (m.rest.apply i G.out k).1.D = m.D := p2.trans hrD
    have pfin : m.rest.todo.length ≤ k → doneM i m G.out = m.rest.apply i G.out k := fun h => by rw [e0, apply_all h]
    refine cj_seq fun K7 hK7 => cj_seq fun K8 hK8 => ?_
    refine cj_draw (by kernel_rfl) (by kernel_rfl) ?_
    refine Qa (y_move rfl) ?_
    refine Qa (y_nilCheck rfl) ?_
    refine Qa (Ga Tryz.underlying87 Tryz.sizeOf36) ?_
    first | refine Qa (La o36) ?_ | refine Qa (Ls o36) ?_
    refine Qa (y_move rfl) ?_
    refine Qa (y_nilCheck rfl) ?_
    refine Qa (Ga Tryz.underlying87 Tryz.sizeOf56) ?_
    first | refine Qa (La o56) ?_ | refine Qa (Ls o56) ?_
    refine Qa (Ca Tryz.call39 (ndCommit_q c.b c.v m.x)) ?_
    refine Qa (y_lss rfl rfl) ?_
    refine qj_nil ?_
    refine hK8 _ _ _ ?_
    refine cj_cond rfl (fun hc65 => ?_) (fun hc65 => ?_)
    have f2 : m.rest.ap + (k : Int) < m.x.commit := by simpa using hc65
    obtain ⟨e, ok, hev, hok1, hok2⟩ := entV_cases (m.rest.todo[k]?)
    have hat : ∀ R1, R4.le R1 → QTri Tryz.prog 40 [.pointer (some ⟨c.b.l, 0, none⟩), .int .u64 (m.rest.ap + (k : Int) + 1)] R1 [lgN c.b c.v m.x] (tupOf [.agg ⟨entC e⟩, .bool ok]) := fun R1 hR1 => by rw [← hev, show m.rest.todo[k]? = m.x.g.at (m.rest.ap + (k : Int) + 1) by rw [← hrx]; exact (todo_at (by rw [hrx]; exact hrb) (by rw [hrx]; exact f2)).symm]; exact lgAt_q (R := R1) c.b.l (some ⟨c.b.d, 0, none⟩) c.v.va m.x.g hgo (hv4.va.mono hR1) (m.rest.ap + (k : Int) + 1) (by unfold u64B; omega)
    refine cj_skip (hK7 _ _ _ (cj_block (cj_seq fun K10 hK10 => ?_)))
    refine cj_mixg (L := [mbB c (m.rest.ap + (k : Int)), ndB c.b c.v m.x, lgN c.b c.v m.x]) [0, 1, 2, 3, 4, 5, 6, 7, 8, 9, 10, 11, 12, 13] [14, 15] [16] _ sb_ (by kernel_rfl) (by kernel_rfl) (by kernel_rfl) rfl ?_
    refine Wa rfl (fun R1 hR1 G => (y_move rfl)) ?_
    refine Wa rfl (fun R1 hR1 G => (y_nilCheck rfl)) ?_
    refine Wa rfl (fun R1 hR1 G => (Ga Tryz.underlying87 Tryz.sizeOf56)) ?_
    first | refine Wa rfl (fun R1 hR1 G => (La o56)) ?_ | refine Wa rfl (fun R1 hR1 G => (Ls o56)) ?_
    refine Wa rfl (fun R1 hR1 G => (Ca Tryz.call23 (ndLog_q c.b c.v m.x))) ?_
    refine Wa rfl (fun R1 hR1 G => (y_move rfl)) ?_
    refine Wa rfl (fun R1 hR1 G => (y_nilCheck rfl)) ?_
    refine Wa rfl (fun R1 hR1 G => (Ga Tryz.underlying87 Tryz.sizeOf36)) ?_
    first | refine Wa rfl (fun R1 hR1 G => (La o36)) ?_ | refine Wa rfl (fun R1 hR1 G => (Ls o36)) ?_
    refine Wa rfl (fun R1 hR1 G => (y_addu rfl rfl (by omega))) ?_
    refine Wa rfl (fun R1 hR1 G => (Ca Tryz.call40 (hat R1 hR1))) ?_
    refine Wa rfl (fun R1 hR1 G => (y_move rfl)) ?_
    refine Wa rfl (fun R1 hR1 G => (y_extract rfl rfl)) ?_
    refine Wa rfl (fun R1 hR1 G => (y_extract rfl rfl)) ?_
    refine fj_nil ?_
    refine xj_rj rfl ?_
    try simp only [cA, nA, List.append_nil]
    refine rj_alloc (wn0 rfl) rfl Tryz.zeroValue93 rfl (fun be => ?_)
    refine rj_xk le_ sb_ ?_
    refine xj_rj rfl ?_
    try simp only [cA, nA, List.append_nil]
    refine Sm (vs := entC e) m93 (entE.one (R := R4) (x := e) rfl) ?_
    refine rj_xk le_ sb_ ?_
    refine xj_nil ?_
    try simp only [cA, nA, List.append_nil]
    refine Ps ?_
    refine rj_nil (hK10 _ _ _ ?_)
    refine cj_env (eL 0 rfl (eL 1 rfl (eL 6 rfl (eL 10 rfl (eL 11 rfl eN))))) ?_
    refine cj_seq fun K11 hK11 => cj_seq fun K12 hK12 => cj_region ?_
    refine Pm ?_
    refine Pa (y_not rfl) ?_
    refine rj_nil (hK12 _ _ _ ?_)
    refine cj_cond rfl (fun hc81 => ?_) (fun hc81 => ?_)
    have g1 := hok2 (by simpa using hc81)
    have f3 : m.rest.todo.length ≤ k := by rw [List.getElem?_eq_none_iff] at g1; exact g1
    refine cj_ret (hret _ _ _ ?_)
    refine Ea Tryz.results44 .nil (mbB c (m.rest.ap + (k : Int)) :: lsB c.l vk :: lsS vk (m.rest.apply i G.out k).1.l :: (ndI c.b c.v m.x m.D ++ [grB { w with vo := vo }, grS w, netB w.n vn (G.last + ms.length), netS vn (G.st ++ numb G.last ms) css, ocS vo (m.rest.apply i G.out k).2])) (by first | exact Hp.le_trans hR2 hR4 | exact hR2) ?_
    refine ⟨vk, vn, css, vo, hels.mono hR4, ?_⟩
    rw [pfin f3]; simp only [memL, px, pD, p33]; rfl
    have g1 := hok1 (by simpa using hc81)
    have g2 : k < m.rest.todo.length := (List.getElem?_eq_some_iff.1 g1).1
    have hs := apply_succ (i := (i : Int)) (o := G.out) g1
    have p44 : (m.rest.apply i G.out k).1.l.length ≤ 200000 := Nat.le_trans p4 (by have h9 : (m.rest.todo.take k).length = min k m.rest.todo.length := List.length_take; dsimp only; omega)
    refine cj_skip (hK11 _ _ _ (cj_seq fun K14 hK14 => cj_region ?_))
    refine Pm ?_
    refine Pa (y_nilCheck rfl) ?_
    refine Pa (Ga Tryz.underlying87 Tryz.sizeOf36) ?_
    first | refine Pa (La o36) ?_ | refine Pa (Ls o36) ?_
    refine Pa ((Yld.to (u := .int .u64 (m.rest.ap + ((k + 1 : Nat) : Int))) (y_addu rfl rfl (by omega)) (by congr 1; omega))) ?_
    refine Pa (y_nilCheck rfl) ?_
    refine Pa (Ga Tryz.underlying87 Tryz.sizeOf36) ?_
    refine Sa o36 ?_
    refine rj_nil (hK14 _ _ _ (cj_seq fun K15 hK15 => cj_region ?_))
    refine Pa (Ga Tryz.underlying93 Tryz.sizeOf9) ?_
    first | refine Pa (La o9) ?_ | refine Pa (Ls o9) ?_
    refine Pa (y_sneq rfl rfl) ?_
    refine rj_nil (hK15 _ _ _ ?_)
    refine cj_cond rfl (fun hc91 => ?_) (fun hc91 => ?_)
    have f4 : ¬ e.2 = [] := by simpa using hc91
    have q1 : (m.rest.apply i G.out (k + 1)).1.l = (m.rest.apply i G.out k).1.l ++ [e.2] := by rw [hs]; unfold app1; rw [if_neg f4]
    have q2 : (m.rest.apply i G.out (k + 1)).2 = (m.rest.apply i G.out k).2 ++ [⟨i, m.rest.ap + ((k + 1 : Nat) : Int), e.1, cmdOut ((m.rest.apply i G.out k).1.l.length + 1)⟩] := by rw [hs]; unfold app1; rw [if_neg f4]; dsimp only; rw [p33]; congr 3; omega
    refine cj_mixg (L := [grB { w with vo := vo }, mbB c (m.rest.ap + ((k + 1 : Nat) : Int)), blk be (entC e) 93]) [0, 1, 2, 3, 4, 5, 6, 7, 8, 9, 10, 11, 12, 13, 14, 15, 16, 17] [18, 19, 20, 21] [22, 23, 24] _ sb_ (by kernel_rfl) (by kernel_rfl) (by kernel_rfl) rfl ?_
    refine Wa rfl (fun R1 hR1 G => (y_move rfl)) ?_
    refine Wa rfl (fun R1 hR1 G => (y_move rfl)) ?_
    refine Wa rfl (fun R1 hR1 G => (y_nilCheck rfl)) ?_
    refine Wa rfl (fun R1 hR1 G => (Ga Tryz.underlying90 Tryz.sizeOf34)) ?_
    first | refine Wa rfl (fun R1 hR1 G => (La o34)) ?_ | refine Wa rfl (fun R1 hR1 G => (Ls o34)) ?_
    refine Wa rfl (fun R1 hR1 G => (y_move rfl)) ?_
    refine Wa rfl (fun R1 hR1 G => (y_move rfl)) ?_
    refine Wa rfl (fun R1 hR1 G => (y_nilCheck rfl)) ?_
    refine Wa rfl (fun R1 hR1 G => (Ga Tryz.underlying87 Tryz.sizeOf36)) ?_
    first | refine Wa rfl (fun R1 hR1 G => (La o36)) ?_ | refine Wa rfl (fun R1 hR1 G => (Ls o36)) ?_
    refine Wa rfl (fun R1 hR1 G => (Ga Tryz.underlying93 Tryz.sizeOf36)) ?_
    first | refine Wa rfl (fun R1 hR1 G => (La o36)) ?_ | refine Wa rfl (fun R1 hR1 G => (Ls o36)) ?_
    refine Wa rfl (fun R1 hR1 G => (y_move rfl)) ?_
    refine Wa rfl (fun R1 hR1 G => (y_nilCheck rfl)) ?_
    refine Wa rfl (fun R1 hR1 G => (Ga Tryz.underlying87 Tryz.sizeOf85)) ?_
    first | refine Wa rfl (fun R1 hR1 G => (La o85)) ?_ | refine Wa rfl (fun R1 hR1 G => (Ls o85)) ?_
    refine Wa rfl (fun R1 hR1 G => (Ga Tryz.underlying93 Tryz.sizeOf9)) ?_
    first | refine Wa rfl (fun R1 hR1 G => (La o9)) ?_ | refine Wa rfl (fun R1 hR1 G => (Ls o9)) ?_
    refine fj_nil ?_
    refine xj_rj rfl ?_
    try simp only [cA, nA, List.append_nil]
    refine rj_invoke (wn0 rfl) rfl rfl (fun w => by kernel_rfl) Tryz.call170 rfl (apply_t c.l vk (m.rest.apply i G.out k).1.l e.2 p44) sp_ (fun _ _ _ _ h => h.elim) ?_
    rintro r R5 L' hR5 ⟨rfl, rfl, v110, rfl⟩
    rw [← q1]
    refine rj_pure (A := lsS v110 (m.rest.apply i G.out (k + 1)).1.l) fd_ slc_one (fun h110 => ?_)
    try simp only [cA, nA]
    refine rj_xk le_ sb_ ?_
    refine xj_rj rfl ?_
    try simp only [cA, nA, List.append_nil]
    refine Pa (y_build (cells := [_, _, _, _]) [(0, 1), (1, 1), (2, 1), (3, 1)] Tryz.underlying41 Tryz.zeroValue41 (fun _ => rfl) rfl rfl) ?_
    refine rj_xk le_ sb_ ?_
    refine xj_rj rfl ?_
    try simp only [cA, nA, List.append_nil]
    refine rj_buildSlice (sz := 4) (wn0 rfl) rfl Tryz.underlying34 Tryz.sizeOf41 Tryz.zeroValue41 rfl rfl rfl (by decide) (by decide) (fun bo => ?_)
    refine rj_xk le_ sb_ ?_
    refine xj_rj rfl ?_
    try simp only [cA, nA, List.append_nil]
    refine rj_append (sz := 4) (by_ := 40) ⟨Tryz.underlying34, _, _, rfl, rfl, rfl, rfl, rfl⟩ (wn0 rfl) rfl rfl rfl fd_ (src_slc (xs := ocC ⟨i, m.rest.ap + ((k + 1 : Nat) : Int), e.1, cmdOut ((m.rest.apply i G.out k).1.l.length + 1)⟩) Tryz.underlying34 fd_ (by unfold ocC; (first | (simp [Value.oneCell']; done) | (intro u hu; simp only [List.mem_cons, List.not_mem_nil, or_false] at hu; rcases hu with rfl | rfl | rfl | rfl <;> first | rfl | assumption)))) rfl om_ (by simp only [maxLen]; omega) (fun v113 ho113 hh113 => ?_)
    rw [ocV_snoc, ← q2]
    rw [show (m.rest.apply i G.out k).2.length + 1 = (m.rest.apply i G.out (k + 1)).2.length by rw [q2]; simp]
    refine rj_xk le_ sb_ ?_
    refine xj_nil ?_
    try simp only [cA, nA, List.append_nil]
    refine Pa (y_nilCheck rfl) ?_
    refine Pa (Ga Tryz.underlying90 Tryz.sizeOf34) ?_
    refine Sa o34 ?_
    refine rj_nil ?_
    refine ej_on (q' := roundK _ _ _ _ _ _ _) rfl ?_
    refine ej_round ((k + 1, v110, v113)) (⟨by dsimp only; omega, by assumption, by assumption⟩) (by dsimp only; omega) (eC rfl (eC rfl (eC rfl eN))) rfl sb_
    have f4 : e.2 = [] := by simpa using hc91
    have q1 : (m.rest.apply i G.out (k + 1)).1.l = (m.rest.apply i G.out k).1.l := by rw [hs]; unfold app1; rw [if_pos f4]
    have q2 : (m.rest.apply i G.out (k + 1)).2 = (m.rest.apply i G.out k).2 := by rw [hs]; unfold app1; rw [if_pos f4]
    rw [← q1, ← q2]
    refine cj_skip ?_
    refine ej_on (q' := roundK _ _ _ _ _ _ _) rfl ?_
    refine ej_round ((k + 1, vk, vo)) (⟨by dsimp only; omega, hvk, hvo⟩) (by dsimp only; omega) (eC rfl (eC rfl (eC rfl eN))) rfl sb_
    have f2 : ¬ m.rest.ap + (k : Int) < m.x.commit := by simpa using hc65
    have f3 : m.rest.todo.length ≤ k := by omega
    refine cj_exit (hend _ _ _ ?_)
    apply ej_end Tryz.results44 .nil _ (mbB c (m.rest.ap + (k : Int)) :: lsB c.l vk :: lsS vk (m.rest.apply i G.out k).1.l :: (ndI c.b c.v m.x m.D ++ [grB { w with vo := vo }, grS w, netB w.n vn (G.last + ms.length), netS vn (G.st ++ numb G.last ms) css, ocS vo (m.rest.apply i G.out k).2])) (by first | exact Hp.le_trans hR2 hR4 | exact hR2) rfl
    case hp =>
      refine ⟨vk, vn, css, vo, hels.mono hR4, ?_⟩
      rw [pfin f3]; simp only [memL, px, pD, p33]; rfl
    case hS => exact sb_
  refine cj_seq fun K17 hK17 => cj_region ?_
  refine Pm ?_
  refine Pa (y_nilCheck rfl) ?_
  refine Pa (Ga Tryz.underlying87 Tryz.sizeOf56) ?_
  first | refine Pa (La o56) ?_ | refine Pa (Ls o56) ?_
  refine Pa (Ca Tryz.call23 (ndLog_q c.b c.v m.x)) ?_
  refine Pa (Ca Tryz.call25 (lgBase_q c.b.l (some ⟨c.b.d, 0, none⟩) c.v.va m.x.g)) ?_
  refine Pm ?_
  refine Pa (y_extract rfl rfl) ?_
  refine Pa (y_extract rfl rfl) ?_
  refine Pa (y_extract rfl rfl) ?_
  refine Ps ?_
  refine Ps ?_
  refine Ps ?_
  refine rj_nil (hK17 _ _ _ ?_)
  refine cj_env (eL 0 rfl (eL 1 rfl (eL 6 rfl (eL 7 rfl (eL 9 rfl eN))))) ?_
  refine cj_seq fun K18 hK18 => cj_region ?_
  refine Pm ?_
  refine Pm ?_
  refine Pa (y_nilCheck rfl) ?_
  refine Pa (Ga Tryz.underlying87 Tryz.sizeOf36) ?_
  first | refine Pa (La o36) ?_ | refine Pa (Ls o36) ?_
  refine Pa (y_gtr rfl rfl) ?_
  refine rj_nil (hK18 _ _ _ ?_)
  refine cj_cond rfl (fun hc45 => ?_) (fun hc45 => ?_)
  have f1 : m.x.g.base > m.ap := by simpa using hc45
  have e1 : m.rest = { m with l := unS m.x.g.state, ap := m.x.g.base } := by unfold MS.rest; rw [if_pos f1]
  refine cj_seq fun K20 hK20 => cj_region ?_
  refine Pm ?_
  refine Pa (y_nilCheck rfl) ?_
  refine Pa (Ga Tryz.underlying87 Tryz.sizeOf85) ?_
  first | refine Pa (La o85) ?_ | refine Pa (Ls o85) ?_
  refine Pm ?_
  refine rj_invoke (wn0 rfl) rfl rfl (fun w => by kernel_rfl) Tryz.call171 rfl (restore_t c.l c.vl m.l m.x.g.state (by omega)) sp_ (fun _ _ _ _ h => h.elim) ?_
  rintro r R3 L' hR3 ⟨rfl, vl3, rfl⟩
  try simp only [cA, nA]
  refine rj_nil (hK20 _ _ _ (cj_region ?_))
  refine Pm ?_
  refine Pm ?_
  refine Pa (y_nilCheck rfl) ?_
  refine Pa (Ga Tryz.underlying87 Tryz.sizeOf36) ?_
  refine Sa o36 ?_
  refine rj_nil ?_
  refine ej_join hJ7 ((vl3, { m with l := unS m.x.g.state, ap := m.x.g.base }, R3)) (⟨e1, hR3⟩) (eC rfl (eC rfl (eC rfl eN))) rfl sb_
  have f1 : ¬ m.x.g.base > m.ap := by simpa using hc45
  have e1 : m.rest = m := by unfold MS.rest; rw [if_neg f1]
  refine cj_skip ?_
  refine ej_join hJ7 ((c.vl, m, R2)) (⟨e1, Hp.le_refl _⟩) (eC rfl (eC rfl (eC rfl eN))) rfl sb_
end V
end Go.Proofs.YtenfjpigffjgmaaGreat
set_option linter.unusedSimpArgs false
set_option linter.unusedVariables false
set_option maxRecDepth 100000
namespace Go.Proofs.YtenfjpigffjgmaaGreat
open Go.RowKit
namespace V
set_option maxHeartbeats 4000000
theorem runD_t {R : Hp} (b : NB) (v : NV) (x : ND) (D : DK) (fk : FuncId) (caps : List Value) (Ex : List Asn) (hd : downS (x, D) = true) :
    Tri Tryz.prog 62 [.pointer (some ⟨b.x, 0, none⟩), .func (.func fk) ⟨[]⟩ ⟨caps⟩] R (ndI b v x D ++ Ex) (fun r R' L' => r = .slice none 0 0 ∧ L' = ndI b v x D ++ Ex) := by
  refine tri_of_d Tryz.func62 rfl Tryz.ntmps62 rfl (fun σ F Q hret hend hpan hQ => ?_)
  try simp only [cA, nA]
  refine cj_seq fun K1 hK1 => ?_
  refine cj_region ?_
  refine rj_alloc (wn0 rfl) rfl Tryz.zeroValue98 rfl (fun b4 => ?_)
  refine rj_nil ?_
  refine hK1 _ _ _ ?_
  refine cj_seq fun K2 hK2 => ?_
  refine cj_seq fun K3 hK3 => ?_
  refine cj_region ?_
  refine Pm ?_
  refine Pa (Ca Tryz.call37 ((ndDown_q b v x D).eq3 (v' := .bool true) (by rw [hd]))) ?_
  refine rj_nil ?_
  refine hK3 _ _ _ ?_
  refine cj_cond_t rfl ?_
  refine cj_seq fun K4 hK4 => ?_
  refine cj_region ?_
  refine Sa o98 ?_
  refine rj_nil ?_
  refine hK4 _ _ _ ?_
  refine cj_ret ?_
  refine hret _ _ _ ?_
  apply ej_ret Tryz.results62 (.cons (rv_cell o98 rfl fd_ rfl) .nil) _ (ndI b v x D ++ Ex) (Hp.le_refl _) rfl
  case hp => exact ⟨rfl, rfl⟩
  case hS => exact sb_
theorem tickD_t {R : Hp} (b : NB) (v : NV) (x : ND) (D : DK) (hd : downS (x, D) = true) : Tri Tryz.prog 50 [.pointer (some ⟨b.x, 0, none⟩)] R (ndI b v x D) (fun r R' L' => r = .slice none 0 0 ∧ L' = ndI b v x D) := by
  refine tri_of Tryz.func50 rfl Tryz.ntmps50 rfl (fun σ F Q hret hend hpan => ?_)
  try simp only [cA, nA]
  refine cj_seq fun K1 hK1 => cj_region ?_
  refine rj_box (wn0 rfl) rfl rfl rfl (fun bX => ?_)
  refine Ps ?_
  refine rj_nil (hK1 _ _ _ (cj_seq fun K2 hK2 => cj_region ?_))
  first | refine Pa (La o56) ?_ | refine Pa (Ls o56) ?_
  refine Pa (y_makeFunc rfl rfl) ?_
  refine Ra Tryz.call62 (runD_t b v x D 68 [.pointer (some ⟨bX, 0, none⟩)] [blk bX [.pointer (some ⟨b.x, 0, none⟩)] 56] hd) ?_
  rintro r R2 L' hR2 ⟨rfl, rfl⟩
  try simp only [cA, nA]
  refine Ps ?_
  refine rj_nil (hK2 _ _ _ (cj_ret (hret _ _ _ ?_)))
  apply ej_ret Tryz.results50 (.cons (rv_tmp rfl) .nil) _ (ndI b v x D) hR2 rfl
  case hp => exact ⟨rfl, rfl⟩
  case hS => exact sb_
theorem receiveD_t {R : Hp} (b : NB) (v : NV) (x : ND) (D : DK) (m : Msg) (ve : Value) (hve : FrX entE R m.es ve) (hd : downS (x, D) = true) : Tri Tryz.prog 53 [.pointer (some ⟨b.x, 0, none⟩), .agg ⟨msgC m ve⟩] R (ndI b v x D) (fun r R' L' => r = .slice none 0 0 ∧ L' = ndI b v x D) := by
  have hveo := hve.one
  refine tri_of Tryz.func53 rfl Tryz.ntmps53 rfl (fun σ F Q hret hend hpan => ?_)
  try simp only [cA, nA]
  refine cj_seq fun K1 hK1 => cj_region ?_
  refine rj_box (wn0 rfl) rfl rfl rfl (fun bX => ?_)
  refine rj_box (wn0 rfl) rfl rfl rfl (fun bM => ?_)
  refine Ps ?_
  refine rj_nil (hK1 _ _ _ (cj_seq fun K2 hK2 => cj_region ?_))
  first | refine Pa (La o56) ?_ | refine Pa (Ls o56) ?_
  refine Pa (y_makeFunc rfl rfl) ?_
  refine Ra Tryz.call62 (runD_t b v x D 73 [.pointer (some ⟨bM, 0, none⟩), .pointer (some ⟨bX, 0, none⟩)] [blk bX [.pointer (some ⟨b.x, 0, none⟩)] 56, blk bM (msgC m ve) 117] hd) ?_
  rintro r R2 L' hR2 ⟨rfl, rfl⟩
  try simp only [cA, nA]
  refine Ps ?_
  refine rj_nil (hK2 _ _ _ (cj_ret (hret _ _ _ ?_)))
  apply ej_ret Tryz.results53 (.cons (rv_tmp rfl) .nil) _ (ndI b v x D) hR2 rfl
  case hp => exact ⟨rfl, rfl⟩
  case hS => exact sb_
theorem proposeD_t {R : Hp} (b : NB) (v : NV) (x : ND) (D : DK) (cmd : Bs) (hd : downS (x, D) = true) : Tri Tryz.prog 43 [.pointer (some ⟨b.x, 0, none⟩), .string (str cmd)] R (ndI b v x D) (fun r R' L' => r = tupOf [.int .u64 0, .int .u64 0, .slice none 0 0] ∧ L' = ndI b v x D) := by
  refine tri_of Tryz.func43 rfl Tryz.ntmps43 rfl (fun σ F Q hret hend hpan => ?_)
  try simp only [cA, nA]
  refine cj_seq fun K1 hK1 => cj_region ?_
  refine rj_box (wn0 rfl) rfl rfl rfl (fun bX => ?_)
  refine rj_box (wn0 rfl) rfl rfl rfl (fun bC => ?_)
  refine Ps ?_
  refine Ps ?_
  refine Ps ?_
  refine rj_nil (hK1 _ _ _ (cj_seq fun K2 hK2 => cj_seq fun K3 hK3 => cj_region ?_))
  first | refine Pa (La o56) ?_ | refine Pa (Ls o56) ?_
  refine Pa (Ca Tryz.call38 (ndRole_q b v x)) ?_
  refine Pa (y_neq rfl rfl) ?_
  refine rj_nil (hK3 _ _ _ ?_)
  refine cj_cond rfl (fun hc10 => ?_) (fun hc10 => ?_)
  try simp only [dT, dF, nT, nF, tF, fT] at hc10
  refine cj_seq fun K5 hK5 => cj_region ?_
  refine Ps ?_
  refine Ps ?_
  refine Ps ?_
  refine rj_nil (hK5 _ _ _ (cj_ret (hret _ _ _ ?_)))
  refine Ea Tryz.results43 (.cons (rv_tmp rfl) (.cons (rv_tmp rfl) (.cons (rv_tmp rfl) .nil))) (ndI b v x D) (by first | exact Hp.le_refl _ | assumption) ?_
  exact ⟨rfl, rfl⟩
  try simp only [dT, dF, nT, nF, tF, fT] at hc10
  refine cj_skip (hK2 _ _ _ (cj_seq fun K6 hK6 => cj_region ?_))
  first | refine Pa (La o56) ?_ | refine Pa (Ls o56) ?_
  refine Pa (y_makeFunc rfl rfl) ?_
  refine Ra Tryz.call62 (runD_t b v x D 63 [.pointer (some ⟨bX, 0, none⟩), .pointer (some ⟨bC, 0, none⟩)] [blk bX [.pointer (some ⟨b.x, 0, none⟩)] 56, blk bC [.string (str cmd)] 9] hd) ?_
  rintro r R2 L' hR2 ⟨rfl, rfl⟩
  try simp only [cA, nA]
  refine Ps ?_
  refine rj_nil (hK6 _ _ _ (cj_seq fun K7 hK7 => cj_seq fun K8 hK8 => cj_region ?_))
  first | refine Pa (La o56) ?_ | refine Pa (Ls o56) ?_
  refine Pa (Ca Tryz.call37 ((ndDown_q b v x D).eq3 (v' := .bool true) (by rw [hd]))) ?_
  refine rj_nil (hK8 _ _ _ (cj_cond_t rfl (cj_seq fun K9 hK9 => cj_region ?_)))
  refine Ps ?_
  refine Ps ?_
  refine Ps ?_
  refine rj_nil (hK9 _ _ _ (cj_ret (hret _ _ _ ?_)))
  refine Ea Tryz.results43 (.cons (rv_tmp rfl) (.cons (rv_tmp rfl) (.cons (rv_tmp rfl) .nil))) (ndI b v x D) (by first | exact Hp.le_refl _ | assumption) ?_
  exact ⟨rfl, rfl⟩
theorem runN_down {x : ND} {D : DK} {f : NS → Bool × NS} (h : downS (x, D) = true) : runN (x, D) f = ([], (x, D)) := by unfold runN; rw [if_pos h]
theorem mTick_t {R : Hp} (b : NB) (v : NV) (m : MS) (hw : MW m) (hv : NOk R v m.x) :
    Tri Tryz.prog 50 [.pointer (some ⟨b.x, 0, none⟩)] R (ndI b v m.x m.D) (fun r R' L' => ∃ v', FrX msgE R' m.tick.2 r ∧ NOk R' v' m.tick.1.x ∧ L' = ndI b v' m.tick.1.x m.tick.1.D) := by
  by_cases hd : downS (m.x, m.D) = true
  · refine Tri.mono (tickD_t b v m.x m.D hd) (fun r R' L' hR h => ?_) (fun _ _ _ _ h => h)
    obtain ⟨rfl, rfl⟩ := h
    have e : m.tick = (m, []) := by unfold MS.tick MS.act; rw [runN_down hd]; simp only [q_eq hw.out]
    rw [e]
    exact ⟨v, FrX.nil, hv.mono hR, rfl⟩
  · refine Tri.mono (tick_t b v m.x m.D 0 690000000 (by omega) (hw.up hd) hv hw.ok (by omega)) (fun r R' L' _ h => ?_) (fun _ _ _ _ h => h)
    obtain ⟨v', hr, hv', rfl⟩ := h
    exact ⟨_, hr, hv'.q, rfl⟩
theorem mRecv_t {R : Hp} (b : NB) (v : NV) (m : MS) (g : Msg) (ve : Value) (hw : MW m) (hg : MIm 0 g) (hve : FrX entE R g.es ve) (hv : NOk R v m.x) :
    Tri Tryz.prog 53 [.pointer (some ⟨b.x, 0, none⟩), .agg ⟨msgC g ve⟩] R (ndI b v m.x m.D) (fun r R' L' => ∃ v', FrX msgE R' (m.recv g).2 r ∧ NOk R' v' (m.recv g).1.x ∧ L' = ndI b v' (m.recv g).1.x (m.recv g).1.D) := by
  by_cases hd : downS (m.x, m.D) = true
  · refine Tri.mono (receiveD_t b v m.x m.D g ve hve hd) (fun r R' L' hR h => ?_) (fun _ _ _ _ h => h)
    obtain ⟨rfl, rfl⟩ := h
    have e : m.recv g = (m, []) := by unfold MS.recv MS.act; rw [runN_down hd]; simp only [q_eq hw.out]
    rw [e]
    exact ⟨v, FrX.nil, hv.mono hR, rfl⟩
  · refine Tri.mono (receive_t b v m.x m.D g ve 0 690000000 (by omega) (hw.up hd) hv hg hve hw.ok (by omega)) (fun r R' L' _ h => ?_) (fun _ _ _ _ h => h)
    obtain ⟨v', hr, hv', rfl⟩ := h
    exact ⟨_, hr, hv'.q, rfl⟩
theorem mProp_t {R : Hp} (b : NB) (v : NV) (m : MS) (cmd : Bs) (hw : MW m) (hc : cmd.length ≤ 100) (hv : NOk R v m.x) :
    Tri Tryz.prog 43 [.pointer (some ⟨b.x, 0, none⟩), .string (str cmd)] R (ndI b v m.x m.D) (fun r R' L' => ∃ v' vl, r = tupOf [.int .u64 (m.prop cmd).1.1, .int .u64 (m.prop cmd).1.2, vl] ∧ FrX msgE R' (m.prop cmd).2.2 vl ∧ NOk R' v' (m.prop cmd).2.1.x ∧ L' = ndI b v' (m.prop cmd).2.1.x (m.prop cmd).2.1.D) := by
  by_cases hd : downS (m.x, m.D) = true
  · refine Tri.mono (proposeD_t b v m.x m.D cmd hd) (fun r R' L' hR h => ?_) (fun _ _ _ _ h => h)
    obtain ⟨rfl, rfl⟩ := h
    have e : proposeN (m.x, m.D) cmd = ((0, 0, []), (m.x, m.D)) := by
      unfold proposeN
      rw [runN_down hd]
      by_cases h : m.x.role = 2
      · rw [if_neg (by simp [h]), if_pos hd]
      · rw [if_pos h]
    have e2 : m.prop cmd = ((0, 0), (m, [])) := by unfold MS.prop MS.act; rw [e]; simp only [q_eq hw.out]
    rw [e2]
    exact ⟨v, _, rfl, FrX.nil, hv.mono hR, rfl⟩
  · refine Tri.mono (propose_t b v m.x m.D cmd 0 690000000 (by omega) (hw.up hd) hv hc hw.ok (by omega)) (fun r R' L' _ h => ?_) (fun _ _ _ _ h => h)
    obtain ⟨vl, v', rfl, hr, hv', rfl⟩ := h
    exact ⟨_, _, rfl, hr, hv'.q, rfl⟩
end V
end Go.Proofs.YtenfjpigffjgmaaGreat
set_option linter.unusedSimpArgs false
set_option linter.unusedVariables false
set_option maxRecDepth 100000
namespace Go.Proofs.YtenfjpigffjgmaaGreat
open Go.RowKit
namespace V
set_option maxHeartbeats 4000000
theorem doneM_x (i : Int) (m : MS) (o : List OC) : (doneM i m o).1.x = m.x ∧ (doneM i m o).1.D = m.D := by
  unfold doneM
  split
  · exact ⟨rfl, rfl⟩
  · obtain ⟨a, b, _⟩ := app_x i m.rest.todo (m.rest, o)
    obtain ⟨c, d, _⟩ := mrest_x m
    exact ⟨a.trans c, b.trans d⟩
def ActP (w : GV) (c : MV) (m' : MS) (G' : GS) (R' : Hp) (L' : List Asn) : Prop :=
  ∃ c' vn css vo, c'.m = c.m ∧ NOk R' c'.v m'.x ∧ Els oneE R' G'.st css ∧ L' = memL c' m' ++ grR { w with vn := vn, css := css, vo := vo } G'
def GrP (w : GV) (G' : GS) (R' : Hp) (L' : List Asn) : Prop := ∃ vn css vo cs, GOk R' ⟨w.g, w.va, w.n, vn, css, vo, cs⟩ G' ∧ L' = grL ⟨w.g, w.va, w.n, vn, css, vo, cs⟩ G'
theorem ptrs_set {cs : List MV} {i : Nat} {c c' : MV} (hc : cs[i]? = some c) (h : c'.m = c.m) : ptrsV (cs.set i c') = ptrsV cs := by
  have hi := (List.getElem?_eq_some_iff.1 hc).1
  unfold ptrsV
  apply List.ext_getElem?
  intro j
  rw [List.getElem?_map, List.getElem?_map, List.getElem?_set]
  by_cases hj : i = j
  · subst hj; rw [if_pos rfl, if_pos hi, hc]; simp [h]
  · rw [if_neg hj]
theorem act_big {P : Program} {f : FuncId} {args : List Value} {R : Hp} {w : GV} {G G' : GS} {i : Nat} {c : MV} {m m' : MS} {Pr : Value → Prop} (hok : GOk R w G) (hc : w.cs[i]? = some c) (hm : G.ms[i]? = some m) (hms : G'.ms = G.ms.set i m')
    (h : Tri P f args R (memL c m ++ grR w G) (fun r R' L' => Pr r ∧ ActP w c m' G' R' L')) : Tri P f args R (grL w G) (fun r R' L' => Pr r ∧ GrP w G' R' L') := by
  have h2 := Tri.big (post := fun r R' As' L1 => Pr r ∧ ∃ c' vn css vo, c'.m = c.m ∧ NOk R' c'.v m'.x ∧ Els oneE R' G'.st css ∧ As' = memL c' m' ∧ L1 = grR { w with vn := vn, css := css, vo := vo } G') (mems_at hc hm)
    (Tri.mono h (fun r R' L' _ h => by
      obtain ⟨h0, c', vn, css, vo, h1, h2, h3, h4⟩ := h
      exact ⟨_, _, ⟨h0, c', vn, css, vo, h1, h2, h3, rfl, rfl⟩, h4⟩) (fun _ _ _ _ h => h))
  refine Tri.mono h2 (fun r R' L' hR h => ?_) (fun _ _ _ _ h => h)
  obtain ⟨As', L1, ⟨h0, c', vn, css, vo, hcm, h1, h2, rfl, rfl⟩, rfl⟩ := h
  have hi := (List.getElem?_eq_some_iff.1 hc).1
  refine ⟨h0, vn, css, vo, w.cs.set i c', ⟨?_, ?_, h2⟩, ?_⟩
  · rw [hms]; simp [hok.len]
  · intro j c1 m1 hc1 hm1
    rw [hms] at hm1
    dsimp only at hc1
    rw [List.getElem?_set] at hc1 hm1
    by_cases hj : i = j
    · subst hj
      rw [if_pos rfl, if_pos hi] at hc1
      rw [if_pos rfl, if_pos (by rw [← hok.len]; exact hi)] at hm1
      cases hc1; cases hm1
      exact h1
    · rw [if_neg hj] at hc1 hm1
      exact (hok.nd j c1 m1 hc1 hm1).mono hR
  · have e1 := ptrs_set hc hcm
    have e2 : (w.cs.set i c').length = w.cs.length := by simp
    simp only [grL, grR, grS, grB, e1, e2, hms]
    rw [mems_set]
theorem done_pre {G : GS} {i : Nat} {m : MS} {l : List Msg} (hi : i < G.ms.length) (hw : GW (G.done i m l)) (hap : 0 ≤ m.ap ∧ m.ap ≤ 150000000000000) (hl : 0 ≤ G.last) :
    (∀ x ∈ l, smallM x) ∧ G.st.length + l.length ≤ 1000000 ∧ (0 ≤ G.last ∧ G.last + l.length ≤ 1000000) ∧ (¬ m.dn = true → m.x.g.ok ∧ m.x.commit ≤ 150000000000000 ∧ m.rest.l.length ≤ 100000) := by
  have h1 := hw.st
  have h2 := hw.last
  have h3 : (G.st ++ numb G.last l).length ≤ 900000 := h1
  have h4 : 0 ≤ G.last + l.length ∧ G.last + l.length ≤ 900000 := h2
  rw [List.length_append, numb_len] at h3
  refine ⟨fun x hx => ?_, by omega, ⟨hl, by omega⟩, fun hd => ?_⟩
  · have : ∃ k, (k, x) ∈ numb G.last l := by
      clear h1 h2 h3 h4 hw
      generalize G.last = q
      induction l generalizing q with
      | nil => cases hx
      | cons y l ih =>
        rcases List.mem_cons.1 hx with rfl | hx
        · exact ⟨q + 1, by simp [numb]⟩
        · obtain ⟨k, hk⟩ := ih hx (q + 1)
          exact ⟨k, by rw [numb]; exact List.mem_cons_of_mem _ hk⟩
    obtain ⟨k, hk⟩ := this
    exact (hw.msg (k, x) (List.mem_append_right _ hk)).2
  · have hmem : (doneM i m G.out).1 ∈ (G.done i m l).ms := by
      show _ ∈ G.ms.set i _
      exact List.mem_of_getElem? (i := i) (by rw [List.getElem?_set, if_pos rfl, if_pos hi])
    have hmw := hw.ms _ hmem
    obtain ⟨e1, e2⟩ := doneM_x i m G.out
    have hn := hmw.up (by unfold MS.dn; rw [e1, e2]; exact hd)
    rw [e1] at hn
    have hc := hn.commit
    refine ⟨hn.g (by omega), by omega, ?_⟩
    have h5 := hmw.l.1
    unfold doneM at h5
    rw [if_neg hd] at h5
    exact Nat.le_trans (app_ge i m.rest.todo (m.rest, G.out)) (by omega)
theorem GOk.map {R : Hp} {w : GV} {G : GS} (h : GOk R w G) {i : Nat} {c : MV} (hc : w.cs[i]? = some c) : (w.cs[i]?).map MV.m = some c.m := by rw [hc]; rfl
theorem tick_eq {G : GS} {i : Nat} {m : MS} (hm : G.ms[i]? = some m) : G.tick i = G.done i m.tick.1 m.tick.2 := by unfold GS.tick; rw [hm]
theorem grTick0_t {R : Hp} (w : GV) (G : GS) (c : MV) (m : MS) (i : Nat) (hok : GOk R w G) (hc : w.cs[i]? = some c) (hm : G.ms[i]? = some m) (hw : GW G) (hw' : GW (G.tick i)) :
    Tri Tryz.prog 26 [.pointer (some ⟨w.g, 0, none⟩), .int .i64 (i : Int)] R (memL c m ++ grR w G) (fun r R' L' => True ∧ ActP w c (doneM i m.tick.1 G.out).1 (G.tick i) R' L') := by
  have hi := (List.getElem?_eq_some_iff.1 hm).1
  have hmw := hw.ms m (List.mem_of_getElem? hm)
  have hnd := hok.nd i c m hc hm
  rw [tick_eq hm] at hw' ⊢
  obtain ⟨d1, d2, d3, d4⟩ := done_pre hi hw' hmw.ap hw.last.1
  have d5 := hw.out
  refine tri_of Tryz.func26 rfl Tryz.ntmps26 rfl (fun σ F Q hret hend hpan => ?_)
  try simp only [cA, nA]
  refine cj_seq fun K1 hK1 => cj_region ?_
  refine Pm ?_
  refine Pm ?_
  refine Pa (Ca Tryz.call33 ((grAt_q w i).eq3 (ptrAt_some hc))) ?_
  refine Ps ?_
  refine rj_nil (hK1 _ _ _ (cj_seq fun K2 hK2 => cj_region ?_))
  refine Pm ?_
  refine Pa (y_pneq Tryz.underlying81 rfl rfl) ?_
  refine rj_nil (hK2 _ _ _ (cj_cond_t rfl (cj_region ?_)))
  refine Pm ?_
  refine Pm ?_
  refine Pm ?_
  refine Pa (y_nilCheck rfl) ?_
  refine Pa (Ga Tryz.underlying87 Tryz.sizeOf56) ?_
  first | refine Pa (La o56) ?_ | refine Pa (Ls o56) ?_
  refine Ra Tryz.call50 (mTick_t c.b c.v m hmw hnd) ?_
  rintro r R2 L' hR2 ⟨v', hr, hv', rfl⟩
  have hro := hr.one
  try simp only [cA, nA]
  refine Ra Tryz.call44 (grDone_t w G { c with v := v' } m.tick.1 i m.tick.2 r (by exact hok.map (c := c) hc) hr d1 (hok.els.mono hR2) hv' d2 d3 d4 hmw.ap (by omega)) ?_
  rintro r R3 L' hR3 ⟨vl', vn, css, vo, hels, rfl⟩
  try simp only [cA, nA]
  refine rj_nil (hend _ _ _ ?_)
  apply ej_end Tryz.results26 .nil _ (memL { c with v := v', vl := vl' } (doneM i m.tick.1 G.out).1 ++ grR { w with vn := vn, css := css, vo := vo } (G.done i m.tick.1 m.tick.2)) (Hp.le_trans hR2 hR3) rfl
  case hp => exact ⟨trivial, { c with v := v', vl := vl' }, vn, css, vo, rfl, by rw [(doneM_x i m.tick.1 G.out).1]; exact hv'.mono hR3, hels, rfl⟩
  case hS => exact sb_
theorem grTick_t {R : Hp} (w : GV) (G : GS) (i : Nat) (hok : GOk R w G) (hi : i < G.ms.length) (hw : GW G) (hw' : GW (G.tick i)) :
    Tri Tryz.prog 26 [.pointer (some ⟨w.g, 0, none⟩), .int .i64 (i : Int)] R (grL w G) (fun r R' L' => GrP w (G.tick i) R' L') := by
  obtain ⟨m, hm⟩ : ∃ m, G.ms[i]? = some m := ⟨_, List.getElem?_eq_getElem hi⟩
  obtain ⟨c, hc, _, _⟩ := hok.at hm
  exact Tri.mono (act_big hok hc hm (m' := (doneM i m.tick.1 G.out).1) (by rw [tick_eq hm]; rfl) (grTick0_t w G c m i hok hc hm hw hw')) (fun _ _ _ _ h => h.2) (fun _ _ _ _ h => h)
theorem deliver_eq {G : GS} {k : Int} {i : Nat} {m : MS} (hb : hasB G.st k = true) (hto : (atM G.st k).2.to = (i : Int)) (hm : G.ms[i]? = some m) : G.deliver k = (G.take k).done i (m.recv (atM G.st k).2).1 (m.recv (atM G.st k).2).2 := by
  unfold GS.deliver
  rw [if_pos hb, if_pos (by omega), hto, Int.toNat_natCast, hm]
theorem smallS_of {G : GS} (hw : GW G) : smallS G.st := fun x hx => (hw.msg x hx).2
theorem atM_im {G : GS} (hw : GW G) {k : Int} (hb : hasB G.st k = true) : MIm 0 (atM G.st k).2 := by
  obtain ⟨n, rfl⟩ := Int.eq_ofNat_of_zero_le (show 0 ≤ k by unfold hasB at hb; simp at hb; omega)
  have hn : n < G.st.length := by unfold hasB at hb; simp at hb; omega
  rw [(atM_some (x := G.st[n]) (by simp)).1]
  exact (hw.msg _ (List.getElem_mem hn)).1
theorem grDel0_t {R : Hp} (w : GV) (G : GS) (c : MV) (m : MS) (i : Nat) (k : Int) (hok : GOk R w G) (hc : w.cs[i]? = some c) (hm : G.ms[i]? = some m) (hw : GW G) (hw' : GW (G.deliver k)) (hb : hasB G.st k = true) (hto : (atM G.st k).2.to = (i : Int)) :
    Tri Tryz.prog 31 [.pointer (some ⟨w.g, 0, none⟩), .int .i64 k] R (memL c m ++ grR w G) (fun r R' L' => r = .bool (hasB G.st k) ∧ ActP w c (doneM i (m.recv (atM G.st k).2).1 G.out).1 (G.deliver k) R' L') := by
  have hi := (List.getElem?_eq_some_iff.1 hm).1
  have hmw := hw.ms m (List.mem_of_getElem? hm)
  have hnd := hok.nd i c m hc hm
  rw [deliver_eq hb hto hm] at hw' ⊢
  obtain ⟨d1, d2, d3, d4⟩ := done_pre (G := G.take k) hi hw' hmw.ap hw.last.1
  have d5 := hw.out
  have him := atM_im hw hb
  have hst := hw.st
  obtain ⟨g, hg⟩ : ∃ g, g = (atM G.st k).2 := ⟨_, rfl⟩
  have ht := netTake_t (R := R) w.n w.vn G.last G.st w.css hok.els (smallS_of hw) (by omega) k
  rw [← hg] at hto him d1 d2 d3 d4 ht hw' ⊢
  rw [hb] at ht ⊢
  refine tri_of Tryz.func31 rfl Tryz.ntmps31 rfl (fun σ F Q hret hend hpan => ?_)
  try simp only [cA, nA]
  refine cj_seq fun K1 hK1 => cj_region ?_
  refine Ps ?_
  refine rj_nil (hK1 _ _ _ (cj_seq fun K2 hK2 => cj_seq fun K3 hK3 => cj_region ?_))
  refine Pm ?_
  refine Pa (y_peql Tryz.underlying26 rfl rfl) ?_
  refine rj_nil (hK3 _ _ _ (cj_cond_f rfl (cj_skip (hK2 _ _ _ (cj_seq fun K4 hK4 => cj_region ?_)))))
  refine Pm ?_
  refine Pa (y_nilCheck rfl) ?_
  refine Pa (Ga Tryz.underlying90 Tryz.sizeOf66) ?_
  first | refine Pa (La o66) ?_ | refine Pa (Ls o66) ?_
  refine Pm ?_
  refine Ra Tryz.call52 (ht) ?_
  rintro r R2 L' hR2 ⟨⟨ve, rfl, hve⟩, vn2, css2, hk2, rfl⟩
  have hveo := hve.one
  try simp only [cA, nA]
  refine Pm ?_
  refine Pa (y_extract rfl rfl) ?_
  refine Pa (y_extract rfl rfl) ?_
  refine rj_alloc (wn0 rfl) rfl Tryz.zeroValue117 rfl (fun bg => ?_)
  refine Sm (vs := msgC g ve) m117 (msgC_one hveo) ?_
  refine Ps ?_
  refine rj_nil (hK4 _ _ _ (cj_seq fun K5 hK5 => cj_seq fun K6 hK6 => cj_region ?_))
  refine Pm ?_
  refine Pa (Ga Tryz.underlying117 Tryz.sizeOf3) ?_
  refine Pa ((Yld.to (u := .int .i64 (i : Int)) (La o3) (by rw [hto]))) ?_
  refine Pa (Ca Tryz.call33 ((grAt_q w (i : Int)).eq3 (ptrAt_some hc))) ?_
  refine Ps ?_
  refine rj_nil (hK6 _ _ _ (cj_seq fun K7 hK7 => cj_region ?_))
  refine Pm ?_
  refine Pm ?_
  refine Pb (y_move rfl) ?_
  refine Pb (y_pneq Tryz.underlying81 rfl rfl) ?_
  refine Pa (y_pick_t rfl rfl) ?_
  refine rj_nil (hK7 _ _ _ ?_)
  refine cj_env (eL 0 rfl (eL 5 rfl (eL 6 rfl (eL 7 rfl (eL 27 rfl eN))))) ?_
  refine cj_cond_t rfl ?_
  refine cj_mixg (L := [blk bg (msgC g ve) 117, mbB c m.ap]) [0, 1, 2, 3, 4, 5, 6, 7] [8] [9] _ sb_ (by kernel_rfl) (by kernel_rfl) (by kernel_rfl) rfl ?_
  refine Wa rfl (fun R1 hR1 G => (y_move rfl)) ?_
  refine Wa rfl (fun R1 hR1 G => (Ga Tryz.underlying117 Tryz.sizeOf3)) ?_
  refine Wa rfl (fun R1 hR1 G => (Yld.to (u := .int .i64 (i : Int)) (La o3) (by rw [hto]))) ?_
  refine Wa rfl (fun R1 hR1 G => (y_move rfl)) ?_
  refine Wa rfl (fun R1 hR1 G => (y_nilCheck rfl)) ?_
  refine Wa rfl (fun R1 hR1 G => (Ga Tryz.underlying87 Tryz.sizeOf56)) ?_
  first | refine Wa rfl (fun R1 hR1 G => (La o56)) ?_ | refine Wa rfl (fun R1 hR1 G => (Ls o56)) ?_
  refine Wa rfl (fun R1 hR1 G => (Lm (vs := msgC g ve) m117)) ?_
  refine fj_nil ?_
  refine xj_rj rfl ?_
  try simp only [cA, nA, List.append_nil]
  refine Ra Tryz.call53 (mRecv_t c.b c.v m g ve hmw him hve (hnd.mono hR2)) ?_
  rintro r R3 L' hR3 ⟨v', hr, hv', rfl⟩
  have hro := hr.one
  try simp only [cA, nA]
  refine rj_xk le_ sb_ ?_
  refine xj_nil ?_
  try simp only [cA, nA, List.append_nil]
  refine Ra Tryz.call44 (grDone_t { w with vn := vn2, css := css2 } (G.take k) { c with v := v' } (m.recv g).1 i (m.recv g).2 r (by exact hok.map (c := c) hc) hr d1 (hk2.mono hR3) hv' d2 d3 d4 hmw.ap (by exact Nat.le_trans d5 (by decide))) ?_
  rintro r R4 L' hR4 ⟨vl', vn, css, vo, hels, rfl⟩
  try simp only [cA, nA]
  refine rj_nil (hK5 _ _ _ (cj_seq fun K8 hK8 => cj_region ?_))
  refine Pm ?_
  refine Ps ?_
  refine rj_nil (hK8 _ _ _ (cj_ret (hret _ _ _ ?_)))
  apply ej_ret Tryz.results31 (.cons (rv_tmp rfl) .nil) _ (memL { c with v := v', vl := vl' } (doneM i (m.recv g).1 G.out).1 ++ grR { w with vn := vn, css := css, vo := vo } ((G.take k).done i (m.recv g).1 (m.recv g).2)) (Hp.le_trans hR2 (Hp.le_trans hR3 hR4)) rfl
  case hp => exact ⟨rfl, { c with v := v', vl := vl' }, vn, css, vo, rfl, by rw [(doneM_x i (m.recv g).1 G.out).1]; exact hv'.mono hR4, hels, rfl⟩
  case hS => exact sb_
theorem grDel1_t {R : Hp} (w : GV) (G : GS) (k : Int) (hok : GOk R w G) (hw : GW G) (hno : hasB G.st k = false ∨ ptrAt w.cs (atM G.st k).2.to = .pointer none) :
    Tri Tryz.prog 31 [.pointer (some ⟨w.g, 0, none⟩), .int .i64 k] R (grR w G) (fun r R' L' => r = .bool (hasB G.st k) ∧ ∃ vn css, Els oneE R' (G.take k).st css ∧ L' = grR { w with vn := vn, css := css } (G.take k)) := by
  have hst := hw.st
  obtain ⟨g, hg⟩ : ∃ g, g = (atM G.st k).2 := ⟨_, rfl⟩
  obtain ⟨bb, hbb⟩ : ∃ bb, bb = hasB G.st k := ⟨_, rfl⟩
  have ht := netTake_t (R := R) w.n w.vn G.last G.st w.css hok.els (smallS_of hw) (by omega) k
  rw [← hg] at ht hno
  rw [← hbb] at ht hno ⊢
  obtain ⟨pt, hpt, hpo⟩ : ∃ pt, ptrAt w.cs g.to = .pointer pt ∧ (bb = true → pt = none) := by
    obtain ⟨pt, hpt⟩ : ∃ pt, ptrAt w.cs g.to = .pointer pt := by
      unfold ptrAt
      split
      · split <;> exact ⟨_, rfl⟩
      · exact ⟨_, rfl⟩
    refine ⟨pt, hpt, fun h => ?_⟩
    rcases hno with h1 | h1
    · rw [h1] at h; cases h
    · rw [h1] at hpt; cases hpt; rfl
  refine tri_of Tryz.func31 rfl Tryz.ntmps31 rfl (fun σ F Q hret hend hpan => ?_)
  try simp only [cA, nA]
  refine cj_seq fun K1 hK1 => cj_region ?_
  refine Ps ?_
  refine rj_nil (hK1 _ _ _ (cj_seq fun K2 hK2 => cj_seq fun K3 hK3 => cj_region ?_))
  refine Pm ?_
  refine Pa (y_peql Tryz.underlying26 rfl rfl) ?_
  refine rj_nil (hK3 _ _ _ (cj_cond_f rfl (cj_skip (hK2 _ _ _ (cj_seq fun K4 hK4 => cj_region ?_)))))
  refine Pm ?_
  refine Pa (y_nilCheck rfl) ?_
  refine Pa (Ga Tryz.underlying90 Tryz.sizeOf66) ?_
  first | refine Pa (La o66) ?_ | refine Pa (Ls o66) ?_
  refine Pm ?_
  refine Ra Tryz.call52 (ht) ?_
  rintro r R2 L' hR2 ⟨⟨ve, rfl, hve⟩, vn2, css2, hk2, rfl⟩
  have hveo := hve.one
  try simp only [cA, nA]
  refine Pm ?_
  refine Pa (y_extract rfl rfl) ?_
  refine Pa (y_extract rfl rfl) ?_
  refine rj_alloc (wn0 rfl) rfl Tryz.zeroValue117 rfl (fun bg => ?_)
  refine Sm (vs := msgC g ve) m117 (msgC_one hveo) ?_
  refine Ps ?_
  refine rj_nil (hK4 _ _ _ (cj_seq fun K5 hK5 => cj_seq fun K6 hK6 => cj_region ?_))
  refine Pm ?_
  refine Pa (Ga Tryz.underlying117 Tryz.sizeOf3) ?_
  first | refine Pa (La o3) ?_ | refine Pa (Ls o3) ?_
  refine Pa (Ca Tryz.call33 ((grAt_q w g.to).eq3 hpt)) ?_
  refine Ps ?_
  refine rj_nil (hK6 _ _ _ (cj_seq fun K7 hK7 => cj_region ?_))
  refine Pm ?_
  refine Pm ?_
  refine rj_part 24 rfl (fun hg24 => ?_) (fun hg24 => ?_)
  try simp only [dT, dF, nT, nF, tF, fT] at hg24
  refine Pb (y_move rfl) ?_
  refine Pb (y_pneq Tryz.underlying81 rfl rfl) ?_
  refine Pa (y_pick_t rfl rfl) ?_
  refine rj_nil (hK7 _ _ _ ?_)
  refine cj_env (eL 0 rfl (eL 5 rfl (eL 6 rfl (eL 7 rfl (eL 27 rfl eN))))) ?_
  refine cj_cond rfl (fun hc27 => ?_) (fun hc27 => ?_)
  · rw [hpo hg24] at hc27; simp at hc27
  try simp only [dT, dF, nT, nF, tF, fT] at hc27
  refine cj_skip (hK5 _ _ _ (cj_seq fun K9 hK9 => cj_region ?_))
  refine Pm ?_
  refine Ps ?_
  refine rj_nil (hK9 _ _ _ (cj_ret (hret _ _ _ ?_)))
  apply ej_ret Tryz.results31 (.cons (rv_tmp rfl) .nil) _ (grR { w with vn := vn2, css := css2 } (G.take k)) hR2 rfl
  case hp => exact ⟨rfl, vn2, css2, hk2, rfl⟩
  case hS => exact sb_
  try simp only [dT, dF, nT, nF, tF, fT] at hg24
  refine Pk ?_
  refine Pk ?_
  refine Pa (y_pick_f rfl rfl) ?_
  refine rj_nil (hK7 _ _ _ (cj_cond_f rfl (cj_skip (hK5 _ _ _ (cj_seq fun K10 hK10 => cj_region ?_)))))
  refine Pm ?_
  refine Ps ?_
  refine rj_nil (hK10 _ _ _ (cj_ret (hret _ _ _ ?_)))
  apply ej_ret Tryz.results31 (.cons (rv_tmp rfl) .nil) _ (grR { w with vn := vn2, css := css2 } (G.take k)) hR2 rfl
  case hp => exact ⟨rfl, vn2, css2, hk2, rfl⟩
  case hS => exact sb_
end V
end Go.Proofs.YtenfjpigffjgmaaGreat
set_option linter.unusedSimpArgs false
set_option linter.unusedVariables false
set_option maxRecDepth 100000
namespace Go.Proofs.YtenfjpigffjgmaaGreat
open Go.RowKit
namespace V
set_option maxHeartbeats 4000000
theorem Tri.fr {P : Program} {f : FuncId} {args : List Value} {R : Hp} {L : List Asn} {A : Asn} {post : Value → Hp → List Asn → Prop} (h : Tri P f args R L post) : Tri P f args R (A :: L) (fun r R' L' => ∃ L1, post r R' L1 ∧ L' = A :: L1) := fun σ F w hs => by
  refine (h σ (A :: F) w (hs.sub (sub_dim A L F))).mono fun e w' ⟨R', L', hR, hw, hp⟩ => ?_
  cases e with
  | panicked ch => exact hp.elim
  | outgrown => exact hp.elim
  | returned v => exact ⟨R', A :: L', hR, hw.sub (sub_mid A L' F), L', hp, rfl⟩
theorem grDeliver_t {R : Hp} (w : GV) (G : GS) (k : Int) (hok : GOk R w G) (hw : GW G) (hw' : GW (G.deliver k)) :
    Tri Tryz.prog 31 [.pointer (some ⟨w.g, 0, none⟩), .int .i64 k] R (grL w G) (fun r R' L' => r = .bool (hasB G.st k) ∧ GrP w (G.deliver k) R' L') := by
  have hno : (hasB G.st k = false ∨ ptrAt w.cs (atM G.st k).2.to = .pointer none) → G.deliver k = G.take k → Tri Tryz.prog 31 [.pointer (some ⟨w.g, 0, none⟩), .int .i64 k] R (grL w G) (fun r R' L' => r = .bool (hasB G.st k) ∧ GrP w (G.deliver k) R' L') := fun h he => by
    refine Tri.mono (Tri.fr (grDel1_t w G k hok hw h)) (fun r R' L' hR h2 => ?_) (fun _ _ _ _ h => h)
    obtain ⟨L1, ⟨h0, vn, css, h1, rfl⟩, rfl⟩ := h2
    rw [he]
    exact ⟨h0, vn, css, w.vo, w.cs, ⟨hok.len, fun i c m hc hm => (hok.nd i c m hc hm).mono hR, h1⟩, rfl⟩
  by_cases hb : hasB G.st k = true
  · by_cases h0 : 0 ≤ (atM G.st k).2.to
    · obtain ⟨i, hi⟩ := Int.eq_ofNat_of_zero_le h0
      cases hm : G.ms[i]? with
      | none =>
        refine hno (.inr ?_) ?_
        · rw [hi]
          refine ptrAt_none (.inr ?_)
          rw [List.getElem?_eq_none_iff] at hm
          rw [hok.len]; omega
        · unfold GS.deliver
          rw [if_pos hb, if_pos h0, hi, Int.toNat_natCast, hm]
      | some m =>
        obtain ⟨c, hc, _, _⟩ := hok.at hm
        exact act_big hok hc hm (by rw [deliver_eq hb hi hm]; rfl) (grDel0_t w G c m i k hok hc hm hw hw' hb hi)
    · refine hno (.inr (ptrAt_none (.inl (by omega)))) ?_
      unfold GS.deliver
      rw [if_pos hb, if_neg h0]
  · refine hno (.inl (by simpa using hb)) ?_
    unfold GS.deliver GS.take
    rw [if_neg hb, (atM_none (by simpa using hb)).2]
theorem prop_eq {G : GS} {i : Nat} {m : MS} {cmd : Bs} (hm : G.ms[i]? = some m) : G.propose i cmd = ((m.prop cmd).1, G.done i (m.prop cmd).2.1 (m.prop cmd).2.2) := by unfold GS.propose; rw [hm]
theorem grProp0_t {R : Hp} (w : GV) (G : GS) (c : MV) (m : MS) (i : Nat) (cmd : Bs) (hcl : cmd.length ≤ 100) (hok : GOk R w G) (hc : w.cs[i]? = some c) (hm : G.ms[i]? = some m) (hw : GW G) (hw' : GW (G.propose i cmd).2) :
    Tri Tryz.prog 16 [.pointer (some ⟨w.g, 0, none⟩), .int .i64 (i : Int), .string (str cmd)] R (memL c m ++ grR w G) (fun r R' L' => r = tupOf [.int .u64 (G.propose i cmd).1.1, .int .u64 (G.propose i cmd).1.2] ∧ ActP w c (doneM i (m.prop cmd).2.1 G.out).1 (G.propose i cmd).2 R' L') := by
  have hi := (List.getElem?_eq_some_iff.1 hm).1
  have hmw := hw.ms m (List.mem_of_getElem? hm)
  have hnd := hok.nd i c m hc hm
  rw [prop_eq hm] at hw' ⊢
  obtain ⟨d1, d2, d3, d4⟩ := done_pre hi hw' hmw.ap hw.last.1
  have d5 := hw.out
  refine tri_of Tryz.func16 rfl Tryz.ntmps16 rfl (fun σ F Q hret hend hpan => ?_)
  try simp only [cA, nA]
  refine cj_seq fun K1 hK1 => cj_region ?_
  refine Ps ?_
  refine Ps ?_
  refine rj_nil (hK1 _ _ _ (cj_seq fun K2 hK2 => cj_region ?_))
  refine Pm ?_
  refine Pm ?_
  refine Pa (Ca Tryz.call33 ((grAt_q w i).eq3 (ptrAt_some hc))) ?_
  refine Ps ?_
  refine rj_nil (hK2 _ _ _ (cj_seq fun K3 hK3 => cj_seq fun K4 hK4 => cj_region ?_))
  refine Pm ?_
  refine Pa (y_peql Tryz.underlying81 rfl rfl) ?_
  refine rj_nil (hK4 _ _ _ (cj_cond_f rfl (cj_skip (hK3 _ _ _ (cj_seq fun K5 hK5 => cj_region ?_)))))
  refine Pm ?_
  refine Pa (y_nilCheck rfl) ?_
  refine Pa (Ga Tryz.underlying87 Tryz.sizeOf56) ?_
  first | refine Pa (La o56) ?_ | refine Pa (Ls o56) ?_
  refine Pm ?_
  refine Ra Tryz.call43 (mProp_t c.b c.v m cmd hmw hcl hnd) ?_
  rintro r R2 L' hR2 ⟨v', vl, rfl, hr, hv', rfl⟩
  have hro := hr.one
  try simp only [cA, nA]
  refine Pm ?_
  refine Pa (y_extract rfl rfl) ?_
  refine Pa (y_extract rfl rfl) ?_
  refine Pa (y_extract rfl rfl) ?_
  refine Ps ?_
  refine Ps ?_
  refine Ps ?_
  refine rj_nil (hK5 _ _ _ ?_)
  refine cj_env (eL 0 rfl (eL 1 rfl (eL 9 rfl (eL 10 rfl (eL 11 rfl eN))))) ?_
  refine cj_seq fun K6 hK6 => cj_region ?_
  refine Pm ?_
  refine Pm ?_
  refine Pm ?_
  refine Ra Tryz.call44 (grDone_t w G { c with v := v' } (m.prop cmd).2.1 i (m.prop cmd).2.2 vl (by exact hok.map (c := c) hc) hr d1 (hok.els.mono hR2) hv' d2 d3 d4 hmw.ap (by omega)) ?_
  rintro r R3 L' hR3 ⟨vl', vn, css, vo, hels, rfl⟩
  try simp only [cA, nA]
  refine rj_nil (hK6 _ _ _ (cj_seq fun K7 hK7 => cj_region ?_))
  refine Pm ?_
  refine Pm ?_
  refine Ps ?_
  refine Ps ?_
  refine rj_nil (hK7 _ _ _ (cj_ret (hret _ _ _ ?_)))
  apply ej_ret Tryz.results16 (.cons (rv_tmp rfl) (.cons (rv_tmp rfl) .nil)) _ (memL { c with v := v', vl := vl' } (doneM i (m.prop cmd).2.1 G.out).1 ++ grR { w with vn := vn, css := css, vo := vo } (G.done i (m.prop cmd).2.1 (m.prop cmd).2.2)) (Hp.le_trans hR2 hR3) rfl
  case hp => exact ⟨rfl, { c with v := v', vl := vl' }, vn, css, vo, rfl, by rw [(doneM_x i (m.prop cmd).2.1 G.out).1]; exact hv'.mono hR3, hels, rfl⟩
  case hS => exact sb_
theorem grPropose_t {R : Hp} (w : GV) (G : GS) (i : Nat) (cmd : Bs) (hcl : cmd.length ≤ 100) (hok : GOk R w G) (hi : i < G.ms.length) (hw : GW G) (hw' : GW (G.propose i cmd).2) :
    Tri Tryz.prog 16 [.pointer (some ⟨w.g, 0, none⟩), .int .i64 (i : Int), .string (str cmd)] R (grL w G) (fun r R' L' => r = tupOf [.int .u64 (G.propose i cmd).1.1, .int .u64 (G.propose i cmd).1.2] ∧ GrP w (G.propose i cmd).2 R' L') := by
  obtain ⟨m, hm⟩ : ∃ m, G.ms[i]? = some m := ⟨_, List.getElem?_eq_getElem hi⟩
  obtain ⟨c, hc, _, _⟩ := hok.at hm
  exact act_big hok hc hm (m' := (doneM i (m.prop cmd).2.1 G.out).1) (by rw [prop_eq hm]; rfl) (grProp0_t w G c m i cmd hcl hok hc hm hw hw')
theorem comp_eq {G : GS} {i : Nat} {m : MS} (hm : G.ms[i]? = some m) : G.compact i = (m.comp.1, { G with ms := G.ms.set i m.comp.2 }) := by unfold GS.compact; rw [hm]
theorem fuel_eq {G : GS} {i : Nat} {m : MS} {n : Int} (hm : G.ms[i]? = some m) : G.fuel i n = { G with ms := G.ms.set i { m with D := m.D.setFuel n } } := by unfold GS.fuel; rw [hm]
end V
end Go.Proofs.YtenfjpigffjgmaaGreat
set_option linter.unusedSimpArgs false
set_option linter.unusedVariables false
set_option maxRecDepth 100000
namespace Go.Proofs.YtenfjpigffjgmaaGreat
open Go.RowKit
namespace V
set_option maxHeartbeats 4000000
theorem y_makeIfaceP {c : Cx} {E : Env} {R : Hp} {L : List Asn} {ty : TypeId} {p : String} {af : Array Edge} {g : Option (Nat × Bool)} {d : Option Tmp} {x : Operand} {t e : TypeId} {u : Value} (hT : c.P.underlying t = some (.pointer e)) (e1 : ev E x = some u) : Yld c E R L ⟨d, .makeInterface t x, ty, p, af, g⟩ (.iface t u) := fun a w hf hs => by
  have r : (Instr.makeInterface t u).run c.P w = .ok (.iface t u) w := by
    unfold Instr.makeInterface
    simp [run_underlying hT]
  simp [execOp, hf.ev e1, r, Oper.quietUpon]
theorem lists_t {R : Hp} : Tri Tryz.prog 20 [] R [] (fun r R' L' => R = R' ∧ ∃ b, r = ifV b ∧ L' = [lsB b (.slice none 0 0), lsS (.slice none 0 0) []]) := by
  refine tri_of Tryz.func20 rfl Tryz.ntmps20 rfl (fun σ F Q hret hend hpan => ?_)
  try simp only [cA, nA]
  refine cj_env eN ?_
  refine cj_seq fun K1 hK1 => cj_region ?_
  refine Ps ?_
  refine rj_nil (hK1 _ _ _ (cj_seq fun K2 hK2 => cj_region ?_))
  refine rj_add (A := lsS (.slice none 0 0) []) (slc_nil _ _) ?_
  refine Pa (y_build (cells := [_]) [(0, 1)] Tryz.underlying105 Tryz.zeroValue105 (fun _ => rfl) rfl rfl) ?_
  refine rj_box (wn0 rfl) rfl rfl rfl (fun b => ?_)
  refine Pa ((y_makeIfaceP Tryz.underlying103 rfl)) ?_
  refine Ps ?_
  refine rj_nil (hK2 _ _ _ (cj_ret (hret _ _ _ ?_)))
  refine Ea Tryz.results20 (.cons (rv_tmp rfl) .nil) [lsB b (.slice none 0 0), lsS (.slice none 0 0) []] le_ ?_
  exact ⟨rfl, b, rfl, rfl⟩
theorem grStart_t {R : Hp} (w : GV) (bm bd : Nat) (px im ap : Value) (u : Value) (D : DK) (rs : List Rec) (p : Bs) (g : LG) (i n : Nat) (hc : (w.cs[i]?).map MV.m = some bm) (hn : i < n ∧ n ≤ 9) (ho : px.oneCell' = true ∧ im.oneCell' = true) (hD : D.ok 690000000) (hd : D.down = false) (ht : DTell D.b rs p g) (hgd : g.down = false) (hop : (D.open rs p).1 = 0 ∧ (D.open rs p).2.down = false) :
    Tri Tryz.prog 35 [.pointer (some ⟨w.g, 0, none⟩), .int .i64 (i : Int), .int .i64 (n : Int)] R [blk bm [.pointer (some ⟨bd, 0, none⟩), px, im, ap] 87, dkB bd u D, dkS u D, grB w, grS w]
      (fun r R' L' => ∃ c : MV, c.m = bm ∧ NOk R' c.v (ND.start i n g) ∧ L' = memL c (startS i n g (D.open rs p).2) ++ [grB w, grS w]) := by
  obtain ⟨c0, hc0, hcm⟩ := Option.map_eq_some_iff.1 hc
  have hi2 : i < w.cs.length := (List.getElem?_eq_some_iff.1 hc0).1
  have hnth : nth (ptrsV w.cs) ((i : Int).toNat * 1 + 0) = some (.pointer (some ⟨bm, 0, none⟩)) := by rw [Int.toNat_natCast, nth_eq]; simp [ptrsV, hc0, hcm]
  obtain ⟨h1, h2, h3⟩ := ht
  obtain ⟨h4, h5⟩ := hop
  have hgs := (Plays.okR h3).state
  have hop2 := open_t (R := R) bd u D 690000000 rs p g hD (by omega) h1 h2 h3
  rw [h4] at hop2
  refine tri_of Tryz.func35 rfl Tryz.ntmps35 rfl (fun σ F Q hret hend hpan => ?_)
  try simp only [cA, nA]
  refine cj_seq fun K1 hK1 => cj_region ?_
  refine Pm ?_
  refine Pa (y_nilCheck rfl) ?_
  refine Pa (Ga Tryz.underlying90 Tryz.sizeOf88) ?_
  first | refine Pa (La o88) ?_ | refine Pa (Ls o88) ?_
  refine Pm ?_
  refine Pa ((y_index_slc (sz := 1) (n := w.cs.length) Tryz.underlying88 Tryz.sizeOf81 rfl rfl fd_ (by omega))) ?_
  refine Pa ((y_load_slc o81 rfl fd_ hnth)) ?_
  refine Ps ?_
  refine rj_nil (hK1 _ _ _ (cj_seq fun K2 hK2 => cj_region ?_))
  refine Pm ?_
  refine Pa (y_nilCheck rfl) ?_
  refine Pa (Ga Tryz.underlying87 Tryz.sizeOf83) ?_
  first | refine Pa (La o83) ?_ | refine Pa (Ls o83) ?_
  refine Ra Tryz.call56 (hop2) ?_
  rintro r R2 L' hR2 ⟨pl, u2, rfl, (⟨_, hx, _⟩ | ⟨bl, va, rfl, _, hva, rfl⟩)⟩; exact absurd rfl hx
  try simp only [cA, nA]
  refine Pm ?_
  refine Pa (y_extract rfl rfl) ?_
  refine Pa (y_extract rfl rfl) ?_
  refine Ps ?_
  refine Ps ?_
  refine rj_nil (hK2 _ _ _ (cj_seq fun K3 hK3 => cj_region ?_))
  refine Pm ?_
  refine Pm ?_
  refine Pm ?_
  refine Pm ?_
  refine Ra Tryz.call57 (start_t bl bd i n u2 va g (D.open rs p).2 hn hva) ?_
  rintro r R3 L' hR3 (⟨hx, _, _⟩ | ⟨_, bx, rfl, hv, rfl⟩); simp [hgd, h5] at hx
  try simp only [cA, nA]
  refine Pm ?_
  refine Pa (y_extract rfl rfl) ?_
  refine Pa (y_extract rfl rfl) ?_
  refine Pa (y_nilCheck rfl) ?_
  refine Pa (Ga Tryz.underlying87 Tryz.sizeOf56) ?_
  refine Sa o56 ?_
  refine rj_nil (hK3 _ _ _ ?_)
  refine cj_env (eL 0 rfl (eL 6 rfl (eL 7 rfl eN))) ?_
  refine cj_seq fun K4 hK4 => cj_region ?_
  refine Pm ?_
  refine Pm ?_
  refine Pm ?_
  refine Pa (y_nilCheck rfl) ?_
  refine Pa (Ga Tryz.underlying90 Tryz.sizeOf49) ?_
  first | refine Pa (La o49) ?_ | refine Pa (Ls o49) ?_
  refine rj_callv (wn0 rfl) rfl rfl Tryz.call20 rfl (lists_t) sp_ (fun _ _ _ _ h => h.elim) ?_
  rintro r R4 L' hR4 ⟨rfl, bl2, rfl, rfl⟩
  try simp only [cA, nA]
  refine Pa (y_nilCheck rfl) ?_
  refine Pa (Ga Tryz.underlying87 Tryz.sizeOf85) ?_
  refine Sa o85 ?_
  refine Pa (y_nilCheck rfl) ?_
  refine Pa (Ga Tryz.underlying87 Tryz.sizeOf36) ?_
  refine Sa o36 ?_
  refine rj_nil (hK4 _ _ _ (cj_seq fun K5 hK5 => cj_region ?_))
  refine Pm ?_
  refine Pa (Ca Tryz.call25 (lgBase_q bl (some ⟨bd, 0, none⟩) va g)) ?_
  refine Pm ?_
  refine Pa (y_extract rfl rfl) ?_
  refine Pa (y_extract rfl rfl) ?_
  refine Pa (y_extract rfl rfl) ?_
  refine Ps ?_
  refine Ps ?_
  refine Ps ?_
  refine rj_nil (hK5 _ _ _ ?_)
  refine cj_env (eL 6 rfl (eL 9 rfl (eL 11 rfl eN))) ?_
  refine cj_seq fun K6 hK6 => cj_region ?_
  refine Pm ?_
  refine Pa (y_gtr rfl rfl) ?_
  refine rj_nil (hK6 _ _ _ ?_)
  refine cj_cond rfl (fun hc55 => ?_) (fun hc55 => ?_)
  have f1 : g.base > 0 := by simpa using hc55
  have e1 : startS i n g (D.open rs p).2 = ⟨ND.start i n g, (D.open rs p).2, unS g.state, g.base⟩ := by unfold startS; rw [if_pos f1]
  refine cj_seq fun K8 hK8 => cj_region ?_
  refine Pm ?_
  refine Pa (y_nilCheck rfl) ?_
  refine Pa (Ga Tryz.underlying87 Tryz.sizeOf85) ?_
  first | refine Pa (La o85) ?_ | refine Pa (Ls o85) ?_
  refine Pm ?_
  refine rj_invoke (wn0 rfl) rfl rfl (fun w => by kernel_rfl) Tryz.call171 rfl (restore_t bl2 (.slice none 0 0) [] g.state (by omega)) sp_ (fun _ _ _ _ h => h.elim) ?_
  rintro r R5 L' hR5 ⟨rfl, vl3, rfl⟩
  try simp only [cA, nA]
  refine rj_nil (hK8 _ _ _ (cj_region ?_))
  refine Pm ?_
  refine Pm ?_
  refine Pa (y_nilCheck rfl) ?_
  refine Pa (Ga Tryz.underlying87 Tryz.sizeOf36) ?_
  refine Sa o36 ?_
  refine rj_nil (hend _ _ _ ?_)
  apply ej_end Tryz.results35 .nil _ (memL ⟨bm, ⟨bx, bl, bd⟩, bl2, NV.new u2 va, vl3⟩ ⟨ND.start i n g, (D.open rs p).2, unS g.state, g.base⟩ ++ [grB w, grS w]) (by first | exact Hp.le_trans hR2 (Hp.le_trans hR3 hR5) | exact Hp.le_trans hR2 hR3) rfl
  case hp => rw [e1]; exact ⟨⟨bm, ⟨bx, bl, bd⟩, bl2, NV.new u2 va, vl3⟩, rfl, hv.mono hR5, rfl⟩
  case hS => exact sb_
  have f1 : ¬ g.base > 0 := by simpa using hc55
  have e1 : startS i n g (D.open rs p).2 = ⟨ND.start i n g, (D.open rs p).2, [], 0⟩ := by unfold startS; rw [if_neg f1]
  refine cj_skip (hend _ _ _ ?_)
  apply ej_end Tryz.results35 .nil _ (memL ⟨bm, ⟨bx, bl, bd⟩, bl2, NV.new u2 va, .slice none 0 0⟩ ⟨ND.start i n g, (D.open rs p).2, [], 0⟩ ++ [grB w, grS w]) (by first | exact Hp.le_trans hR2 (Hp.le_trans hR3 hR5) | exact Hp.le_trans hR2 hR3) rfl
  case hp => rw [e1]; exact ⟨⟨bm, ⟨bx, bl, bd⟩, bl2, NV.new u2 va, .slice none 0 0⟩, rfl, hv, rfl⟩
  case hS => exact sb_
theorem Plays.down : ∀ {rs : List Rec} {g h : LG}, Plays g rs h → h.down = g.down
  | _, _, _, .nil _ _ => rfl
  | _, _, _, .cons _ _ _ p => by rw [Plays.down p, play_down]
theorem open_c {D : DK} {rs : List Rec} {p : Bs} (h1 : D.down = false) (h2 : D.bound = false) : (D.open rs p).1 = 0 ∧ (D.open rs p).2.down = false ∧ (D.open rs p).2.bound = false := by
  unfold DK.open
  rw [if_neg (by rw [h1]; decide)]
  split
  · exact ⟨rfl, h1, h2⟩
  · unfold DK.swap
    rw [step_h ⟨h1, h2⟩]
    exact ⟨rfl, h1, h2⟩
theorem DK.crash_ok {D : DK} {m : Nat} (h : D.ok m) (keep : Int) : (D.crash keep).ok m := by
  obtain ⟨k1, k2, k3, k4, k5⟩ := h
  have hkl : D.keeps keep ≤ D.b.length := by unfold DK.keeps; omega
  have hbl : (D.crash keep).b.length = D.keeps keep := by unfold DK.crash; simp; omega
  exact ⟨by show D.keeps keep ≤ _; rw [hbl]; exact Nat.le_refl _, by rw [hbl]; omega, k3, k4, fun h => by have h : false = true := h; cases h⟩
def Opens (D : DK) (keep : Int) : Prop := ∃ rs p g, DTell (D.crash keep).b rs p g
theorem crash_eq {G : GS} {i : Nat} {m : MS} {keep : Int} (hm : G.ms[i]? = some m) : G.crash i keep = { G with ms := G.ms.set i (m.crash i G.ms.length keep) } := by unfold GS.crash; rw [hm]
theorem crash_x (m : MS) (i n : Nat) (keep : Int) : (m.crash i n keep).x = ND.start i n (telG (m.D.crash keep).b) := by
  unfold MS.crash startS
  split <;> rfl
theorem grCrash0_t {R : Hp} (w : GV) (G : GS) (c : MV) (m : MS) (i : Nat) (keep : Int) (hok : GOk R w G) (hc : w.cs[i]? = some c) (hm : G.ms[i]? = some m) (hw : GW G) (ho : Opens m.D keep) :
    Tri Tryz.prog 12 [.pointer (some ⟨w.g, 0, none⟩), .int .i64 (i : Int), .int .i64 keep] R (memL c m ++ grR w G) (fun r R' L' => True ∧ ActP w c (m.crash i G.ms.length keep) (G.crash i keep) R' L') := by
  have hi := (List.getElem?_eq_some_iff.1 hm).1
  have hmw := hw.ms m (List.mem_of_getElem? hm)
  have hn := hw.n
  have ht := tells_of ho
  have hoc := open_c (D := m.D.crash keep) (rs := telR (m.D.crash keep).b) (p := telP (m.D.crash keep).b) rfl rfl
  have hst := fun (R : Hp) (u : Value) => grStart_t (R := R) w c.m c.b.d (.pointer (some ⟨c.b.x, 0, none⟩)) (ifV c.l) (.int .u64 m.ap) u (m.D.crash keep) _ _ _ i G.ms.length (hok.map hc) ⟨hi, hn⟩ ⟨rfl, rfl⟩ (DK.crash_ok hmw.ok keep) rfl ht (ht.2.2.down) ⟨hoc.1, hoc.2.1⟩
  rw [crash_eq hm]
  refine tri_of Tryz.func12 rfl Tryz.ntmps12 rfl (fun σ F Q hret hend hpan => ?_)
  try simp only [cA, nA]
  refine cj_seq fun K1 hK1 => cj_region ?_
  refine Pm ?_
  refine Pm ?_
  refine Pa (Ca Tryz.call33 ((grAt_q w i).eq3 (ptrAt_some hc))) ?_
  refine Ps ?_
  refine rj_nil (hK1 _ _ _ (cj_seq fun K2 hK2 => cj_region ?_))
  refine Pm ?_
  refine Pa (y_pneq Tryz.underlying81 rfl rfl) ?_
  refine rj_nil (hK2 _ _ _ (cj_cond_t rfl (cj_seq fun K3 hK3 => cj_region ?_)))
  refine Pm ?_
  refine Pa (y_nilCheck rfl) ?_
  refine Pa (Ga Tryz.underlying87 Tryz.sizeOf83) ?_
  first | refine Pa (La o83) ?_ | refine Pa (Ls o83) ?_
  refine Pm ?_
  refine Ra Tryz.call34 (crash_t c.b.d c.v.u m.D 690000000 hmw.ok (by omega) keep) ?_
  rintro r R2 L' hR2 ⟨rfl, u2, rfl⟩
  have hst2 := hst R u2
  rw [← hok.len] at hst2
  try simp only [cA, nA]
  refine rj_nil (hK3 _ _ _ (cj_region ?_))
  refine Pm ?_
  refine Pm ?_
  refine Pm ?_
  refine Pa (y_nilCheck rfl) ?_
  refine Pa (Ga Tryz.underlying90 Tryz.sizeOf88) ?_
  first | refine Pa (La o88) ?_ | refine Pa (Ls o88) ?_
  first | refine Pa (y_len_sl Tryz.underlying88 rfl) ?_ | refine Pa (y_len_slc Tryz.underlying88 rfl fd_) ?_
  refine Ra Tryz.call35 (hst2) ?_
  rintro r R3 L' hR3 ⟨c', hcm, hv', rfl⟩
  rw [hok.len] at hv' ⊢
  try simp only [cA, nA]
  refine rj_nil (hend _ _ _ ?_)
  apply ej_end Tryz.results12 .nil _ (memL c' (m.crash i G.ms.length keep) ++ grR w { G with ms := G.ms.set i (m.crash i G.ms.length keep) }) hR3 rfl
  case hp => exact ⟨trivial, c', w.vn, w.css, w.vo, hcm, by rw [crash_x]; exact hv', hok.els.mono hR3, rfl⟩
  case hS => exact sb_
theorem grCrash_t {R : Hp} (w : GV) (G : GS) (i : Nat) (keep : Int) (hok : GOk R w G) (hi : i < G.ms.length) (hw : GW G) (ho : ∀ m, G.ms[i]? = some m → Opens m.D keep) :
    Tri Tryz.prog 12 [.pointer (some ⟨w.g, 0, none⟩), .int .i64 (i : Int), .int .i64 keep] R (grL w G) (fun r R' L' => GrP w (G.crash i keep) R' L') := by
  obtain ⟨m, hm⟩ : ∃ m, G.ms[i]? = some m := ⟨_, List.getElem?_eq_getElem hi⟩
  obtain ⟨c, hc, _, _⟩ := hok.at hm
  exact Tri.mono (act_big hok hc hm (by rw [crash_eq hm]) (grCrash0_t w G c m i keep hok hc hm hw (ho m hm))) (fun _ _ _ _ h => h.2) (fun _ _ _ _ h => h)
end V
end Go.Proofs.YtenfjpigffjgmaaGreat
set_option linter.unusedSimpArgs false
set_option linter.unusedVariables false
set_option maxRecDepth 100000
namespace Go.Proofs.YtenfjpigffjgmaaGreat
open Go.RowKit
namespace V
set_option maxHeartbeats 4000000
theorem run_equalIn_fn {P : Program} (n : Nat) {t : TypeId} {a b : Array TypeId} {v : Bool} {f : Fn} {fs cs : Array Value} {w : World} (hT : P.underlying t = some (.func a b v)) : (Op.equalIn (n + 1) t (.func f fs cs) .nilFunc).run P w = .ok false w := by
  simp [Op.equalIn, run_underlying hT]
theorem run_equal_fn {P : Program} {t : TypeId} {a b : Array TypeId} {v : Bool} {f : Fn} {fs cs : Array Value} {w : World} (hT : P.underlying t = some (.func a b v)) : (Op.equal t (.func f fs cs) .nilFunc).run P w = .ok false w := run_equalIn_fn 9999 hT
theorem y_feql {c : Cx} {E : Env} {R : Hp} {L : List Asn} {ty : TypeId} {p : String} {af : Array Edge} {g : Option (Nat × Bool)} {d : Option Tmp} {x y : Operand} {t t' : TypeId} {a b : Array TypeId} {v : Bool} {f : Fn} {fs cs : Array Value} (hT : c.P.underlying t = some (.func a b v)) (e1 : ev E x = some (.func f fs cs)) (e2 : ev E y = some .nilFunc) :
    Yld c E R L ⟨d, .binOp .eql t x y t', ty, p, af, g⟩ (.bool false) :=
  fun _ w hf _ => by simp [execOp, hf.ev e1, hf.ev e2, eqGuard, binOp, run_equal_fn hT, Oper.quietUpon]
theorem find_snoc (l : List (List Asn)) (As : List Asn) : Find (gA As) ((l ++ [As]).map gA) (l.map gA) := by
  induction l with
  | nil => exact .head _
  | cons B l ih => exact .tail ih
theorem bigA_snoc {l : List (List Asn)} {As : List Asn} (g : Hp) (k : stars [gA As, bigA l] g) : bigA (l ++ [As]) g := by
  obtain ⟨h1, h2, a, b, c, d, k1, _, a2, _, _, d2, _⟩ := k
  exact (find_snoc l As).back ⟨h1, k1, a, Hp.le_trans a2 b, Hp.dis_le c a2, d, d2⟩
theorem Sat.bigSnoc {L M : List Asn} {R : Hp} {σ : World} {w : World} {l : List (List Asn)} {As : List Asn} (hS : Sub L (As ++ bigA l :: M)) (hs : Sat σ R L w) : Sat σ R (bigA (l ++ [As]) :: M) w :=
  Sat.join (A := bigA (l ++ [As])) (As := [gA As, bigA l]) bigA_snoc (Sat.join (A := gA As) (As := As) (fun _ k => k) (hs.sub hS))
theorem rj_bigSnoc {c : Cx} {ops : Array Oper} {Q : Exit → Act → World → Prop} {E : Env} {R : Hp} {L M : List Asn} {o : List Oper} {l : List (List Asn)} {As : List Asn} (hS : Sub L (As ++ bigA l :: M)) (h : RJ c ops Q o E R (bigA (l ++ [As]) :: M)) : RJ c ops Q o E R L := fun a w hf hs => h a w hf (hs.bigSnoc hS)
def newK (n k : Nat) : GS := ⟨(List.range k).map fun i => startS i n LG.new DK.new, [], 0, []⟩
theorem newK_len (n k : Nat) : (newK n k).ms.length = k := by simp [newK]
theorem mems_snoc {cs : List MV} {ms : List MS} (h : cs.length = ms.length) (c : MV) (m : MS) : memsL cs ms ++ [memL c m] = memsL (cs ++ [c]) (ms ++ [m]) := by
  unfold memsL
  rw [List.zipWith_append h]; rfl
theorem newK_succ (n k : Nat) : (newK n (k + 1)).ms = (newK n k).ms ++ [startS k n LG.new DK.new] := by simp [newK, List.range_succ]
theorem dt_new : DTell DK.new.b [] [] LG.new := ⟨rfl, torn_nil, .nil _ LG.new_ok⟩
def mv0 (b : Nat) : MV := ⟨b, ⟨0, 0, 0⟩, 0, NV.new (.slice none 0 0) (.slice none 0 0), .slice none 0 0⟩
theorem ptrs_snoc (cs : List MV) (c : MV) : ptrsV cs ++ [.pointer (some ⟨c.m, 0, none⟩)] = ptrsV (cs ++ [c]) := by simp [ptrsV]
theorem grok_snoc {R R' : Hp} {w : GV} {n k : Nat} {c' : MV} (hok : GOk R w (newK n k)) (hwn : w.cs.length = k) (hR : R.le R') (hv : NOk R' c'.v (ND.start k n LG.new)) (va : Value) : GOk R' { w with va := va, cs := w.cs ++ [c'] } (newK n (k + 1)) := by
  refine ⟨by rw [newK_len]; simp [hwn], fun i c m hc hm => ?_, hok.els.mono hR⟩
  rw [newK_succ] at hm
  dsimp only at hc
  by_cases hi : i < k
  · rw [List.getElem?_append_left (by rw [hwn]; exact hi)] at hc
    rw [List.getElem?_append_left (by rw [newK_len]; exact hi)] at hm
    exact (hok.nd i c m hc hm).mono hR
  · rw [List.getElem?_append_right (by omega), hwn] at hc
    rw [List.getElem?_append_right (by rw [newK_len]; omega), newK_len] at hm
    by_cases h0 : i - k = 0
    · rw [h0] at hc hm
      simp at hc hm
      subst hc; subst hm
      have e : (startS k n LG.new DK.new).x = ND.start k n LG.new := by unfold startS; split <;> rfl
      rw [e]; exact hv
    · rw [List.getElem?_eq_none (by simp; omega)] at hc; cases hc
theorem grNew_t {R : Hp} (n : Nat) (hn : 1 ≤ n ∧ n ≤ 9) : Tri Tryz.prog 19 [.int .i64 (n : Int), fnV] R []
    (fun r R' L' => ∃ w, r = tupOf [.pointer (some ⟨w.g, 0, none⟩), .int .i64 0] ∧ GOk R' w (GS.new n) ∧ L' = grL w (GS.new n)) := by
  refine tri_of Tryz.func19 rfl Tryz.ntmps19 rfl (fun σ F Q hret hend hpan => ?_)
  try simp only [cA, nA]
  refine cj_seq fun K1 hK1 => cj_region ?_
  refine Ps ?_
  refine Ps ?_
  refine rj_nil (hK1 _ _ _ (cj_seq fun K2 hK2 => cj_seq fun K3 hK3 => cj_region ?_))
  refine Pm ?_
  refine Pa ((Yld.to (u := .bool false) (y_lss rfl rfl) (by rw [decide_eq_false (by omega)]))) ?_
  refine Pm ?_
  refine Pb (y_move rfl) ?_
  refine Pb ((Yld.to (u := .bool false) (y_gtr rfl rfl) (by rw [decide_eq_false (by omega)]))) ?_
  refine Pa (y_pick_f rfl rfl) ?_
  refine Pm ?_
  refine Pb (y_move rfl) ?_
  refine Pb ((y_feql Tryz.underlying49 rfl rfl)) ?_
  refine Pa (y_pick_f rfl rfl) ?_
  refine rj_nil (hK3 _ _ _ (cj_cond_f rfl (cj_skip (hK2 _ _ _ (cj_seq fun K4 hK4 => cj_region ?_)))))
  refine Pm ?_
  refine Ra Tryz.call46 (netNew_t) ?_
  rintro r R1 L' hR1 ⟨rfl, bn, rfl, rfl⟩
  refine rj_add (A := slc 81 1 (.slice none 0 0) 0 []) (slc_nil _ _) ?_
  refine rj_add (A := ocS (.slice none 0 0) []) (slc_nil _ _) ?_
  refine rj_add (A := bigA []) (fun _ => trivial) ?_
  try simp only [cA, nA]
  refine Pa (y_build (cells := [_, _, _, _]) [(0, 1), (1, 1), (2, 1), (3, 1)] Tryz.underlying90 Tryz.zeroValue90 (fun _ => rfl) rfl rfl) ?_
  refine rj_box (wn0 rfl) rfl rfl rfl (fun bg => ?_)
  refine Ps ?_
  refine rj_nil (hK4 _ _ _ (cj_seq fun K5 hK5 => cj_seq fun K6 hK6 => cj_region ?_))
  refine Pm ?_
  refine Pm ?_
  refine rj_nil (hK6 _ _ _ (cj_block ?_))
  refine cj_env (E' := (fun (x : Nat × GV × Hp) => [(0, .int .i64 (n : Int)), (6, .pointer (some ⟨x.2.1.g, 0, none⟩)), (23, .int .i64 (n : Int)), (24, .int .i64 (x.1 : Int))]) (0, ⟨bg, .slice none 0 0, bn, .slice none 0 0, [], .slice none 0 0, []⟩, R)) (eC rfl (eC rfl (eC rfl (eC rfl eN)))) ?_
  refine cj_sub (M := (fun (x : Nat × GV × Hp) => grL x.2.1 (newK n x.1) ++ F) (0, ⟨bg, .slice none 0 0, bn, .slice none 0 0, [], .slice none 0 0, []⟩, R)) sb_ ?_
  refine cj_loop (fun (x : Nat × GV × Hp) => [(0, .int .i64 (n : Int)), (6, .pointer (some ⟨x.2.1.g, 0, none⟩)), (23, .int .i64 (n : Int)), (24, .int .i64 (x.1 : Int))]) (fun (x : Nat × GV × Hp) => x.2.2) (fun (x : Nat × GV × Hp) => grL x.2.1 (newK n x.1) ++ F) (fun (x : Nat × GV × Hp) => x.1 ≤ n ∧ x.2.1.cs.length = x.1 ∧ GOk x.2.2 x.2.1 (newK n x.1) ∧ R.le x.2.2) (fun (x : Nat × GV × Hp) => n - x.1) (0, ⟨bg, .slice none 0 0, bn, .slice none 0 0, [], .slice none 0 0, []⟩, R) (⟨by simp, rfl, ⟨rfl, fun i c m hc _ => (by simp at hc), Els.nil⟩, Hp.le_refl _⟩) ?_
  rintro ⟨k, w, R4⟩ ⟨hk, hwn, hok, hR4⟩
  try dsimp only
  dsimp only at hk hwn hok hR4
  refine cj_seq fun K7 hK7 => cj_region ?_
  refine Pa (y_lss rfl rfl) ?_
  refine rj_nil (hK7 _ _ _ (cj_seq fun K8 hK8 => ?_))
  refine cj_cond rfl (fun hc25 => ?_) (fun hc25 => ?_)
  try simp only [dT, dF, nT, nF, tF, fT] at hc25
  refine cj_skip (hK8 _ _ _ (cj_seq fun K10 hK10 => cj_block (cj_seq fun K11 hK11 => cj_region ?_)))
  refine Pm ?_
  refine Ps ?_
  refine rj_nil (hK11 _ _ _ (cj_seq fun K12 hK12 => ?_))
  have hk2 : k < n := by (try simp at hc25); omega
  refine cj_region ?_
  refine Ra Tryz.call47 (new_t) ?_
  rintro r R2 L' hR2 ⟨rfl, bd, u0, rfl, rfl⟩
  try simp only [cA, nA]
  refine Pa (y_build (cells := [_, _, _, _]) [(0, 1), (1, 1), (2, 1), (3, 1)] Tryz.underlying87 Tryz.zeroValue87 (fun _ => rfl) rfl rfl) ?_
  refine rj_box (wn0 rfl) rfl rfl rfl (fun bm => ?_)
  refine Ps ?_
  refine rj_nil (hK12 _ _ _ ?_)
  refine cj_env (eL 0 rfl (eL 6 rfl (eL 7 rfl (eL 8 rfl (eL 23 rfl (eL 24 rfl eN)))))) ?_
  refine cj_seq fun K13 hK13 => cj_region ?_
  refine Pm ?_
  refine Pm ?_
  refine Pa (y_nilCheck rfl) ?_
  refine Pa (Ga Tryz.underlying90 Tryz.sizeOf88) ?_
  first | refine Pa (La o88) ?_ | refine Pa (Ls o88) ?_
  refine Pm ?_
  refine rj_buildSlice (sz := 1) (wn0 rfl) rfl Tryz.underlying88 Tryz.sizeOf81 Tryz.zeroValue81 rfl rfl rfl (by decide) (by decide) (fun bz => ?_)
  refine rj_append (sz := 1) (by_ := 8) ⟨Tryz.underlying88, _, _, rfl, rfl, rfl, rfl, rfl⟩ (wn0 rfl) rfl rfl rfl fd_ (src_slc (xs := [.pointer (some ⟨bm, 0, none⟩)]) Tryz.underlying88 fd_ (by (first | (simp [Value.oneCell']; done) | (intro u hu; simp only [List.mem_cons, List.not_mem_nil, or_false] at hu; rcases hu with rfl | rfl | rfl | rfl <;> first | rfl | assumption)))) rfl om_ (by simp only [maxLen]; omega) (fun v37 ho37 hh37 => ?_)
  rw [show ptrsV w.cs ++ [.pointer (some ⟨bm, 0, none⟩)] = ptrsV (w.cs ++ [mv0 bm]) from ptrs_snoc w.cs (mv0 bm), show w.cs.length + 1 = (w.cs ++ [mv0 bm]).length by simp]
  refine Pa (y_nilCheck rfl) ?_
  refine Pa (Ga Tryz.underlying90 Tryz.sizeOf88) ?_
  refine Sa o88 ?_
  refine rj_nil (hK13 _ _ _ (cj_region ?_))
  refine Pm ?_
  refine Pm ?_
  refine Pm ?_
  have hst := grStart_t (R := R4) { w with va := v37, cs := w.cs ++ [mv0 bm] } bm bd (.pointer none) .nilIface (.int .u64 0) u0 DK.new [] [] LG.new k n (by simp [← hwn, mv0]) ⟨hk2, hn.2⟩ ⟨rfl, rfl⟩ (by exact ⟨by decide, by decide, by decide, by decide, by decide⟩) rfl dt_new rfl ⟨rfl, rfl⟩
  rw [show (DK.new.open [] []).2 = DK.new from rfl] at hst
  refine Ra Tryz.call35 (hst) ?_
  rintro r R5 L' hR5 ⟨c', hcm, hv', rfl⟩
  refine rj_bigSnoc (l := memsL w.cs (newK n k).ms) (As := memL c' (startS k n LG.new DK.new)) sb_ ?_
  have hgs : grS { w with va := v37, cs := w.cs ++ [mv0 bm] } = grS { w with va := v37, cs := w.cs ++ [c'] } := by unfold grS; dsimp only; rw [← ptrs_snoc w.cs (mv0 bm), ← ptrs_snoc w.cs c', hcm]; simp [mv0]
  refine rj_turn (A := grS { w with va := v37, cs := w.cs ++ [mv0 bm] }) (B := grS { w with va := v37, cs := w.cs ++ [c'] }) fd_ (fun h hh => hgs ▸ hh) ?_
  have hok2 : GOk R5 { w with va := v37, cs := w.cs ++ [c'] } (newK n (k + 1)) := grok_snoc hok hwn hR5 hv' v37
  rw [mems_snoc hok.len, ← newK_succ]
  try simp only [cA, nA]
  refine rj_nil (hK10 _ _ _ (cj_region ?_))
  first | refine Pa (y_add64 rfl rfl om_) ?_ | refine Pa (y_add rfl rfl) ?_
  refine Pm ?_
  refine rj_nil ?_
  refine ej_on (q' := roundK _ _ _ _ _ _ _) rfl ?_
  refine ej_round ((k + 1, { w with va := v37, cs := w.cs ++ [c'] }, R5)) (⟨by dsimp only; omega, by simp [hwn], hok2, Hp.le_trans hR4 hR5⟩) (by dsimp only; omega) (eC rfl (eC rfl (eC rfl (eC rfl eN)))) rfl sb_
  try simp only [dT, dF, nT, nF, tF, fT] at hc25
  refine cj_exit (hK5 _ _ _ (cj_seq fun K14 hK14 => ?_))
  obtain rfl : k = n := by (try simp at hc25); omega
  refine cj_region ?_
  refine Pm ?_
  refine Ps ?_
  refine Ps ?_
  refine rj_nil (hK14 _ _ _ (cj_ret (hret _ _ _ ?_)))
  apply ej_ret Tryz.results19 (.cons (rv_tmp rfl) (.cons (rv_tmp rfl) .nil)) _ (grL w (newK k k)) hR4 rfl
  case hp => exact ⟨w, rfl, hok, rfl⟩
  case hS => exact sb_
end V
end Go.Proofs.YtenfjpigffjgmaaGreat
set_option linter.unusedSimpArgs false
set_option linter.unusedVariables false
set_option maxRecDepth 100000
namespace Go.Proofs.YtenfjpigffjgmaaGreat
open Go.RowKit
namespace V
set_option maxHeartbeats 4000000
theorem QTri.split {P : Program} {f : FuncId} {args : List Value} {R : Hp} {L pre F : List Asn} {v : Value} (h : QTri P f args R pre v) (s : Split L pre F) : QTri P f args R L v := fun σ G w hs => by
  have s2 := s.app G
  refine (h σ (F ++ G) w (s2.sat hs)).mono fun e w' ⟨he, hw⟩ => ⟨he, s2.satBack hw⟩
theorem QTri.mem {P : Program} {f : FuncId} {args : List Value} {R : Hp} {cs : List MV} {ms : List MS} {i : Nat} {c : MV} {m : MS} {pre F : List Asn} {v : Value} (hc : cs[i]? = some c) (hm : ms[i]? = some m) (h : QTri P f args R pre v) (s : Split (memL c m) pre F) : QTri P f args R [bigA (memsL cs ms)] v :=
  QTri.big (mems_at hc hm) (h.split (by simpa using s))
@[reducible] def grA (w : GV) (G : GS) : Asn := bigA (memsL w.cs G.ms)
section
variable {R : Hp} {w : GV} {G : GS} {i : Nat} {c : MV} {m : MS}
theorem gNode_q (hc : w.cs[i]? = some c) (hm : G.ms[i]? = some m) : QTri Tryz.prog 22 [.pointer (some ⟨w.g, 0, none⟩), .int .i64 (i : Int)] R [grA w G, grB w, grS w] (.pointer (some ⟨c.b.x, 0, none⟩)) := QTri.big (mems_at hc hm) (grNode_q w c m i hc)
theorem gApplied_q (hc : w.cs[i]? = some c) (hm : G.ms[i]? = some m) : QTri Tryz.prog 18 [.pointer (some ⟨w.g, 0, none⟩), .int .i64 (i : Int)] R [grA w G, grB w, grS w] (.int .u64 m.ap) := QTri.big (mems_at hc hm) (grApplied_q w c m i hc)
theorem gDid_q (hc : w.cs[i]? = some c) (hm : G.ms[i]? = some m) : QTri Tryz.prog 17 [.pointer (some ⟨w.g, 0, none⟩), .int .i64 (i : Int)] R [grA w G, grB w, grS w] c.vl := QTri.big (mems_at hc hm) (did_q w c m i hc)
theorem gLeader_q (hc : w.cs[i]? = some c) (hm : G.ms[i]? = some m) : QTri Tryz.prog 58 [.pointer (some ⟨c.b.x, 0, none⟩)] R [grA w G] (.int .i64 m.x.leader) := QTri.mem hc hm (ndLeader_q c.b c.v m.x) sp_
theorem gRole_q (hc : w.cs[i]? = some c) (hm : G.ms[i]? = some m) : QTri Tryz.prog 38 [.pointer (some ⟨c.b.x, 0, none⟩)] R [grA w G] (.int .i64 m.x.role) := QTri.mem hc hm (ndRole_q c.b c.v m.x) sp_
theorem gLog_q (hc : w.cs[i]? = some c) (hm : G.ms[i]? = some m) : QTri Tryz.prog 23 [.pointer (some ⟨c.b.x, 0, none⟩)] R [grA w G] (.pointer (some ⟨c.b.l, 0, none⟩)) := QTri.mem hc hm (ndLog_q c.b c.v m.x) sp_
theorem gTerm_q (hc : w.cs[i]? = some c) (hm : G.ms[i]? = some m) : QTri Tryz.prog 24 [.pointer (some ⟨c.b.l, 0, none⟩)] R [grA w G] (.int .u64 m.x.g.term) := QTri.mem hc hm (lgTerm_q c.b.l (some ⟨c.b.d, 0, none⟩) c.v.va m.x.g) sp_
end
theorem gNoNode_q {R : Hp} (w : GV) (i : Int) (h : i < 0 ∨ (w.cs.length : Int) ≤ i) : QTri Tryz.prog 22 [.pointer (some ⟨w.g, 0, none⟩), .int .i64 i] R [grB w, grS w] (.pointer none) := by
  have ha := (grAt_q (R := R) w i).eq3 (ptrAt_none h)
  refine Tri.q ?_
  refine tri_of Tryz.func22 rfl Tryz.ntmps22 rfl (fun σ F Q hret hend hpan => ?_)
  try simp only [cA, nA]
  refine cj_seq fun K1 hK1 => cj_region ?_
  refine Ps ?_
  refine rj_nil (hK1 _ _ _ (cj_seq fun K2 hK2 => cj_seq fun K3 hK3 => cj_region ?_))
  refine Pm ?_
  refine Pm ?_
  refine Pa (Ca Tryz.call33 (ha)) ?_
  refine Ps ?_
  refine rj_nil (hK3 _ _ _ (cj_seq fun K4 hK4 => cj_region ?_))
  refine Pm ?_
  refine Pa (y_pneq Tryz.underlying81 rfl rfl) ?_
  refine rj_nil (hK4 _ _ _ (cj_cond_f rfl (cj_skip (hK2 _ _ _ ?_))))
  refine cj_env eN ?_
  refine cj_seq fun K5 hK5 => cj_region ?_
  refine Ps ?_
  refine rj_nil (hK5 _ _ _ (cj_ret (hret _ _ _ ?_)))
  refine Ea Tryz.results22 (.cons (rv_tmp rfl) .nil) [grB w, grS w] le_ ?_
  exact ⟨rfl, rfl, rfl⟩
theorem ndNoRole_q {R : Hp} : QTri Tryz.prog 38 [.pointer none] R [] (.int .i64 0) := by
  refine Tri.q ?_
  refine tri_of Tryz.func38 rfl Tryz.ntmps38 rfl (fun σ F Q hret hend hpan => ?_)
  try simp only [cA, nA]
  refine cj_seq fun K1 hK1 => cj_region ?_
  refine Ps ?_
  refine rj_nil (hK1 _ _ _ (cj_seq fun K2 hK2 => cj_seq fun K3 hK3 => cj_region ?_))
  refine Pm ?_
  refine Pa (y_peql Tryz.underlying56 rfl rfl) ?_
  refine rj_nil (hK3 _ _ _ (cj_cond_t rfl (cj_seq fun K4 hK4 => cj_region ?_)))
  refine Ps ?_
  refine rj_nil (hK4 _ _ _ (cj_ret (hret _ _ _ ?_)))
  refine Ea Tryz.results38 (.cons (rv_tmp rfl) .nil) [] le_ ?_
  exact ⟨rfl, rfl, rfl⟩
def GS.leader (G : GS) (i : Nat) : Int := match G.ms[i]? with | some m => m.x.leader | none => -1
def GS.term (G : GS) (i : Nat) : Int := match G.ms[i]? with | some m => m.x.g.term | none => 0
def GS.role (G : GS) (i : Int) : Int := if 0 ≤ i then (match G.ms[i.toNat]? with | some m => m.x.role | none => 0) else 0
def GS.alike (G : GS) (k : Nat) : Bool := (List.range k).all fun i => decide (G.leader i = G.leader 0 ∧ G.term i = G.term 0)
def GS.leads (G : GS) (n : Nat) : Int × Bool := if G.alike n = true then (G.leader 0, decide (¬ G.leader 0 = -1) && decide (G.role (G.leader 0) = 2)) else (-1, false)
theorem alike_succ {G : GS} {k : Nat} (h : G.alike k = true) : G.alike (k + 1) = decide (G.leader k = G.leader 0 ∧ G.term k = G.term 0) := by
  unfold GS.alike at *
  rw [List.range_succ, List.all_append, h]; simp
theorem alike_no {G : GS} {k n : Nat} (hk : k < n) (h : ¬ (G.leader k = G.leader 0 ∧ G.term k = G.term 0)) : ¬ G.alike n = true := fun ha => by
  unfold GS.alike at ha
  rw [List.all_eq_true] at ha
  exact h (of_decide_eq_true (ha k (by simpa using hk)))
theorem GS.at_l {G : GS} {i : Nat} {m : MS} (hm : G.ms[i]? = some m) : G.leader i = m.x.leader ∧ G.term i = m.x.g.term ∧ G.role (i : Int) = m.x.role := by
  unfold GS.leader GS.term GS.role
  rw [if_pos (by omega), Int.toNat_natCast, hm]
  exact ⟨rfl, rfl, rfl⟩
theorem gRoleAt {R : Hp} {w : GV} {G : GS} (hl : w.cs.length = G.ms.length) (i : Int) : ∃ p, QTri Tryz.prog 22 [.pointer (some ⟨w.g, 0, none⟩), .int .i64 i] R [grA w G, grB w, grS w] (.pointer p) ∧ QTri Tryz.prog 38 [.pointer p] R [grA w G] (.int .i64 (G.role i)) := by
  by_cases h : 0 ≤ i ∧ i < G.ms.length
  · obtain ⟨i, rfl⟩ := Int.eq_ofNat_of_zero_le h.1
    obtain ⟨m, hm⟩ : ∃ m, G.ms[i]? = some m := ⟨_, List.getElem?_eq_getElem (by omega)⟩
    obtain ⟨c, hc⟩ : ∃ c, w.cs[i]? = some c := ⟨_, List.getElem?_eq_getElem (by omega)⟩
    exact ⟨_, gNode_q hc hm, by rw [(GS.at_l hm).2.2]; exact gRole_q hc hm⟩
  · refine ⟨none, (gNoNode_q w i (by omega)).split (F := [grA w G]) sp_, ?_⟩
    have e : G.role i = 0 := by
      unfold GS.role
      by_cases h0 : 0 ≤ i
      · rw [if_pos h0, List.getElem?_eq_none (by omega)]
      · rw [if_neg h0]
    rw [e]
    exact ndNoRole_q.split (F := [grA w G]) sp_
theorem leads_q {R : Hp} (w : GV) (G : GS) (n : Nat) (hl : w.cs.length = G.ms.length) (hn : 0 < n ∧ n ≤ G.ms.length) (hn9 : n ≤ 9) : QTri Tryz.prog 36 [.pointer (some ⟨w.g, 0, none⟩), .int .i64 (n : Int)] R [grA w G, grB w, grS w] (tupOf [.int .i64 (G.leads n).1, .bool (G.leads n).2]) := by
  obtain ⟨m0, hm0⟩ : ∃ m, G.ms[0]? = some m := ⟨_, List.getElem?_eq_getElem (by omega)⟩
  obtain ⟨c0, hc0⟩ : ∃ c, w.cs[0]? = some c := ⟨_, List.getElem?_eq_getElem (by omega)⟩
  obtain ⟨l0, t0, _⟩ := GS.at_l hm0
  have hnd0 := gNode_q (R := R) (i := 0) hc0 hm0
  obtain ⟨pw, hpw, hpr⟩ := gRoleAt (R := R) hl (G.leader 0)
  refine Tri.q ?_
  refine tri_of Tryz.func36 rfl Tryz.ntmps36 rfl (fun σ F Q hret hend hpan => ?_)
  try simp only [cA, nA]
  refine cj_seq fun K1 hK1 => cj_region ?_
  refine Ps ?_
  refine Ps ?_
  refine rj_nil (hK1 _ _ _ (cj_seq fun K2 hK2 => cj_region ?_))
  refine Pm ?_
  refine Pa (Ca Tryz.call22 (hnd0)) ?_
  refine Pa (Ca Tryz.call58 ((gLeader_q hc0 hm0).eq3 (by rw [← l0]))) ?_
  refine Ps ?_
  refine rj_nil (hK2 _ _ _ (cj_seq fun K3 hK3 => cj_seq fun K4 hK4 => cj_region ?_))
  refine Pm ?_
  refine Pm ?_
  refine rj_nil (hK4 _ _ _ (cj_block ?_))
  refine cj_env (E' := (fun (x : Nat) => [(0, .pointer (some ⟨w.g, 0, none⟩)), (6, .int .i64 (G.leader 0)), (12, .int .i64 (n : Int)), (13, .int .i64 (x : Int))]) 0) (eC rfl (eC rfl (eC rfl (eC rfl eN)))) ?_
  refine cj_sub (M := (fun (x : Nat) => grA w G :: grB w :: grS w :: F) 0) sb_ ?_
  refine cj_loop (fun (x : Nat) => [(0, .pointer (some ⟨w.g, 0, none⟩)), (6, .int .i64 (G.leader 0)), (12, .int .i64 (n : Int)), (13, .int .i64 (x : Int))]) (fun (x : Nat) => R) (fun (x : Nat) => grA w G :: grB w :: grS w :: F) (fun (x : Nat) => x ≤ n ∧ G.alike x = true) (fun (x : Nat) => n - x) 0 (⟨by omega, rfl⟩) ?_
  rintro k ⟨hk, ha⟩
  try dsimp only
  refine cj_seq fun K5 hK5 => cj_region ?_
  refine Pa (y_lss rfl rfl) ?_
  refine rj_nil (hK5 _ _ _ (cj_seq fun K6 hK6 => ?_))
  refine cj_cond rfl (fun hc14 => ?_) (fun hc14 => ?_)
  try simp only [dT, dF, nT, nF, tF, fT] at hc14
  refine cj_skip (hK6 _ _ _ (cj_seq fun K8 hK8 => cj_block (cj_seq fun K9 hK9 => cj_region ?_)))
  refine Pm ?_
  refine Ps ?_
  refine rj_nil (hK9 _ _ _ (cj_seq fun K10 hK10 => ?_))
  have hk2 : k < n := by (try simp at hc14); omega
  obtain ⟨m, hm⟩ : ∃ m, G.ms[k]? = some m := ⟨_, List.getElem?_eq_getElem (by omega)⟩
  obtain ⟨c, hc⟩ : ∃ c, w.cs[k]? = some c := ⟨_, List.getElem?_eq_getElem (by omega)⟩
  obtain ⟨lk, tk, _⟩ := GS.at_l hm
  refine cj_region ?_
  refine Pm ?_
  refine Pm ?_
  refine Pa (Ca Tryz.call22 (gNode_q hc hm)) ?_
  refine Ps ?_
  refine rj_nil (hK10 _ _ _ (cj_seq fun K11 hK11 => cj_region ?_))
  refine Pm ?_
  refine Pa (Ca Tryz.call58 ((gLeader_q hc hm).eq3 (by rw [← lk]))) ?_
  refine Pm ?_
  refine Pa (y_neq rfl rfl) ?_
  refine Pm ?_
  refine rj_part 23 rfl (fun hg23 => ?_) (fun hg23 => ?_)
  try simp only [dT, dF, nT, nF, tF, fT] at hg23
  refine Pk ?_
  refine Pk ?_
  refine Pk ?_
  refine Pk ?_
  refine Pk ?_
  refine Pk ?_
  refine Pk ?_
  refine Pk ?_
  refine Pa (y_pick_t rfl rfl) ?_
  refine rj_nil (hK11 _ _ _ ?_)
  refine cj_env (eL 0 rfl (eL 6 rfl (eL 12 rfl (eL 13 rfl (eL 32 rfl eN))))) ?_
  refine cj_cond_t rfl (cj_seq fun K12 hK12 => cj_region ?_)
  refine Ps ?_
  refine Ps ?_
  refine rj_nil (hK12 _ _ _ (cj_ret (hret _ _ _ ?_)))
  refine Ea Tryz.results36 (.cons (rv_tmp rfl) (.cons (rv_tmp rfl) .nil)) [grA w G, grB w, grS w] le_ ?_
  have hno : ¬ (G.leader k = G.leader 0 ∧ G.term k = G.term 0) := by simp_all
  rw [show G.leads n = (-1, false) by unfold GS.leads; rw [if_neg (alike_no hk2 hno)]]; exact ⟨rfl, rfl, rfl⟩
  try simp only [dT, dF, nT, nF, tF, fT] at hg23
  refine Pb (y_move rfl) ?_
  refine Pb (Ca Tryz.call23 (gLog_q hc hm)) ?_
  refine Pb (Ca Tryz.call24 ((gTerm_q hc hm).eq3 (by rw [← tk]))) ?_
  refine Pb (y_move rfl) ?_
  refine Pb (Ca Tryz.call22 (hnd0)) ?_
  refine Pb (Ca Tryz.call23 (gLog_q hc0 hm0)) ?_
  refine Pb (Ca Tryz.call24 ((gTerm_q hc0 hm0).eq3 (by rw [← t0]))) ?_
  refine Pb (y_neq rfl rfl) ?_
  refine Pa (y_pick_f rfl rfl) ?_
  refine rj_nil (hK11 _ _ _ ?_)
  refine cj_cond rfl (fun hc32 => ?_) (fun hc32 => ?_)
  try simp only [dT, dF, nT, nF, tF, fT] at hc32
  refine cj_seq fun K14 hK14 => cj_region ?_
  refine Ps ?_
  refine Ps ?_
  refine rj_nil (hK14 _ _ _ (cj_ret (hret _ _ _ ?_)))
  refine Ea Tryz.results36 (.cons (rv_tmp rfl) (.cons (rv_tmp rfl) .nil)) [grA w G, grB w, grS w] le_ ?_
  have hno : ¬ (G.leader k = G.leader 0 ∧ G.term k = G.term 0) := by simp_all
  rw [show G.leads n = (-1, false) by unfold GS.leads; rw [if_neg (alike_no hk2 hno)]]; exact ⟨rfl, rfl, rfl⟩
  try simp only [dT, dF, nT, nF, tF, fT] at hc32
  refine cj_skip (hK8 _ _ _ (cj_region ?_))
  first | refine Pa (y_add64 rfl rfl om_) ?_ | refine Pa (y_add rfl rfl) ?_
  refine Pm ?_
  refine rj_nil ?_
  refine ej_on (q' := roundK _ _ _ _ _ _ _) rfl ?_
  refine ej_round (k + 1) (⟨by omega, by rw [alike_succ ha]; simp_all⟩) (by omega) (eC rfl (eC rfl (eC rfl (eC rfl eN)))) rfl sb_
  try simp only [dT, dF, nT, nF, tF, fT] at hc14
  refine cj_exit (hK3 _ _ _ (cj_seq fun K15 hK15 => ?_))
  have hkn : k = n := by (try simp at hc14); omega
  have el : G.leads n = (G.leader 0, decide (¬ G.leader 0 = -1) && decide (G.role (G.leader 0) = 2)) := by unfold GS.leads; rw [if_pos (by rw [← hkn]; exact ha)]
  refine cj_region ?_
  refine Pm ?_
  refine Pm ?_
  refine Pa (y_neq rfl rfl) ?_
  refine Pm ?_
  refine rj_part 37 rfl (fun hg37 => ?_) (fun hg37 => ?_)
  try simp only [dT, dF, nT, nF, tF, fT] at hg37
  refine Pb (y_move rfl) ?_
  refine Pb (y_move rfl) ?_
  refine Pb (Ca Tryz.call22 (hpw)) ?_
  refine Pb (Ca Tryz.call38 (hpr)) ?_
  refine Pb (y_eql rfl rfl) ?_
  refine Pa (y_pick_t rfl rfl) ?_
  refine Ps ?_
  refine Ps ?_
  refine rj_nil (hK15 _ _ _ ?_)
  refine cj_env (eL 4 rfl (eL 5 rfl eN)) ?_
  refine cj_ret (hret _ _ _ ?_)
  refine Ea Tryz.results36 (.cons (rv_tmp rfl) (.cons (rv_tmp rfl) .nil)) [grA w G, grB w, grS w] le_ ?_
  refine ⟨?_, rfl, rfl⟩; rw [el]; simp_all [tupOf]
  try simp only [dT, dF, nT, nF, tF, fT] at hg37
  refine Pk ?_
  refine Pk ?_
  refine Pk ?_
  refine Pk ?_
  refine Pk ?_
  refine Pa (y_pick_f rfl rfl) ?_
  refine Ps ?_
  refine Ps ?_
  refine rj_nil (hK15 _ _ _ (cj_ret (hret _ _ _ ?_)))
  refine Ea Tryz.results36 (.cons (rv_tmp rfl) (.cons (rv_tmp rfl) .nil)) [grA w G, grB w, grS w] le_ ?_
  refine ⟨?_, rfl, rfl⟩; rw [el]; simp_all [tupOf]
end V
end Go.Proofs.YtenfjpigffjgmaaGreat
set_option linter.unusedSimpArgs false
set_option linter.unusedVariables false
set_option maxRecDepth 100000
namespace Go.Proofs.YtenfjpigffjgmaaGreat
open Go.RowKit
namespace V
set_option maxHeartbeats 4000000
def GS.drop (G : GS) (k : Int) : GS := { G with st := dropL G.st k }
def GS.twice (G : GS) (k : Int) : GS := { G with st := twL G.st G.last k, last := twN G.st G.last k }
def GS.outs (G : GS) : GS := { G with out := [] }
structure Bud (n C : Nat) (J : Nat → Nat → GS → Prop) : Prop where
  gw : ∀ c d G, J c d G → GW G
  ln : ∀ c d G, J c d G → G.ms.length = n
  le : ∀ c d G, J (c + 1) d G → J c d G
  le2 : ∀ c d G, J c (d + 1) G → J c d G
  tick : ∀ c d G i, i < n → J (c + 1) (d + 1) G → J c d (G.tick i)
  del : ∀ c d G k, J (c + 1) d G → J c d (G.deliver k)
  prop : ∀ c d G i cmd, i < n → cmd.length ≤ 100 → J (c + 1) (d + 1) G → J c d (G.propose i cmd).2
  comp : ∀ c d G i, i < n → J (c + 1) d G → J c d (G.compact i).2
  fuel : ∀ c d G i k, i < n → i64B k → J (c + 1) d G → J c d (G.fuel i k)
  opens : ∀ (c d : Nat) (G : GS) (i : Nat) (m : MS) (k : Int), J (c + 1) d G → G.ms[i]? = some m → Opens m.D k
  crash : ∀ c d G i k, i < n → J (c + 1) d G → J c d (G.crash i k)
  drop : ∀ c d G k, J (c + 1) d G → J c d (G.drop k)
  twice : ∀ c d G k, J (c + 1) d G → J c d (G.twice k)
  last : ∀ c d G, J c d G → G.last + n * c ≤ n * C ∧ G.st.length + n * c ≤ n * C
  outs : ∀ c d G, J c d G → J c d G.outs
theorem Bud.les {n C : Nat} {J : Nat → Nat → GS → Prop} (h : Bud n C J) {G : GS} {d : Nat} : ∀ (k : Nat) {c : Nat}, J (c + k) d G → J c d G
  | 0, _, hj => hj
  | k + 1, c, hj => h.les k (h.le _ _ _ (by rw [show c + k + 1 = c + (k + 1) by omega]; exact hj))
theorem Bud.les2 {n C : Nat} {J : Nat → Nat → GS → Prop} (h : Bud n C J) {G : GS} {c : Nat} : ∀ (k : Nat) {d : Nat}, J c (d + k) G → J c d G
  | 0, _, hj => hj
  | k + 1, d, hj => h.les2 k (h.le2 _ _ _ (by rw [show d + k + 1 = d + (k + 1) by omega]; exact hj))
theorem Bud.leq {n C : Nat} {J : Nat → Nat → GS → Prop} (h : Bud n C J) {G : GS} {c c' d d' : Nat} (hc : c ≤ c') (hd : d ≤ d') (hj : J c' d' G) : J c d G :=
  h.les (c' - c) (h.les2 (d' - d) (by rw [show c + (c' - c) = c' by omega, show d + (d' - d) = d' by omega]; exact hj))
def GS.ticks (G : GS) (k : Nat) : GS := (List.range k).foldl GS.tick G
theorem ticks_succ (G : GS) (k : Nat) : G.ticks (k + 1) = (G.ticks k).tick k := by unfold GS.ticks; rw [List.range_succ, List.foldl_append]; rfl
def GS.del1 (G : GS) : GS := if G.st.length > 0 then G.deliver 0 else G
def GS.dels (G : GS) : Nat → GS
  | 0 => G
  | k + 1 => (G.dels k).del1
theorem dels_stop {G : GS} {k : Nat} (h : (G.dels k).st.length = 0) : ∀ j, G.dels (k + j) = G.dels k
  | 0 => rfl
  | j + 1 => by
    show (G.dels (k + j)).del1 = _
    rw [dels_stop h j]
    unfold GS.del1
    rw [if_neg (by omega)]
theorem dels_end {G : GS} {k n : Nat} (hk : k ≤ n) (h : (G.dels k).st.length = 0) : G.dels n = G.dels k := by
  have := dels_stop h (n - k)
  rw [show k + (n - k) = n by omega] at this
  exact this
def GS.round (G : GS) (n : Nat) : GS := (G.ticks n).dels 200
def GS.rounds (G : GS) (n : Nat) : Nat → GS
  | 0 => G
  | k + 1 => (G.rounds n k).round n
theorem Bud.ticks {n C : Nat} {J : Nat → Nat → GS → Prop} (h : Bud n C J) {G : GS} {c d : Nat} : ∀ {k : Nat}, k ≤ n → J (c + k) (d + k) G → J c d (G.ticks k)
  | 0, _, hj => hj
  | k + 1, hk, hj => by
    rw [ticks_succ]
    exact h.tick _ _ _ _ (by omega) (h.ticks (c := c + 1) (d := d + 1) (by omega) (by rw [show c + 1 + k = c + (k + 1) by omega, show d + 1 + k = d + (k + 1) by omega]; exact hj))
theorem Bud.dels {n C : Nat} {J : Nat → Nat → GS → Prop} (h : Bud n C J) {G : GS} {d : Nat} : ∀ {k c : Nat}, J (c + k) d G → J c d (G.dels k)
  | 0, _, hj => hj
  | k + 1, c, hj => by
    have h1 := h.dels (k := k) (c := c + 1) (by rw [show c + 1 + k = c + (k + 1) by omega]; exact hj)
    show J c d (G.dels k).del1
    unfold GS.del1
    split
    · exact h.del _ _ _ _ h1
    · exact h.le _ _ _ h1
theorem Bud.round {n C : Nat} {J : Nat → Nat → GS → Prop} (h : Bud n C J) {G : GS} {c d : Nat} (hj : J (c + (n + 200)) (d + n) G) : J c d (G.round n) :=
  h.dels (h.ticks (Nat.le_refl n) (by rw [show c + 200 + n = c + (n + 200) by omega]; exact hj))
theorem Bud.rounds {n C : Nat} {J : Nat → Nat → GS → Prop} (h : Bud n C J) {G : GS} : ∀ {k c d : Nat}, J (c + k * (n + 200)) (d + k * n) G → J c d (G.rounds n k)
  | 0, c, d, hj => by simpa [GS.rounds] using hj
  | k + 1, c, d, hj => h.round (h.rounds (k := k) (by rw [show c + (n + 200) + k * (n + 200) = c + (k + 1) * (n + 200) by rw [Nat.add_mul]; omega, show d + n + k * n = d + (k + 1) * n by rw [Nat.add_mul]; omega]; exact hj))
theorem rounds_t {R : Hp} (w : GV) (G : GS) (n r c d C : Nat) {J : Nat → Nat → GS → Prop} (hB : Bud n C J) (hn : 0 < n ∧ n ≤ 9) (hr : r ≤ 1000) (hok : GOk R w G) (hj : J (c + r * (n + 200)) (d + r * n) G) :
    Tri Tryz.prog 13 [.pointer (some ⟨w.g, 0, none⟩), .int .i64 (n : Int), .int .i64 (r : Int)] R (grL w G)
      (fun x R' L' => x = tupOf [.int .i64 ((G.rounds n r).leads n).1, .bool ((G.rounds n r).leads n).2] ∧ GrP w (G.rounds n r) R' L') := by
  refine tri_of Tryz.func13 rfl Tryz.ntmps13 rfl (fun σ F Q hret hend hpan => ?_)
  try simp only [cA, nA]
  refine cj_seq fun K1 hK1 => cj_region ?_
  refine Ps ?_
  refine Ps ?_
  refine rj_nil (hK1 _ _ _ (cj_seq fun K2 hK2 => cj_seq fun K3 hK3 => cj_region ?_))
  refine Pm ?_
  refine Pm ?_
  refine rj_nil (hK3 _ _ _ (cj_block ?_))
  refine cj_env (E' := (fun (x : Nat × GV × Hp) => [(0, .pointer (some ⟨w.g, 0, none⟩)), (1, .int .i64 (n : Int)), (10, .int .i64 (r : Int)), (11, .int .i64 (x.1 : Int))]) (0, w, R)) (eC rfl (eC rfl (eC rfl (eC rfl eN)))) ?_
  refine cj_sub (M := (fun (x : Nat × GV × Hp) => grL x.2.1 (G.rounds n x.1) ++ F) (0, w, R)) sb_ ?_
  refine cj_loop (fun (x : Nat × GV × Hp) => [(0, .pointer (some ⟨w.g, 0, none⟩)), (1, .int .i64 (n : Int)), (10, .int .i64 (r : Int)), (11, .int .i64 (x.1 : Int))]) (fun (x : Nat × GV × Hp) => x.2.2) (fun (x : Nat × GV × Hp) => grL x.2.1 (G.rounds n x.1) ++ F) (fun (x : Nat × GV × Hp) => x.1 ≤ r ∧ (∃ vn css vo cs, x.2.1 = ⟨w.g, w.va, w.n, vn, css, vo, cs⟩) ∧ GOk x.2.2 x.2.1 (G.rounds n x.1) ∧ J (c + (r - x.1) * (n + 200)) (d + (r - x.1) * n) (G.rounds n x.1) ∧ R.le x.2.2) (fun (x : Nat × GV × Hp) => r - x.1) (0, w, R) (⟨by simp, ⟨_, _, _, _, rfl⟩, hok, by simpa [GS.rounds] using hj, Hp.le_refl _⟩) ?_
  rintro ⟨k, w1, R1⟩ ⟨hk, hg1, hok1, hj1, hR1⟩
  try dsimp only
  dsimp only at hk hg1 hok1 hj1 hR1
  obtain ⟨vn1, css1, vo1, cs1, rfl⟩ := hg1
  refine cj_seq fun K4 hK4 => cj_region ?_
  refine Pa (y_lss rfl rfl) ?_
  refine rj_nil (hK4 _ _ _ (cj_seq fun K5 hK5 => ?_))
  refine cj_cond rfl (fun hc12 => ?_) (fun hc12 => ?_)
  try simp only [dT, dF, nT, nF, tF, fT] at hc12
  refine cj_skip (hK5 _ _ _ (cj_seq fun K7 hK7 => cj_block (cj_seq fun K8 hK8 => cj_seq fun K9 hK9 => ?_)))
  have hk2 : k < r := by (try simp at hc12); omega
  have hj2 : J (c + (r - (k + 1)) * (n + 200) + 200 + n) (d + (r - (k + 1)) * n + n) (G.rounds n k) := by rw [show c + (r - (k + 1)) * (n + 200) + 200 + n = c + (r - k) * (n + 200) by rw [show r - k = (r - (k + 1)) + 1 by omega, Nat.add_mul]; omega, show d + (r - (k + 1)) * n + n = d + (r - k) * n by rw [show r - k = (r - (k + 1)) + 1 by omega, Nat.add_mul]; omega]; exact hj1
  obtain ⟨cc, hcc⟩ : ∃ cc, cc = c + (r - (k + 1)) * (n + 200) := ⟨_, rfl⟩
  obtain ⟨dd, hdd⟩ : ∃ dd, dd = d + (r - (k + 1)) * n := ⟨_, rfl⟩
  rw [← hcc, ← hdd] at hj2
  obtain ⟨G1, hG1⟩ : ∃ G1, G1 = G.rounds n k := ⟨_, rfl⟩
  rw [← hG1] at hj2 hok1 ⊢
  refine cj_region ?_
  refine Pm ?_
  refine Pm ?_
  refine rj_nil (hK9 _ _ _ (cj_block ?_))
  refine cj_env (E' := (fun (y : Nat × GV × Hp) => [(0, .pointer (some ⟨w.g, 0, none⟩)), (1, .int .i64 (n : Int)), (10, .int .i64 (r : Int)), (11, .int .i64 (k : Int)), (13, .int .i64 (n : Int)), (14, .int .i64 (y.1 : Int))]) (0, ⟨w.g, w.va, w.n, vn1, css1, vo1, cs1⟩, R1)) (eC rfl (eC rfl (eC rfl (eC rfl (eC rfl (eC rfl eN)))))) ?_
  refine cj_sub (M := (fun (y : Nat × GV × Hp) => grL y.2.1 (G1.ticks y.1) ++ F) (0, ⟨w.g, w.va, w.n, vn1, css1, vo1, cs1⟩, R1)) sb_ ?_
  refine cj_loop (fun (y : Nat × GV × Hp) => [(0, .pointer (some ⟨w.g, 0, none⟩)), (1, .int .i64 (n : Int)), (10, .int .i64 (r : Int)), (11, .int .i64 (k : Int)), (13, .int .i64 (n : Int)), (14, .int .i64 (y.1 : Int))]) (fun (y : Nat × GV × Hp) => y.2.2) (fun (y : Nat × GV × Hp) => grL y.2.1 (G1.ticks y.1) ++ F) (fun (y : Nat × GV × Hp) => y.1 ≤ n ∧ (∃ vn css vo cs, y.2.1 = ⟨w.g, w.va, w.n, vn, css, vo, cs⟩) ∧ GOk y.2.2 y.2.1 (G1.ticks y.1) ∧ R1.le y.2.2) (fun (y : Nat × GV × Hp) => n - y.1) (0, ⟨w.g, w.va, w.n, vn1, css1, vo1, cs1⟩, R1) (⟨by simp, ⟨_, _, _, _, rfl⟩, hok1, Hp.le_refl _⟩) ?_
  rintro ⟨j, w2, R2⟩ ⟨hj3, hg2, hok2, hR2⟩
  try dsimp only
  dsimp only at hj3 hg2 hok2 hR2
  obtain ⟨vn2, css2, vo2, cs2, rfl⟩ := hg2
  refine cj_seq fun K10 hK10 => cj_region ?_
  refine Pa (y_lss rfl rfl) ?_
  refine rj_nil (hK10 _ _ _ (cj_seq fun K11 hK11 => ?_))
  refine cj_cond rfl (fun hc15 => ?_) (fun hc15 => ?_)
  try simp only [dT, dF, nT, nF, tF, fT] at hc15
  refine cj_skip (hK11 _ _ _ (cj_seq fun K13 hK13 => cj_block (cj_seq fun K14 hK14 => ?_)))
  have hj4 : j < n := by (try simp at hc15); omega
  have hjt := hB.ticks (c := cc + 200 + (n - j)) (d := dd + (n - j)) (k := j) (by omega) (by rw [show cc + 200 + (n - j) + j = cc + 200 + n by omega, show dd + (n - j) + j = dd + n by omega]; exact hj2)
  have hjt2 := hB.tick (cc + 200 + (n - (j + 1))) (dd + (n - (j + 1))) _ j hj4 (by rw [show cc + 200 + (n - (j + 1)) + 1 = cc + 200 + (n - j) by omega, show dd + (n - (j + 1)) + 1 = dd + (n - j) by omega]; exact hjt)
  refine cj_region ?_
  refine Pm ?_
  refine Ps ?_
  refine rj_nil (hK14 _ _ _ (cj_region ?_))
  refine Pm ?_
  refine Pm ?_
  refine Ra Tryz.call26 (grTick_t ⟨w.g, w.va, w.n, vn2, css2, vo2, cs2⟩ (G1.ticks j) j hok2 (by rw [hB.ln _ _ _ hjt]; exact hj4) (hB.gw _ _ _ hjt) (hB.gw _ _ _ hjt2)) ?_
  rintro x R4 L' hR4 ⟨vn4, css4, vo4, cs4, hok4, rfl⟩
  rw [← ticks_succ]
  try simp only [cA, nA]
  refine rj_nil (hK13 _ _ _ (cj_region ?_))
  first | refine Pa (y_add64 rfl rfl om_) ?_ | refine Pa (y_add rfl rfl) ?_
  refine Pm ?_
  refine rj_nil ?_
  refine ej_on (q' := roundK _ _ _ _ _ _ _) rfl ?_
  refine ej_round ((j + 1, ⟨w.g, w.va, w.n, vn4, css4, vo4, cs4⟩, R4)) (⟨by dsimp only; omega, ⟨_, _, _, _, rfl⟩, by dsimp only; rw [ticks_succ]; exact hok4, Hp.le_trans hR2 hR4⟩) (by dsimp only; omega) (eC rfl (eC rfl (eC rfl (eC rfl (eC rfl (eC rfl eN)))))) rfl sb_
  try simp only [dT, dF, nT, nF, tF, fT] at hc15
  refine cj_exit (hK8 _ _ _ (cj_seq fun K15 hK15 => ?_))
  have hjn0 : j = n := by (try simp at hc15); omega
  have hjt := hB.ticks (c := cc + 200) (d := dd) (k := n) (Nat.le_refl n) hj2
  rw [hjn0] at hok2 ⊢
  obtain ⟨G2, hG2⟩ : ∃ G2, G2 = G1.ticks n := ⟨_, rfl⟩
  rw [← hG2] at hjt hok2 ⊢
  refine cj_region ?_
  refine Ps ?_
  refine rj_nil (hK15 _ _ _ (cj_block ?_))
  refine cj_env (E' := (fun (z : Nat × GV × Hp) => [(0, .pointer (some ⟨w.g, 0, none⟩)), (1, .int .i64 (n : Int)), (9, .int .i64 (z.1 : Int)), (10, .int .i64 (r : Int)), (11, .int .i64 (k : Int))]) (0, ⟨w.g, w.va, w.n, vn2, css2, vo2, cs2⟩, R2)) (eC rfl (eC rfl (eC rfl (eC rfl (eC rfl eN))))) ?_
  refine cj_sub (M := (fun (z : Nat × GV × Hp) => grL z.2.1 (G2.dels z.1) ++ F) (0, ⟨w.g, w.va, w.n, vn2, css2, vo2, cs2⟩, R2)) sb_ ?_
  refine cj_loop (fun (z : Nat × GV × Hp) => [(0, .pointer (some ⟨w.g, 0, none⟩)), (1, .int .i64 (n : Int)), (9, .int .i64 (z.1 : Int)), (10, .int .i64 (r : Int)), (11, .int .i64 (k : Int))]) (fun (z : Nat × GV × Hp) => z.2.2) (fun (z : Nat × GV × Hp) => grL z.2.1 (G2.dels z.1) ++ F) (fun (z : Nat × GV × Hp) => z.1 ≤ 200 ∧ (∃ vn css vo cs, z.2.1 = ⟨w.g, w.va, w.n, vn, css, vo, cs⟩) ∧ GOk z.2.2 z.2.1 (G2.dels z.1) ∧ R2.le z.2.2) (fun (z : Nat × GV × Hp) => 200 - z.1) (0, ⟨w.g, w.va, w.n, vn2, css2, vo2, cs2⟩, R2) (⟨by simp, ⟨_, _, _, _, rfl⟩, hok2, Hp.le_refl _⟩) ?_
  rintro ⟨q, w3, R3⟩ ⟨hq, hg3, hok3, hR3⟩
  try dsimp only
  dsimp only at hq hg3 hok3 hR3
  obtain ⟨vn3, css3, vo3, cs3, rfl⟩ := hg3
  refine cj_seq fun K16 hK16 => cj_seq fun K17 hK17 => cj_region ?_
  refine Pm ?_
  refine Pa (y_lss rfl rfl) ?_
  refine Pm ?_
  refine rj_part 23 rfl (fun hg23 => ?_) (fun hg23 => ?_)
  try simp only [dT, dF, nT, nF, tF, fT] at hg23
  refine Pb (y_move rfl) ?_
  refine Pb (Ca Tryz.call28 (grNet_q ⟨w.g, w.va, w.n, vn3, css3, vo3, cs3⟩)) ?_
  refine Pb (Ca Tryz.call29 (netLen_q w.n vn3 (G2.dels q).last (G2.dels q).st css3)) ?_
  refine Pb (y_gtr rfl rfl) ?_
  refine Pa (y_pick_t rfl rfl) ?_
  refine rj_nil (hK17 _ _ _ ?_)
  refine cj_env (eL 0 rfl (eL 1 rfl (eL 9 rfl (eL 10 rfl (eL 11 rfl (eL 28 rfl eN)))))) ?_
  refine cj_cond rfl (fun hc28 => ?_) (fun hc28 => ?_)
  try simp only [dT, dF, nT, nF, tF, fT] at hc28
  refine cj_skip (hK16 _ _ _ (cj_seq fun K19 hK19 => cj_block ?_))
  have hq2 : q < 200 := by (try simp at hg23); omega
  have hln : (G2.dels q).st.length > 0 := by (try simp at hc28); omega
  have hd1 : (G2.dels q).deliver 0 = G2.dels (q + 1) := by show _ = (G2.dels q).del1; unfold GS.del1; rw [if_pos hln]
  have hjd := hB.dels (c := cc + (200 - q)) (k := q) (by rw [show cc + (200 - q) + q = cc + 200 by omega]; exact hjt)
  have hjd2 := hB.del (cc + (200 - (q + 1))) dd _ 0 (by rw [show cc + (200 - (q + 1)) + 1 = cc + (200 - q) by omega]; exact hjd)
  refine cj_region ?_
  refine Pm ?_
  refine Ra Tryz.call31 (grDeliver_t ⟨w.g, w.va, w.n, vn3, css3, vo3, cs3⟩ (G2.dels q) 0 hok3 (hB.gw _ _ _ hjd) (hB.gw _ _ _ hjd2)) ?_
  rintro x R5 L' hR5 ⟨rfl, vn5, css5, vo5, cs5, hok5, rfl⟩
  rw [hd1]
  try simp only [cA, nA]
  refine rj_nil (hK19 _ _ _ (cj_region ?_))
  refine Pm ?_
  first | refine Pa (y_add64 rfl rfl om_) ?_ | refine Pa (y_add rfl rfl) ?_
  refine Ps ?_
  refine rj_nil ?_
  refine ej_on (q' := roundK _ _ _ _ _ _ _) rfl ?_
  refine ej_round ((q + 1, ⟨w.g, w.va, w.n, vn5, css5, vo5, cs5⟩, R5)) (⟨by dsimp only; omega, ⟨_, _, _, _, rfl⟩, by dsimp only; rw [hd1] at hok5; exact hok5, Hp.le_trans hR3 hR5⟩) (by dsimp only; omega) (eC rfl (eC rfl (eC rfl (eC rfl (eC rfl eN))))) rfl sb_
  try simp only [dT, dF, nT, nF, tF, fT] at hc28
  refine cj_exit (hK7 _ _ _ ?_)
  have hfin : G2.dels q = G2.dels 200 := by first | (exact (dels_end (by omega) (by omega)).symm) | (rw [show q = 200 by omega])
  have hrd : G2.dels 200 = G.rounds n (k + 1) := by rw [hG2, hG1]; rfl
  have hjn : J (c + (r - (k + 1)) * (n + 200)) (d + (r - (k + 1)) * n) (G.rounds n (k + 1)) := by rw [← hrd, ← hcc, ← hdd]; exact hB.dels hjt
  rw [hfin, hrd] at hok3 ⊢
  refine cj_region ?_
  first | refine Pa (y_add64 rfl rfl om_) ?_ | refine Pa (y_add rfl rfl) ?_
  refine Pm ?_
  refine rj_nil ?_
  refine ej_on (q' := roundK _ _ _ _ _ _ _) rfl ?_
  refine ej_round ((k + 1, ⟨w.g, w.va, w.n, vn3, css3, vo3, cs3⟩, R3)) (⟨by dsimp only; omega, ⟨_, _, _, _, rfl⟩, hok3, by dsimp only; exact hjn, Hp.le_trans hR1 (Hp.le_trans hR2 hR3)⟩) (by dsimp only; omega) (eC rfl (eC rfl (eC rfl (eC rfl eN)))) rfl sb_
  try simp only [dT, dF, nT, nF, tF, fT] at hg23
  refine Pk ?_
  refine Pk ?_
  refine Pk ?_
  refine Pk ?_
  refine Pa (y_pick_f rfl rfl) ?_
  refine rj_nil (hK17 _ _ _ (cj_cond_f rfl (cj_exit (hK7 _ _ _ ?_))))
  have hfin : G2.dels q = G2.dels 200 := by first | (exact (dels_end (by omega) (by omega)).symm) | (rw [show q = 200 by omega])
  have hrd : G2.dels 200 = G.rounds n (k + 1) := by rw [hG2, hG1]; rfl
  have hjn : J (c + (r - (k + 1)) * (n + 200)) (d + (r - (k + 1)) * n) (G.rounds n (k + 1)) := by rw [← hrd, ← hcc, ← hdd]; exact hB.dels hjt
  rw [hfin, hrd] at hok3 ⊢
  refine cj_region ?_
  first | refine Pa (y_add64 rfl rfl om_) ?_ | refine Pa (y_add rfl rfl) ?_
  refine Pm ?_
  refine rj_nil ?_
  refine ej_on (q' := roundK _ _ _ _ _ _ _) rfl ?_
  refine ej_round ((k + 1, ⟨w.g, w.va, w.n, vn3, css3, vo3, cs3⟩, R3)) (⟨by dsimp only; omega, ⟨_, _, _, _, rfl⟩, hok3, by dsimp only; exact hjn, Hp.le_trans hR1 (Hp.le_trans hR2 hR3)⟩) (by dsimp only; omega) (eC rfl (eC rfl (eC rfl (eC rfl eN)))) rfl sb_
  try simp only [dT, dF, nT, nF, tF, fT] at hc12
  refine cj_exit (hK2 _ _ _ (cj_seq fun K20 hK20 => ?_))
  have hkr : k = r := by (try simp at hc12); omega
  have hms := hB.ln _ _ _ hj1
  rw [hkr] at hok1 hms ⊢
  refine cj_region ?_
  refine Pm ?_
  refine Pm ?_
  refine Pa (Ca Tryz.call36 (leads_q ⟨w.g, w.va, w.n, vn1, css1, vo1, cs1⟩ (G.rounds n r) n hok1.len (by rw [hms]; omega) hn.2)) ?_
  refine Pa (y_extract rfl rfl) ?_
  refine Pa (y_extract rfl rfl) ?_
  refine Ps ?_
  refine Ps ?_
  refine rj_nil (hK20 _ _ _ ?_)
  refine cj_env (eL 6 rfl (eL 7 rfl eN)) ?_
  refine cj_ret (hret _ _ _ ?_)
  apply ej_ret Tryz.results13 (.cons (rv_tmp rfl) (.cons (rv_tmp rfl) .nil)) _ (grL ⟨w.g, w.va, w.n, vn1, css1, vo1, cs1⟩ (G.rounds n r)) hR1 rfl
  case hp => exact ⟨rfl, vn1, css1, vo1, cs1, hok1, rfl⟩
  case hS => exact sb_
end V
end Go.Proofs.YtenfjpigffjgmaaGreat
set_option linter.unusedSimpArgs false
set_option linter.unusedVariables false
set_option maxRecDepth 100000
namespace Go.Proofs.YtenfjpigffjgmaaGreat
open Go.RowKit
namespace V
set_option maxHeartbeats 4000000
theorem Tri.split {P : Program} {f : FuncId} {args : List Value} {R : Hp} {L pre F : List Asn} {post : Value → Hp → List Asn → Prop} (h : Tri P f args R pre post) (s : Split L pre F) : Tri P f args R L (fun r R' L' => ∃ L1, post r R' L1 ∧ L' = L1 ++ F) := fun σ G w hs => by
  have s2 := s.app G
  refine (h σ (F ++ G) w (s2.sat hs)).mono fun e w' ⟨R', L', hR, hw, hp⟩ => ?_
  cases e with
  | panicked ch => exact hp.elim
  | outgrown => exact hp.elim
  | returned v => exact ⟨R', L' ++ F, hR, by rw [List.append_assoc]; exact hw, L', hp, rfl⟩
theorem gOutcomes_t {R : Hp} (w : GV) (G : GS) (hok : GOk R w G) : Tri Tryz.prog 15 [.pointer (some ⟨w.g, 0, none⟩)] R (grL w G)
    (fun r R' L' => r = w.vo ∧ R' = R ∧ ∃ vn css vo cs, GOk R' ⟨w.g, w.va, w.n, vn, css, vo, cs⟩ G.outs ∧ L' = grL ⟨w.g, w.va, w.n, vn, css, vo, cs⟩ G.outs ++ [ocS w.vo G.out]) := by
  refine tri_of Tryz.func15 rfl Tryz.ntmps15 rfl (fun σ F Q hret hend hpan => ?_)
  try simp only [cA, nA]
  refine cj_seq fun K1 hK1 => cj_region ?_
  refine Ps ?_
  refine rj_nil (hK1 _ _ _ (cj_seq fun K2 hK2 => cj_seq fun K3 hK3 => cj_region ?_))
  refine Pm ?_
  refine Pa (y_peql Tryz.underlying26 rfl rfl) ?_
  refine rj_nil (hK3 _ _ _ (cj_cond_f rfl (cj_skip (hK2 _ _ _ (cj_seq fun K4 hK4 => cj_region ?_)))))
  refine Pm ?_
  refine Pa (y_nilCheck rfl) ?_
  refine Pa (Ga Tryz.underlying90 Tryz.sizeOf34) ?_
  first | refine Pa (La o34) ?_ | refine Pa (Ls o34) ?_
  refine Ps ?_
  refine rj_nil (hK4 _ _ _ (cj_seq fun K5 hK5 => cj_region ?_))
  refine Pm ?_
  refine Pa (y_nilCheck rfl) ?_
  refine Pa (Ga Tryz.underlying90 Tryz.sizeOf34) ?_
  refine Sa o34 ?_
  refine rj_add (A := ocS (.slice none 0 0) []) (slc_nil _ _) ?_
  refine rj_nil (hK5 _ _ _ (cj_seq fun K6 hK6 => cj_region ?_))
  refine Pm ?_
  refine Ps ?_
  refine rj_nil (hK6 _ _ _ (cj_ret (hret _ _ _ ?_)))
  refine Ea Tryz.results15 (.cons (rv_tmp rfl) .nil) (grL ⟨w.g, w.va, w.n, w.vn, w.css, .slice none 0 0, w.cs⟩ G.outs ++ [ocS w.vo G.out]) le_ ?_
  exact ⟨rfl, rfl, w.vn, w.css, .slice none 0 0, w.cs, ⟨hok.len, hok.nd, hok.els⟩, rfl⟩
theorem vl_shape {cs : List MV} {ms : List MS} {i : Nat} {c : MV} {m : MS} (hc : cs[i]? = some c) (hm : ms[i]? = some m) : ∀ h, bigA (memsL cs ms) h → ∃ q cap, c.vl = .slice q m.l.length cap := fun h k => by
  obtain ⟨h1, h2, _, _, _, d, _⟩ := bigA_out (mems_at hc hm) h k
  obtain ⟨_, h3, _, _, _, _, e⟩ := d
  obtain ⟨_, h4, _, _, _, _, e⟩ := e
  obtain ⟨h5, _, _, _, _, f, _⟩ := e
  obtain ⟨q, cap, hq, _⟩ := slc_shape _ f
  exact ⟨q, cap, hq⟩
structure AwOK (t : Int) : Prop where
  l1 : ((GS.new 3).rounds 3 60).leads 3 = (0, true)
  p : (((GS.new 3).rounds 3 60).propose 0 [97]).1 = (2, t)
  t0 : t > 0
  l2 : ((((GS.new 3).rounds 3 60).propose 0 [97]).2.rounds 3 10).leads 3 = (0, true)
  o : ((((GS.new 3).rounds 3 60).propose 0 [97]).2.rounds 3 10).out.length = 3
  d : ∀ m, ((((GS.new 3).rounds 3 60).propose 0 [97]).2.rounds 3 10).ms[0]? = some m → m.l.length = 1
  a : ∀ m, ((((GS.new 3).rounds 3 60).propose 0 [97]).2.rounds 3 10).ms[1]? = some m → m.ap = 2
theorem awake11_t {R : Hp} {C c d : Nat} {J : Nat → Nat → GS → Prop} (hB : Bud 3 C J) (hj : J (c + 10 * (3 + 200) + 1 + 60 * (3 + 200)) (d + 10 * 3 + 1 + 60 * 3) (GS.new 3)) (t : Int) (ha : AwOK t) : Tri Tryz.prog 9 [] R [] (fun v R' L' => v = .bool true ∧ L' = []) := by
  have hj1 := hB.rounds (k := 60) (c := c + 10 * (3 + 200) + 1) (d := d + 10 * 3 + 1) hj
  have hj2 := hB.prop _ _ _ 0 [97] (by omega) (by decide) hj1
  have hj3 := hB.rounds (k := 10) (c := c) (d := d) hj2
  have h1 := ha.l1
  have h2 := ha.p
  have h3 := ha.l2
  have h4 := ha.o
  have h5 := ha.d
  have h6 := ha.a
  have ht := ha.t0
  have hw1 := hB.gw _ _ _ hj1
  have hw2 := hB.gw _ _ _ hj2
  obtain ⟨G1, hG1⟩ : ∃ G1, G1 = (GS.new 3).rounds 3 60 := ⟨_, rfl⟩
  rw [← hG1] at h1 h2 h3 h4 h5 h6 hj1 hj2 hj3 hw1 hw2
  obtain ⟨G2, hG2⟩ : ∃ G2, G2 = (G1.propose 0 [97]).2 := ⟨_, rfl⟩
  rw [← hG2] at h3 h4 h5 h6 hj2 hj3 hw2
  obtain ⟨G3, hG3⟩ : ∃ G3, G3 = G2.rounds 3 10 := ⟨_, rfl⟩
  rw [← hG3] at h3 h4 h5 h6 hj3
  have hn1 := hB.ln _ _ _ hj1
  have hn3 := hB.ln _ _ _ hj3
  obtain ⟨m0, hm0⟩ : ∃ m, G3.outs.ms[0]? = some m := ⟨_, List.getElem?_eq_getElem (by show 0 < G3.ms.length; omega)⟩
  obtain ⟨m1, hm1⟩ : ∃ m, G3.outs.ms[1]? = some m := ⟨_, List.getElem?_eq_getElem (by show 1 < G3.ms.length; omega)⟩
  have h5 := h5 m0 hm0
  have h6 := h6 m1 hm1
  refine tri_of Tryz.func9 rfl Tryz.ntmps9 rfl (fun σ F Q hret hend hpan => ?_)
  try simp only [cA, nA]
  refine cj_env eN ?_
  refine cj_seq fun K1 hK1 => cj_region ?_
  refine Ps ?_
  refine rj_nil (hK1 _ _ _ (cj_seq fun K2 hK2 => cj_region ?_))
  refine Ra Tryz.call19 (grNew_t 3 (by decide)) ?_
  rintro r R1 L' hR1 ⟨w, rfl, hok, rfl⟩
  try simp only [cA, nA]
  refine Pm ?_
  refine Pa (y_extract rfl rfl) ?_
  refine Pa (y_extract rfl rfl) ?_
  refine Ps ?_
  refine Ps ?_
  refine rj_nil (hK2 _ _ _ (cj_seq fun K3 hK3 => cj_seq fun K4 hK4 => cj_region ?_))
  refine Pm ?_
  refine Pa ((Yld.to (u := .bool false) (y_neq rfl rfl) (by simp))) ?_
  refine Pm ?_
  refine Pb (y_move rfl) ?_
  refine Pb (Ca Tryz.call28 ((grNet_q w))) ?_
  refine Pb (y_peql Tryz.underlying66 rfl rfl) ?_
  refine Pa (y_pick_f rfl rfl) ?_
  refine rj_nil (hK4 _ _ _ (cj_cond_f rfl (cj_skip (hK3 _ _ _ (cj_seq fun K5 hK5 => cj_region ?_)))))
  refine Pm ?_
  refine Ra Tryz.call13 (rounds_t w (GS.new 3) 3 60 (c + 10 * (3 + 200) + 1) (d + 10 * 3 + 1) C hB (by decide) (by decide) hok hj) ?_
  rintro r R2 L' hR2 ⟨rfl, vn2, css2, vo2, cs2, hok2, rfl⟩
  rw [← hG1] at hok2 ⊢
  rw [h1]
  dsimp only
  try simp only [cA, nA]
  refine Pm ?_
  refine Pa (y_extract rfl rfl) ?_
  refine Pa (y_extract rfl rfl) ?_
  refine Ps ?_
  refine Ps ?_
  refine rj_nil (hK5 _ _ _ ?_)
  refine cj_env (eL 1 rfl (eL 3 rfl (eL 4 rfl eN))) ?_
  refine cj_seq fun K6 hK6 => cj_region ?_
  refine Pm ?_
  refine Pm ?_
  refine Ra Tryz.call16 (grPropose_t ⟨w.g, w.va, w.n, vn2, css2, vo2, cs2⟩ G1 0 [97] (by decide) hok2 (by omega) hw1 (by rw [← hG2]; exact hw2)) ?_
  rintro r R3 L' hR3 ⟨rfl, vn3, css3, vo3, cs3, hok3, rfl⟩
  rw [← hG2] at hok3 ⊢
  rw [h2]
  dsimp only
  try simp only [cA, nA]
  refine Pm ?_
  refine Pa (y_extract rfl rfl) ?_
  refine Pa (y_extract rfl rfl) ?_
  refine Ps ?_
  refine Ps ?_
  refine rj_nil (hK6 _ _ _ (cj_seq fun K7 hK7 => cj_region ?_))
  refine Pm ?_
  refine Ra Tryz.call13 (rounds_t ⟨w.g, w.va, w.n, vn3, css3, vo3, cs3⟩ G2 3 10 c d C hB (by decide) (by decide) hok3 hj2) ?_
  rintro r R4 L' hR4 ⟨rfl, vn4, css4, vo4, cs4, hok4, rfl⟩
  rw [← hG3] at hok4 ⊢
  rw [h3]
  dsimp only
  refine rj_pure (A := ocS vo4 G3.out) fd_ slc_one (fun hvo4 => ?_)
  try simp only [cA, nA]
  refine Pm ?_
  refine Pa (y_extract rfl rfl) ?_
  refine Pa (y_extract rfl rfl) ?_
  refine Ps ?_
  refine Ps ?_
  refine rj_nil (hK7 _ _ _ (cj_seq fun K8 hK8 => cj_region ?_))
  refine Pm ?_
  refine Pm ?_
  refine Pb (y_move rfl) ?_
  refine Pa (y_pick_t rfl rfl) ?_
  refine Pm ?_
  refine Pb (y_move rfl) ?_
  refine Pb ((Yld.to (u := .bool true) (y_eql rfl rfl) (by simp))) ?_
  refine Pa (y_pick_t rfl rfl) ?_
  refine Pm ?_
  refine Pb (y_move rfl) ?_
  refine Pb ((Yld.to (u := .bool true) (y_gtr rfl rfl) (by simp; omega))) ?_
  refine Pa (y_pick_t rfl rfl) ?_
  refine Pm ?_
  refine Pb (y_move rfl) ?_
  refine rj_call (wn1 rfl rfl rfl rfl) rfl Tryz.call15 rfl (gOutcomes_t ⟨w.g, w.va, w.n, vn4, css4, vo4, cs4⟩ G3 hok4) sp_ (fun _ _ _ _ h => h.elim) ?_
  rintro r R5 L' hR5 ⟨rfl, rfl, vn5, css5, vo5, cs5, hok5, rfl⟩
  obtain ⟨c0, hc0, _, _⟩ := hok5.at hm0
  obtain ⟨c1, hc1, _, _⟩ := hok5.at hm1
  refine rj_pure (A := grA ⟨w.g, w.va, w.n, vn5, css5, vo5, cs5⟩ G3.outs) fd_ (vl_shape hc0 hm0) (fun hq => ?_)
  obtain ⟨q0, cap0, hq0⟩ := hq
  try simp only [cA, nA]
  first | refine Pb (y_len_sl Tryz.underlying34 rfl) ?_ | refine Pb (y_len_slc Tryz.underlying34 rfl fd_) ?_
  refine Pb ((Yld.to (u := .bool true) (y_eql rfl rfl) (by rw [h4]; simp))) ?_
  refine Pa (y_pick_t rfl rfl) ?_
  refine Pm ?_
  refine Pb (y_move rfl) ?_
  refine Pb (Ca Tryz.call17 ((gDid_q (w := ⟨w.g, w.va, w.n, vn5, css5, vo5, cs5⟩) (i := 0) hc0 hm0).eq3 hq0)) ?_
  first | refine Pb (y_len_sl Tryz.underlying42 rfl) ?_ | refine Pb (y_len_slc Tryz.underlying42 rfl fd_) ?_
  refine Pb ((Yld.to (u := .bool true) (y_eql rfl rfl) (by rw [h5]; simp))) ?_
  refine Pa (y_pick_t rfl rfl) ?_
  refine Pm ?_
  refine Pb (y_move rfl) ?_
  refine Pb (Ca Tryz.call18 ((gApplied_q (w := ⟨w.g, w.va, w.n, vn5, css5, vo5, cs5⟩) (i := 1) hc1 hm1).eq3 (by rw [h6]))) ?_
  refine Pb ((Yld.to (u := .bool true) (y_eql rfl rfl) (by simp))) ?_
  refine Pa (y_pick_t rfl rfl) ?_
  refine Ps ?_
  refine rj_nil (hK8 _ _ _ ?_)
  refine cj_env (eL 0 rfl eN) ?_
  refine cj_ret (hret _ _ _ ?_)
  refine Ea Tryz.results9 (.cons (rv_tmp rfl) .nil) [] (by exact Hp.le_trans hR1 (Hp.le_trans hR2 (Hp.le_trans hR3 hR4))) ?_
  exact ⟨rfl, rfl⟩
end V
end Go.Proofs.YtenfjpigffjgmaaGreat
set_option linter.unusedSimpArgs false
set_option linter.unusedVariables false
set_option maxRecDepth 100000
namespace Go.Proofs.YtenfjpigffjgmaaGreat
open Go.RowKit
namespace V
set_option maxHeartbeats 4000000
def GS.tickN (G : GS) (i : Nat) : Nat → GS
  | 0 => G
  | k + 1 => (G.tickN i k).tick i
theorem Bud.tickN {n C : Nat} {J : Nat → Nat → GS → Prop} (h : Bud n C J) {i : Nat} (hi : i < n) {G : GS} : ∀ {k c d : Nat}, J (c + k) (d + k) G → J c d (G.tickN i k)
  | 0, _, _, hj => hj
  | k + 1, c, d, hj => h.tick _ _ _ _ hi (h.tickN hi (c := c + 1) (d := d + 1) (by rw [show c + 1 + k = c + (k + 1) by omega, show d + 1 + k = d + (k + 1) by omega]; exact hj))
end V
end Go.Proofs.YtenfjpigffjgmaaGreat
set_option linter.unusedSimpArgs false
set_option linter.unusedVariables false
set_option maxRecDepth 100000
namespace Go.Proofs.YtenfjpigffjgmaaGreat
open Go.RowKit
namespace V
set_option maxHeartbeats 4000000
def strE : Elt Bs where
  P := fun R s cs => cs = [.string (str s)]
  sz := 1
  mono := fun hR h => h
  len := fun h => by subst h; rfl
  one := fun h u hu => by subst h; simp at hu; subst hu; rfl
def boolE : Elt Bool where
  P := fun R b cs => cs = [.bool b]
  sz := 1
  mono := fun hR h => h
  len := fun h => by subst h; rfl
  one := fun h u hu => by subst h; simp at hu; subst hu; rfl
theorem strs_in {R : Hp} {v : Value} {ys : List Bs} (h : slcR 1 strR R [v] ys) : FrX strE R ys v ∧ ∀ s ∈ ys, s.length ≤ maxLen := by
  refine ⟨by have := slcR_frx (T := strE) (fun (x : List UInt8) => x) (fun c x hc h => by exact (show _ = _ from h.1)) h; simpa using this, fun s hs => ?_⟩
  obtain ⟨c, hc⟩ := slcR_all h s hs
  exact hc.2
theorem bools_in {R : Hp} {v : Value} {ys : List Bool} (h : slcR 1 boolR R [v] ys) : FrX boolE R ys v := by
  have := slcR_frx (T := boolE) (fun (x : Bool) => x) (fun c x hc h => by exact (show _ = _ from h)) h
  simpa using this
def beginsB (a b : List Bs) : Bool := decide (a.take (min a.length b.length) = b.take (min a.length b.length))
theorem takes_succ2 {α : Type} {l m : List α} {i : Nat} {x y : α} (hx : l[i]? = some x) (hy : m[i]? = some y) (h : l.take i = m.take i) (e : x = y) : l.take (i + 1) = m.take (i + 1) := by
  rw [List.take_add_one, List.take_add_one, hx, hy, h, e]
theorem begins_no {a b : List Bs} {i : Nat} {x y : Bs} (hx : a[i]? = some x) (hy : b[i]? = some y) (h : ¬ x = y) : beginsB a b = false := by
  unfold beginsB
  refine decide_eq_false fun e => h ?_
  have h1 := (List.getElem?_eq_some_iff.1 hx).1
  have h2 := (List.getElem?_eq_some_iff.1 hy).1
  have := congrArg (fun l => l[i]?) e
  simp only [List.getElem?_take_of_lt (show i < min a.length b.length by omega), hx, hy] at this
  simpa using this
theorem begins_yes {a b : List Bs} {i : Nat} (h : a.take i = b.take i) (hi : min a.length b.length ≤ i) : beginsB a b = true := by
  unfold beginsB
  refine decide_eq_true ?_
  have := congrArg (List.take (min a.length b.length)) h
  rwa [List.take_take, List.take_take, Nat.min_eq_left hi] at this
theorem begins_q {R : Hp} (va vb : Value) (a b : List Bs) : QTri Tryz.prog 27 [va, vb] R [lsS va a, lsS vb b] (.bool (beginsB a b)) := by
  refine Tri.q ?_
  refine tri_of Tryz.func27 rfl Tryz.ntmps27 rfl (fun σ F Q hret hend hpan => ?_)
  try simp only [cA, nA]
  refine cj_pure (A := lsS va a) fd_ slc_shape (fun hsa => ?_)
  refine cj_pure (A := lsS vb b) fd_ slc_shape (fun hsb => ?_)
  obtain ⟨qa, ca, rfl, ha1, ha2, _⟩ := hsa
  obtain ⟨qb, cb, rfl, hb1, hb2, _⟩ := hsb
  unfold maxLen at ha2 hb2
  refine cj_seq fun K1 hK1 => cj_region ?_
  refine Ps ?_
  refine rj_nil (hK1 _ _ _ (cj_seq fun K2 hK2 => cj_seq fun K3 hK3 => cj_region ?_))
  refine Ps ?_
  refine rj_nil (hK3 _ _ _ (cj_block ?_))
  refine cj_env (E' := (fun (x : Nat) => [(0, .slice qa a.length ca), (1, .slice qb b.length cb), (5, .int .i64 (x : Int))]) 0) (eC rfl (eC rfl (eC rfl eN))) ?_
  refine cj_sub (M := (fun (x : Nat) => lsS (.slice qa a.length ca) a :: lsS (.slice qb b.length cb) b :: F) 0) sb_ ?_
  refine cj_loop (fun (x : Nat) => [(0, .slice qa a.length ca), (1, .slice qb b.length cb), (5, .int .i64 (x : Int))]) (fun (x : Nat) => R) (fun (x : Nat) => lsS (.slice qa a.length ca) a :: lsS (.slice qb b.length cb) b :: F) (fun (x : Nat) => x ≤ min a.length b.length ∧ a.take x = b.take x) (fun (x : Nat) => a.length - x) 0 (⟨by simp, by simp⟩) ?_
  rintro i ⟨hi, he⟩
  try dsimp only
  refine cj_seq fun K4 hK4 => cj_seq fun K5 hK5 => cj_region ?_
  refine Pm ?_
  refine Pm ?_
  first | refine Pa (y_len_sl Tryz.underlying42 rfl) ?_ | refine Pa (y_len_slc Tryz.underlying42 rfl fd_) ?_
  refine Pa (y_lss rfl rfl) ?_
  refine Pm ?_
  refine rj_part 10 rfl (fun hg10 => ?_) (fun hg10 => ?_)
  try simp only [dT, dF, nT, nF, tF, fT] at hg10
  refine Pb (y_move rfl) ?_
  refine Pb (y_move rfl) ?_
  first | refine Pb (y_len_sl Tryz.underlying42 rfl) ?_ | refine Pb (y_len_slc Tryz.underlying42 rfl fd_) ?_
  refine Pb (y_lss rfl rfl) ?_
  refine Pa (y_pick_t rfl rfl) ?_
  refine rj_nil (hK5 _ _ _ ?_)
  refine cj_cond rfl (fun hc15 => ?_) (fun hc15 => ?_)
  try simp only [dT, dF, nT, nF, tF, fT] at hc15
  refine cj_skip (hK4 _ _ _ (cj_seq fun K7 hK7 => cj_block (cj_seq fun K8 hK8 => ?_)))
  have hi1 : i < a.length ∧ i < b.length := by (try simp at hg10 hc15); omega
  obtain ⟨x, hx⟩ : ∃ x, a[i]? = some x := ⟨_, List.getElem?_eq_getElem hi1.1⟩
  obtain ⟨y, hy⟩ : ∃ x, b[i]? = some x := ⟨_, List.getElem?_eq_getElem hi1.2⟩
  have hna : nth (bsV a) ((i : Int).toNat * 1 + 0) = some (.string (str x)) := by rw [Int.toNat_natCast, nth_eq]; simp [bsV, hx]
  have hnb : nth (bsV b) ((i : Int).toNat * 1 + 0) = some (.string (str y)) := by rw [Int.toNat_natCast, nth_eq]; simp [bsV, hy]
  refine cj_draw (by kernel_rfl) (by kernel_rfl) ?_
  refine Qa (y_move rfl) ?_
  refine Qa (y_move rfl) ?_
  refine Qa ((y_index_slc (sz := 1) (n := a.length) Tryz.underlying42 Tryz.sizeOf9 rfl rfl fd_ (by omega))) ?_
  refine Qa ((y_load_slc o9 rfl fd_ hna)) ?_
  refine Qa (y_move rfl) ?_
  refine Qa (y_move rfl) ?_
  refine Qa ((y_index_slc (sz := 1) (n := b.length) Tryz.underlying42 Tryz.sizeOf9 rfl rfl fd_ (by omega))) ?_
  refine Qa ((y_load_slc o9 rfl fd_ hnb)) ?_
  refine Qa (y_sneq rfl rfl) ?_
  refine qj_nil ?_
  refine hK8 _ _ _ ?_
  refine cj_env (eL 0 rfl (eL 1 rfl (eL 5 rfl (eL 26 rfl eN)))) ?_
  refine cj_cond rfl (fun hc26 => ?_) (fun hc26 => ?_)
  try simp only [dT, dF, nT, nF, tF, fT] at hc26
  refine cj_seq fun K10 hK10 => cj_region ?_
  refine Ps ?_
  refine rj_nil (hK10 _ _ _ (cj_ret (hret _ _ _ ?_)))
  refine Ea Tryz.results27 (.cons (rv_tmp rfl) .nil) [lsS (.slice qa a.length ca) a, lsS (.slice qb b.length cb) b] le_ ?_
  rw [begins_no hx hy (by simpa using hc26)]; exact ⟨rfl, rfl, rfl⟩
  try simp only [dT, dF, nT, nF, tF, fT] at hc26
  refine cj_skip (hK7 _ _ _ (cj_region ?_))
  refine Pm ?_
  first | refine Pa (y_add64 rfl rfl om_) ?_ | refine Pa (y_add rfl rfl) ?_
  refine Ps ?_
  refine rj_nil ?_
  refine ej_on (q' := roundK _ _ _ _ _ _ _) rfl ?_
  refine ej_round (i + 1) (⟨by omega, takes_succ2 hx hy he (by simpa using hc26)⟩) (by omega) (eC rfl (eC rfl (eC rfl eN))) rfl sb_
  try simp only [dT, dF, nT, nF, tF, fT] at hc15
  refine cj_exit (hK2 _ _ _ ?_)
  refine cj_env eN ?_
  refine cj_seq fun K11 hK11 => cj_region ?_
  refine Ps ?_
  refine rj_nil (hK11 _ _ _ (cj_ret (hret _ _ _ ?_)))
  refine Ea Tryz.results27 (.cons (rv_tmp rfl) .nil) [lsS (.slice qa a.length ca) a, lsS (.slice qb b.length cb) b] le_ ?_
  rw [begins_yes he (by (try simp at hg10); omega)]; exact ⟨rfl, rfl, rfl⟩
  try simp only [dT, dF, nT, nF, tF, fT] at hg10
  refine Pk ?_
  refine Pk ?_
  refine Pk ?_
  refine Pk ?_
  refine Pa (y_pick_f rfl rfl) ?_
  refine rj_nil (hK5 _ _ _ (cj_cond_f rfl (cj_exit (hK2 _ _ _ ?_))))
  refine cj_env eN ?_
  refine cj_seq fun K12 hK12 => cj_region ?_
  refine Ps ?_
  refine rj_nil (hK12 _ _ _ (cj_ret (hret _ _ _ ?_)))
  refine Ea Tryz.results27 (.cons (rv_tmp rfl) .nil) [lsS (.slice qa a.length ca) a, lsS (.slice qb b.length cb) b] le_ ?_
  rw [begins_yes he (by (try simp at hg10 hc15); omega)]; exact ⟨rfl, rfl, rfl⟩
theorem gBegins_q {R : Hp} {w : GV} {G : GS} {i : Nat} {c : MV} {m : MS} (hc : w.cs[i]? = some c) (hm : G.ms[i]? = some m) (vb : Value) (b : List Bs) : QTri Tryz.prog 27 [c.vl, vb] R [grA w G, lsS vb b] (.bool (beginsB m.l b)) :=
  QTri.big (mems_at hc hm) ((begins_q c.vl vb m.l b).split (L := memL c m ++ [lsS vb b]) sp_)
theorem feedAll_out {x : ND} (h : x.out = []) : x.feedAll.out = (x.others.map x.feedMsg).map x.stamp := by rw [feedAll_eq]; unfold ND.sends; simp [h]
theorem askAll_out {x : ND} (h : x.out = []) : x.askAll.out = (x.others.map x.askMsg).map x.stamp := by unfold ND.askAll; rw [asks_eq]; unfold ND.sends; simp [h]
theorem send_out {y : ND} (h : y.out = []) (m : Msg) : (y.send m).out = [y.stamp m] := by unfold ND.send; rw [h]; rfl
structure LB (T I : Int) (g : LG) : Prop where
  term : 0 ≤ g.term ∧ g.term ≤ T
  vote : -1 ≤ g.vote ∧ g.vote < 9
  base : 0 ≤ g.base
  baseT : 0 ≤ g.baseT ∧ g.baseT ≤ T
  last : g.last ≤ I
  all : ∀ e ∈ g.all, (0 ≤ e.1 ∧ e.1 ≤ T) ∧ e.2.length ≤ 100
  st : ((unS g.state).length : Int) ≤ g.base ∧ ∀ s ∈ unS g.state, s.length ≤ 100
  stl : g.state.length ≤ 1000000
theorem LB.mono {T T' I I' : Int} {g : LG} (h : LB T I g) (hT : T ≤ T') (hI : I ≤ I') : LB T' I' g :=
  ⟨⟨h.term.1, Int.le_trans h.term.2 hT⟩, h.vote, h.base, ⟨h.baseT.1, Int.le_trans h.baseT.2 hT⟩, Int.le_trans h.last hI, fun e he => ⟨⟨(h.all e he).1.1, Int.le_trans (h.all e he).1.2 hT⟩, (h.all e he).2⟩, h.st, h.stl⟩
theorem LB.set {T I : Int} {g : LG} (h : LB T I g) {t v : Int} (ht : 0 ≤ t ∧ t ≤ T) (hv : -1 ≤ v ∧ v < 9) : LB T I { g with term := t, vote := v } :=
  ⟨ht, hv, h.base, h.baseT, h.last, h.all, h.st, h.stl⟩
structure MB (T I : Int) (m : Msg) : Prop where
  term : 0 ≤ m.term ∧ m.term ≤ T
  index : 0 ≤ m.index ∧ m.index + m.es.length ≤ I
  logTerm : 0 ≤ m.logTerm ∧ m.logTerm ≤ T
  commit : 0 ≤ m.commit ∧ m.commit ≤ I
  es : m.es.length ≤ 8 ∧ ∀ e ∈ m.es, (0 ≤ e.1 ∧ e.1 ≤ T) ∧ e.2.length ≤ 100
  st : ((unS m.state).length : Int) ≤ m.index ∧ ∀ s ∈ unS m.state, s.length ≤ 100
  stl : m.state.length ≤ 1000000
theorem MB.mono {T T' I I' : Int} {m : Msg} (h : MB T I m) (hT : T ≤ T') (hI : I ≤ I') : MB T' I' m :=
  ⟨⟨h.term.1, Int.le_trans h.term.2 hT⟩, ⟨h.index.1, Int.le_trans h.index.2 hI⟩, ⟨h.logTerm.1, Int.le_trans h.logTerm.2 hT⟩, ⟨h.commit.1, Int.le_trans h.commit.2 hI⟩, ⟨h.es.1, fun e he => ⟨⟨(h.es.2 e he).1.1, Int.le_trans (h.es.2 e he).1.2 hT⟩, (h.es.2 e he).2⟩⟩, h.st, h.stl⟩
theorem MB.ln {T I : Int} {m : Msg} (h : MB T I m) : MLn T I m :=
  ⟨h.term, ⟨h.index.1, by have := h.index.2; omega⟩, h.logTerm, h.commit.1, ⟨by have := h.es.1; omega, h.es.2⟩, h.stl⟩
theorem MB.im {T I : Int} {m : Msg} (h : MB T I m) (hT : T ≤ 2305843009213693952) (hI : I ≤ 100000000000000) : MIm 0 m ∧ smallM m :=
  ⟨h.ln.im hT hI (by have := h.commit.2; omega), by unfold smallM; have := h.es.1; omega⟩
theorem unS_nil : unS [] = [] := by decide
theorem MB.plain {T I : Int} {m : Msg} (ht : 0 ≤ m.term ∧ m.term ≤ T) (hi : 0 ≤ m.index ∧ m.index ≤ I) (hl : 0 ≤ m.logTerm ∧ m.logTerm ≤ T) (hc : m.commit = 0) (he : m.es = []) (hs : m.state = []) (hI : 0 ≤ I) : MB T I m :=
  ⟨ht, by rw [he]; simpa using hi, hl, by rw [hc]; omega, by rw [he]; simp, by rw [hs, unS_nil]; simpa using hi.1, by rw [hs]; simp⟩
structure UB (T I : Int) (x : ND) : Prop where
  inn : LIn T I I.toNat x
  lb : LB T I x.g
theorem LB.of {T J I : Int} {A : Nat} {y : ND} (h : LIn T J A y) (hl : y.g.last ≤ I) (hs : ((unS y.g.state).length : Int) ≤ y.g.base ∧ ∀ s ∈ unS y.g.state, s.length ≤ 100) : LB T I y.g :=
  ⟨h.term, h.vote, h.base, h.baseT, hl, h.all, hs, h.state⟩
theorem UB.mk0 {T J I : Int} {A : Nat} {y : ND} (h : LIn T J A y) (hl : y.g.last ≤ I) (hp : ∀ p ∈ y.peers, p.1 ≤ I + 1 ∧ p.2 ≤ I) (hs : ((unS y.g.state).length : Int) ≤ y.g.base ∧ ∀ s ∈ unS y.g.state, s.length ≤ 100) : UB T I y :=
  ⟨⟨h.idn, h.down, h.term, h.vote, h.base, h.baseT, hl, h.state, by have := h.base; unfold LG.last at hl; omega, h.all, h.commit, h.patience, h.peers, fun p hq => by have h1 := h.peer p hq; have h2 := hp p hq; omega, h.pl, h.votes⟩, LB.of h hl hs⟩
theorem UB.mono {T T' I I' : Int} {x : ND} (h : UB T I x) (hT : T ≤ T') (hI : I ≤ I') : UB T' I' x := ⟨h.inn.mono hT hI (by omega), h.lb.mono hT hI⟩
theorem UB.pp {T I : Int} {x : ND} (h : UB T I x) : ∀ p ∈ x.peers, p.1 ≤ I + 1 ∧ p.2 ≤ I := fun p hp => by have := h.inn.peer p hp; omega
theorem UB.i0 {T I : Int} {x : ND} (h : UB T I x) : 0 ≤ I := by
  have h1 := h.lb.base
  have h2 := h.lb.last
  unfold LG.last at h2; omega
theorem UB.t0 {T I : Int} {x : ND} (h : UB T I x) : 0 ≤ T := by have h1 := h.lb.term; omega
theorem tAt_b {T I : Int} {x : ND} (h : UB T I x) (i : Int) : 0 ≤ x.tAt i ∧ x.tAt i ≤ T := by
  have ht := h.t0
  have hb := h.lb.baseT
  unfold ND.tAt LG.termAt
  split
  · exact hb
  · cases h1 : x.g.at i with
    | none => simp; omega
    | some e => exact (h.lb.all e (LG.at_mem h1)).1
theorem nxt_b {T I : Int} {x : ND} (h : UB T I x) (to : Nat) : 0 ≤ x.nxt to ∧ x.nxt to ≤ I + 1 := by
  have h0 := h.i0
  unfold ND.nxt
  by_cases h1 : to < x.peers.length
  · have hm : x.peers.getD to (0, 0) ∈ x.peers := by rw [List.getD_eq_getElem?_getD, List.getElem?_eq_getElem h1]; simp
    have := h.inn.peer _ hm; omega
  · rw [List.getD_eq_getElem?_getD, List.getElem?_eq_none (by omega)]; simp; omega
theorem UB.feedM {T I : Int} {x : ND} (h : UB T I x) (to : Nat) : MB T I (x.stamp (x.feedMsg to)) := by
  have hn := nxt_b h to
  have hb := h.lb.base
  have hl := h.lb.last
  have hl2 : x.g.last = x.g.base + x.g.all.length := rfl
  have hc := h.inn.commit
  by_cases h1 : x.nxt to ≤ x.g.base
  · rw [feedMsg_snap h1]
    exact ⟨h.lb.term, ⟨hb, by show x.g.base + (([] : List Ent).length : Int) ≤ I; simp; omega⟩, h.lb.baseT, ⟨by show (0 : Int) ≤ 0; omega, by show (0 : Int) ≤ I; omega⟩, ⟨by show ([] : List Ent).length ≤ 8; simp, fun e he => by cases he⟩, h.lb.st, h.lb.stl⟩
  · rw [feedMsg_app h1]
    refine ⟨h.lb.term, ⟨by show 0 ≤ x.nxt to - 1; omega, ?_⟩, tAt_b h _, ⟨by show 0 ≤ x.commit; omega, by show x.commit ≤ I; omega⟩, ⟨?_, fun e he => h.lb.all e (List.mem_of_mem_drop (List.mem_of_mem_take he))⟩, ?_, by show ([] : Bs).length ≤ 1000000; simp⟩
    · show x.nxt to - 1 + (((x.g.all.drop (x.nxt to - x.g.base - 1).toNat).take 8).length : Int) ≤ I
      have : ((x.g.all.drop (x.nxt to - x.g.base - 1).toNat).take 8).length ≤ x.g.all.length - (x.nxt to - x.g.base - 1).toNat := by simp; omega
      omega
    · show ((x.g.all.drop (x.nxt to - x.g.base - 1).toNat).take 8).length ≤ 8
      simp; omega
    · show ((unS []).length : Int) ≤ x.nxt to - 1 ∧ ∀ s ∈ unS [], s.length ≤ 100
      rw [unS_nil]; simp; omega
def cr (x : ND) : Int := if x.role = 1 then 1 else 0
theorem cr_b (x : ND) : 0 ≤ cr x ∧ cr x ≤ 1 := by unfold cr; split <;> omega
def RB (T I c : Int) (y : ND) : Prop := ∃ I', I ≤ I' ∧ I' + cr y ≤ I + c ∧ UB T I' y ∧ ∀ m ∈ y.out, MB T I' m
theorem RB.same {T I c : Int} {y : ND} (h : UB T I y) (hc : cr y ≤ c) (ho : ∀ m ∈ y.out, MB T I m) : RB T I c y := ⟨I, Int.le_refl _, by omega, h, ho⟩
theorem UB.sends {T I : Int} {x : ND} (h : UB T I x) (l : List Msg) : UB T I { x with out := l } := ⟨h.inn.sends l, h.lb⟩
theorem others_len (x : ND) : x.others.length ≤ x.n := by unfold ND.others; have := List.length_filter_le (fun i => i != x.id) (List.range x.n); simpa using this
theorem UB.feedAll {T I : Int} {x : ND} (h : UB T I x) (ho : x.out = []) : UB T I x.feedAll ∧ ∀ m ∈ x.feedAll.out, MB T I m := by
  refine ⟨by rw [feedAll_eq]; exact h.sends _, fun m hm => ?_⟩
  rw [feedAll_out ho] at hm
  obtain ⟨m1, hm1, rfl⟩ := List.mem_map.1 hm
  obtain ⟨to, _, rfl⟩ := List.mem_map.1 hm1
  exact h.feedM to
theorem UB.count {T I : Int} {x : ND} (h : UB T I x) (hr : x.role = 2) : UB T I x.count := ⟨(h.inn.count hr).inn, by rw [count_g]; exact h.lb⟩
theorem UB.entryP {T I : Int} {x : ND} {cmd : Bs} (h : UB T I x) (ho : x.out = []) (hr : x.role = 2) (hc : cmd.length ≤ 100) : UB T (I + 1) (x.entryP cmd) ∧ ∀ m ∈ (x.entryP cmd).out, MB T (I + 1) m := by
  have hi := h.i0
  have hb := h.inn.commit
  have hl := h.lb.last
  have h1 := (h.inn.add (i := x.g.last) (m := [(x.g.term, cmd)]) ⟨h.inn.commit.2, Int.le_refl _⟩ (fun _ => Eq.refl _) (fun e he => by simp at he; subst he; exact ⟨h.inn.term, hc⟩)).inn
  have hla := play_last (g := x.g) (i := x.g.last) (m := [(x.g.term, cmd)]) (by omega)
  have h2 : UB T (I + 1) { x with g := x.g.play (.add x.g.last [(x.g.term, cmd)]) } := UB.mk0 h1 (by show (x.g.play _).last ≤ _; rw [hla]; simp; omega) (fun p hp => by have := h.pp p hp; omega) h.lb.st
  unfold ND.entryP
  exact (h2.count hr).feedAll (by rw [(count_out _).1]; exact ho)
theorem UB.wins {T I : Int} {x : ND} (h : UB T I x) : UB T I x.wins := ⟨h.inn.wins, h.lb⟩
theorem entry_role (x : ND) (cmd : Bs) : (x.entryP cmd).role = x.role := by
  unfold ND.entryP; rw [feedAll_eq]
  exact (count_out _).2.2.1
theorem UB.winP {T I : Int} {x : ND} (h : UB T I x) (ho : x.out = []) : UB T (I + 1) x.winP ∧ (∀ m ∈ x.winP.out, MB T (I + 1) m) ∧ cr x.winP = 0 := by
  have h1 := UB.entryP (x := x.wins) (cmd := []) h.wins ho rfl (by simp)
  exact ⟨h1.1, h1.2, by unfold cr ND.winP; rw [entry_role]; rfl⟩
theorem UB.askM {T I : Int} {x : ND} (h : UB T I x) (to : Nat) : MB T I (x.stamp (x.askMsg to)) :=
  MB.plain h.lb.term ⟨by have := h.lb.base; show 0 ≤ x.g.last; unfold LG.last; omega, h.lb.last⟩ (tAt_b h _) rfl rfl rfl h.i0
theorem UB.standP {T I : Int} {x : ND} (h : UB T I x) (ho : x.out = []) (hv : (x.id : Int) < 9) : RB (T + 1) I (cr x + 1) x.standP := by
  have hc := cr_b x
  have ht := h.lb.term
  have hid := h.inn.idn
  have h1 := ((h.inn.mono (show T ≤ T + 1 by omega) (Int.le_refl _) (Nat.le_refl _)).set (t := x.g.term + 1) (v := x.id) (by omega) (by omega) (.inl (by omega))).inn.stands
  have h2 : UB (T + 1) I (ND.stands { x with g := { x.g with term := x.g.term + 1, vote := x.id } }) := ⟨h1, (h.lb.mono (by omega) (Int.le_refl _)).set (by omega) (by omega)⟩
  unfold ND.standP
  by_cases hn : x.n = 1
  · rw [if_pos hn]
    obtain ⟨a, b, c⟩ := h2.winP ho
    exact ⟨I + 1, by omega, by rw [c]; omega, a, b⟩
  · rw [if_neg hn]
    have e : cr (ND.askAll (ND.stands { x with g := { x.g with term := x.g.term + 1, vote := x.id } })) = 1 := by unfold ND.askAll; rw [asks_eq]; rfl
    refine RB.same ?_ (by rw [e]; omega) (fun m hm => ?_)
    · unfold ND.askAll; rw [asks_eq]; exact h2.sends _
    · rw [askAll_out (x := ND.stands { x with g := { x.g with term := x.g.term + 1, vote := x.id } }) ho] at hm
      obtain ⟨m1, hm1, rfl⟩ := List.mem_map.1 hm
      obtain ⟨to, _, rfl⟩ := List.mem_map.1 hm1
      exact h2.askM to
theorem UB.pat {T I : Int} {x : ND} (h : UB T I x) {p : Int} (hp : 0 ≤ p ∧ p ≤ 30) : UB T I { x with patience := p } := ⟨(h.inn.pat hp).inn, h.lb⟩
theorem UB.tickP {T I : Int} {x : ND} (h : UB T I x) (ho : x.out = []) : RB (T + 1) I (cr x + 1) x.tickP := by
  have hc := cr_b x
  have hp := h.inn.patience
  have hid := h.inn.idn
  have hlm := limit_b x.id x.g.term
  have hm := h.mono (show T ≤ T + 1 by omega) (Int.le_refl I)
  unfold ND.tickP
  by_cases h1 : x.role = 2
  · rw [if_pos h1]
    by_cases h2 : x.patience + 1 ≥ 3
    · rw [if_pos h2]
      obtain ⟨a, b⟩ := (hm.pat (p := 0) (by omega)).feedAll ho
      exact RB.same a (by rw [feedAll_eq]; show cr x ≤ _; omega) b
    · rw [if_neg h2]
      exact RB.same (hm.pat (by omega)) (by show cr x ≤ _; omega) (fun m hm => by rw [show ({ x with patience := x.patience + 1 } : ND).out = x.out from rfl, ho] at hm; cases hm)
  · rw [if_neg h1]
    by_cases h2 : x.patience + 1 ≥ limitI x.id x.g.term
    · rw [if_pos h2]
      have e : ND.standP { x with patience := x.patience + 1 } = ND.standP { x with patience := 0 } := Eq.refl _
      rw [e]
      exact UB.standP (x := { x with patience := 0 }) (h.pat (by omega)) ho (by show (x.id : Int) < 9; omega)
    · rw [if_neg h2]
      exact RB.same (hm.pat (by omega)) (by show cr x ≤ _; omega) (fun m hm => by rw [show ({ x with patience := x.patience + 1 } : ND).out = x.out from rfl, ho] at hm; cases hm)
theorem UB.send1 {T I c : Int} {x : ND} (h : UB T I x) (ho : x.out = []) (m : Msg) (hm : MB T I (x.stamp m)) (hc : cr x ≤ c) : RB T I c (x.send m) :=
  RB.same (h.sends _) hc (fun m1 hm1 => by rw [send_out ho] at hm1; simp at hm1; subst hm1; exact hm)
theorem UB.quiet {T I c : Int} {x : ND} (h : UB T I x) (ho : x.out = []) (hc : cr x ≤ c) : RB T I c x := RB.same h hc (fun m hm => by rw [ho] at hm; cases hm)
theorem UB.answer1 {T I c : Int} {x : ND} (h : UB T I x) (ho : x.out = []) (m : Msg) (ok : Bool) {i : Int} (hi : 0 ≤ i ∧ i ≤ I) (hc : cr x ≤ c) : RB T I c (x.answer m ok i) :=
  h.send1 ho _ (MB.plain h.lb.term hi ⟨by show (0 : Int) ≤ 0; omega, by have := h.t0; exact this⟩ rfl rfl rfl h.i0) hc
theorem UB.askedP {T I : Int} {x : ND} {m : Msg} (h : UB T I x) (ho : x.out = []) (hm : 0 ≤ m.frm ∧ m.frm < x.n) : RB T I (cr x) (x.askedP m) := by
  have hid := h.inn.idn
  have ht := h.t0
  have hi := h.inn.askedP hm
  have hv : ∀ (y : ND), y.g.term = x.g.term → ∀ ok, MB T I (y.stamp (ND.voteMsg m ok)) := fun y hy ok => MB.plain (by show 0 ≤ y.g.term ∧ y.g.term ≤ T; rw [hy]; exact h.lb.term) ⟨by show (0 : Int) ≤ 0; omega, h.i0⟩ ⟨by show (0 : Int) ≤ 0; omega, ht⟩ rfl rfl rfl h.i0
  unfold ND.askedP at hi ⊢
  by_cases h1 : x.grants m = true
  · rw [if_pos h1] at hi ⊢
    refine RB.same ⟨hi.inn, h.lb.set h.lb.term (by omega)⟩ (by show cr x ≤ _; omega) (fun m1 hm1 => ?_)
    rw [send_out (y := { x with g := { x.g with term := x.g.term, vote := m.frm }, patience := 0 }) ho] at hm1
    simp at hm1; subst hm1; exact hv _ rfl _
  · rw [if_neg h1]
    exact h.send1 ho _ (hv x rfl false) (Int.le_refl _)
theorem UB.votedP {T I : Int} {x : ND} {m : Msg} (h : UB T I x) (ho : x.out = []) (hm : 0 ≤ m.frm ∧ m.frm < x.n) : RB T I (cr x) (x.votedP m) := by
  unfold ND.votedP
  by_cases h1 : ¬ x.role = 1 ∨ ¬ m.term = x.g.term ∨ m.ok = false
  · rw [if_pos h1]; exact h.quiet ho (Int.le_refl _)
  · rw [if_neg h1]
    have h2 : UB T I { x with votes := setAdd x.votes m.frm } := ⟨h.inn.vote1 hm, h.lb⟩
    split
    · obtain ⟨a, b, c⟩ := UB.winP (x := { x with votes := setAdd x.votes m.frm }) h2 ho
      have hr : x.role = 1 := by
        by_cases hr : x.role = 1
        · exact hr
        · exact absurd (.inl hr) h1
      exact ⟨I + 1, by omega, by rw [c]; unfold cr; rw [if_pos hr]; omega, a, b⟩
    · exact h2.quiet ho (Int.le_refl _)
theorem cut_end {x : ND} {m : Msg} (h : ¬ (m.index < x.g.base ∧ (m.es.length : Int) < x.g.base - m.index)) : (x.cutM m).1 + (x.cutM m).2.length = m.index + m.es.length := by
  unfold ND.cutM
  split
  · dsimp only; simp; omega
  · rfl
theorem cr0 {x : ND} (h : x.role = 0) : cr x = 0 := by unfold cr; rw [if_neg (by omega)]
theorem UB.commits {T I : Int} {x : ND} (h : UB T I x) (m : Msg) {last : Int} (hl : last ≤ x.g.last) : UB T I (x.commits m last) := ⟨(LIn.commits (LT.rfl h.inn) m hl).inn, h.lb⟩
theorem UB.restP {T I : Int} {x : ND} {m : Msg} (h : UB T I x) (ho : x.out = []) (hr : x.role = 0) (hm : MB T I m) (hc : x.g.base ≤ (x.cutM m).1 ∧ (x.cutM m).1 ≤ x.g.last) (hn : ¬ (m.index < x.g.base ∧ (m.es.length : Int) < x.g.base - m.index)) : RB T I 0 (x.restP m (x.cutM m)) := by
  have he := cut_end hn
  have hmi := hm.index
  have h0 : cr x ≤ 0 := by rw [cr0 hr]; omega
  have hb := h.lb.base
  have hcm := h.inn.commit
  have hb3 : (x.cutM m).2.length ≤ 20 ∧ ∀ e ∈ (x.cutM m).2, (0 ≤ e.1 ∧ e.1 ≤ T) ∧ e.2.length ≤ 100 := by
    have := hm.ln.es
    unfold ND.cutM
    split
    · exact ⟨by simp; omega, fun e he => this.2 e (List.mem_of_mem_drop he)⟩
    · exact this
  unfold ND.restP
  cases hfi : ND.fits x.g (x.cutM m).2 ((x.cutM m).1 + 1) with
  | none =>
    have hl : (x.cutM m).1 + (x.cutM m).2.length ≤ x.g.last := by
      rcases fits_none hfi with h1 | h1
      · rw [h1]; simp; omega
      · omega
    exact (h.commits m hl).answer1 ho m true (by omega) h0
  | some p =>
    obtain ⟨i, l⟩ := p
    obtain ⟨a1, ⟨c, hc1, hc2⟩, a3⟩ := fits_at hfi
    dsimp only
    by_cases h1 : i ≤ x.commit
    · rw [if_pos h1]; exact h.quiet ho h0
    · rw [if_neg h1]
      have hi : x.commit ≤ i - 1 ∧ i - 1 ≤ x.g.last := by
        rcases a3 with a3 | ⟨e, a3⟩
        · omega
        · have := at_last a3; omega
      have hll : l.length ≤ (x.cutM m).2.length := by rw [hc1]; simp
      have h2 := (h.inn.add (i := i - 1) (m := l) hi (fun hr2 => absurd (hr.symm.trans hr2) (by decide)) (fun e he => hb3.2 e (by rw [hc1] at he; exact List.mem_of_mem_drop he))).inn
      have hpl := play_last (g := x.g) (i := i - 1) (m := l) (by omega)
      have hcl : c < (x.cutM m).2.length := by
        by_cases hcl : c < (x.cutM m).2.length
        · exact hcl
        · have : l = [] := by rw [hc1]; exact List.drop_eq_nil_of_le (by omega)
          exfalso
          have key : ∀ {l : List Ent} {i j : Int} {l2 : List Ent}, ND.fits x.g l i = some (j, l2) → l2 ≠ [] := by
            intro l
            induction l with
            | nil => intro i j l2 h; cases h
            | cons e l ih =>
              intro i j l2 h
              by_cases h1 : (x.g.at i).map (·.1) = some e.1
              · rw [fits_yes h1] at h; exact ih h
              · rw [fits_no h1] at h; cases h; simp
          exact key hfi this
      have hle : (x.g.play (.add (i - 1) l)).last = (x.cutM m).1 + (x.cutM m).2.length := by
        rw [hpl, hc1]; simp; omega
      have h3 : UB T I { x with g := x.g.play (.add (i - 1) l) } := UB.mk0 h2 (by show (x.g.play _).last ≤ I; rw [hle]; omega) h.pp h.lb.st
      exact (h3.commits m (last := (x.cutM m).1 + (x.cutM m).2.length) (by show _ ≤ (x.g.play _).last; rw [hle]; omega)).answer1 ho m true (by omega) h0
theorem UB.addP {T I : Int} {x : ND} {m : Msg} (h : UB T I x) (ho : x.out = []) (hr : x.role = 0) (hm : MB T I m) : RB T I 0 (x.addP m) := by
  have h0 : cr x ≤ 0 := by rw [cr0 hr]; omega
  have hmi := hm.index
  have hb := h.lb.base
  have hl := h.lb.last
  have hl2 : x.g.last = x.g.base + x.g.all.length := rfl
  unfold ND.addP
  by_cases h1 : m.index < x.g.base ∧ (m.es.length : Int) < x.g.base - m.index
  · rw [if_pos h1]; exact h.answer1 ho m true (by omega) h0
  · by_cases h2 : ¬ m.index < x.g.base ∧ ¬ x.g.termAt m.index = some m.logTerm
    · rw [if_neg h1, if_pos h2]; exact h.answer1 ho m false (by omega) h0
    · rw [if_neg h1, if_neg h2]
      refine h.restP ho hr hm ?_ h1
      unfold ND.cutM
      by_cases h3 : m.index < x.g.base
      · rw [if_pos h3]; dsimp only; omega
      · rw [if_neg h3]
        have h4 : x.g.termAt m.index = some m.logTerm := by
          by_cases h4 : x.g.termAt m.index = some m.logTerm
          · exact h4
          · exact absurd ⟨h3, h4⟩ h2
        exact termAt_last h4
theorem UB.snapP {T I : Int} {x : ND} {m : Msg} (h : UB T I x) (ho : x.out = []) (hr : x.role = 0) (hm : MB T I m) : RB T I 0 (x.snapP m) := by
  have h0 : cr x ≤ 0 := by rw [cr0 hr]; omega
  have hmi := hm.index
  have hcm := h.inn.commit
  have hb := h.lb.base
  have hl := h.lb.last
  have hi := (h.inn.snapP (fun hr2 => absurd (hr.symm.trans hr2) (by decide)) hm.ln).inn
  unfold ND.snapP at hi ⊢
  by_cases h1 : m.index > x.commit
  · rw [if_pos h1] at hi ⊢
    obtain ⟨e1, e2, e3, e4, e5, e6, e7, e8⟩ := inst_last (g := x.g) (i := m.index) (t := m.logTerm) (s := m.state) (by omega)
    have hi2 : LIn T I I.toNat { x with g := x.g.inst m.index m.logTerm m.state, commit := m.index } := by
      have := hi.sends x.out; exact this
    have h3 : UB T I { x with g := x.g.inst m.index m.logTerm m.state, commit := m.index } := UB.mk0 hi2 (by show (x.g.inst _ _ _).last ≤ I; omega) h.pp (by rw [show ({ x with g := x.g.inst m.index m.logTerm m.state, commit := m.index } : ND).g = x.g.inst m.index m.logTerm m.state from rfl, e8, e1]; exact hm.st)
    exact h3.answer1 ho m true (by omega) h0
  · rw [if_neg h1]
    exact h.answer1 ho m true (by omega) h0
theorem UB.follows {T I : Int} {x : ND} {m : Msg} (h : UB T I x) : UB T I (x.follows m) := ⟨(LIn.follows (m := m) h.inn).inn, h.lb⟩
theorem RB.le {T I c d : Int} {y : ND} (h : RB T I c y) (hc : c ≤ d) : RB T I d y := by
  obtain ⟨I', a, b, e, f⟩ := h
  exact ⟨I', a, by omega, e, f⟩
theorem UB.fedP {T I : Int} {x : ND} {m : Msg} (h : UB T I x) (ho : x.out = []) (hm : MB T I m) : RB T I (cr x) (x.fedP m) := by
  have hc := cr_b x
  unfold ND.fedP
  split
  · exact h.answer1 ho m false ⟨Int.le_refl _, h.i0⟩ (Int.le_refl _)
  · split
    · exact h.quiet ho (Int.le_refl _)
    · split
      · exact (UB.addP (x := x.follows m) h.follows ho rfl hm).le (by omega)
      · exact (UB.snapP (x := x.follows m) h.follows ho rfl hm).le (by omega)
theorem UB.setPeer {T I : Int} {x : ND} (h : UB T I x) (to : Nat) {p : Int × Int} (hp : (1 ≤ p.1 ∧ p.1 ≤ I + 1) ∧ (0 ≤ p.2 ∧ p.2 ≤ x.g.last)) : UB T I (x.setPeer to p) := ⟨(h.inn.setPeer to hp).inn, h.lb⟩
theorem UB.feed1 {T I c : Int} {x : ND} (h : UB T I x) (ho : x.out = []) (to : Nat) (hc : cr x ≤ c) : RB T I c (x.feed to) := h.send1 ho _ (h.feedM to) hc
theorem UB.heardP {T I : Int} {x : ND} {m : Msg} (h : UB T I x) (ho : x.out = []) (hm : MB T I m) : RB T I (cr x) (x.heardP m) := by
  have hix := hm.index
  have h0 := h.lb.base
  have hcm := h.inn.commit
  have hl := h.lb.last
  unfold ND.heardP heardN
  dsimp only
  by_cases h1 : ¬ x.role = 2 ∨ ¬ m.term = x.g.term
  · rw [if_pos h1]; exact h.quiet ho (Int.le_refl _)
  · have hr : x.role = 2 := by
      by_cases hr : x.role = 2
      · exact hr
      · exact absurd (.inl hr) h1
    have hp := h.inn.peerb hr m.frm.toNat
    rw [if_neg h1]
    by_cases h2 : m.ok = false
    · rw [if_pos h2]
      exact (h.setPeer m.frm.toNat (p := (max (min (x.nxt m.frm.toNat - 1) (m.index + 1)) (x.mat m.frm.toNat + 1), x.mat m.frm.toNat)) (by dsimp only; omega)).feed1 ho _ (Int.le_refl _)
    · rw [if_neg h2]
      have h3 := h.setPeer m.frm.toNat (p := (max (x.mat m.frm.toNat) (min m.index x.g.last) + 1, max (x.mat m.frm.toNat) (min m.index x.g.last))) (by dsimp only; omega)
      have h4 := h3.count hr
      have hcr : cr (ND.count (x.setPeer m.frm.toNat (max (x.mat m.frm.toNat) (min m.index x.g.last) + 1, max (x.mat m.frm.toNat) (min m.index x.g.last)))) = cr x := by unfold cr; rw [(count_out _).2.2.1]; rfl
      split
      · exact h4.feed1 (by rw [(count_out _).1]; exact ho) _ (Int.le_of_eq hcr)
      · exact h4.quiet (by rw [(count_out _).1]; exact ho) (Int.le_of_eq hcr)
theorem UB.kindP {T I : Int} {x : ND} {m : Msg} (h : UB T I x) (ho : x.out = []) (hm : MB T I m) (hf : 0 ≤ m.frm ∧ m.frm < x.n) : RB T I (cr x) (x.kindP m) := by
  unfold ND.kindP
  split
  · exact h.askedP ho hf
  · split
    · exact h.votedP ho hf
    · split
      · exact h.fedP ho hm
      · split
        · exact h.heardP ho hm
        · exact h.quiet ho (Int.le_refl _)
theorem UB.receiveP {T I : Int} {x : ND} {m : Msg} (h : UB T I x) (ho : x.out = []) (hm : MB T I m) : RB T I (cr x) (x.receiveP m) := by
  have hc := cr_b x
  have ht := h.inn.term
  unfold ND.receiveP
  by_cases h1 : ¬ m.to = x.id ∨ m.frm = x.id ∨ m.frm < 0 ∨ m.frm ≥ x.n
  · rw [if_pos h1]; exact h.quiet ho (Int.le_refl _)
  · rw [if_neg h1]
    have hf : 0 ≤ m.frm ∧ m.frm < x.n := by omega
    by_cases h2 : m.term > x.g.term
    · rw [if_pos h2]
      have h3 := h.inn.set (t := m.term) (v := -1) hm.term (by omega) (.inl (by omega))
      have h4 : UB T I (ND.newTerm { x with g := { x.g with term := m.term, vote := -1 } }) := ⟨h3.inn.newTerm, h.lb.set hm.term (by omega)⟩
      exact (h4.kindP ho hm hf).le (by rw [cr0 rfl]; omega)
    · rw [if_neg h2]; exact h.kindP ho hm hf
theorem feedAll_len {x : ND} (h : x.out = []) : x.feedAll.out.length ≤ x.n := by
  rw [feedAll_out h]; simp; exact others_len x
theorem entry_len {x : ND} (h : x.out = []) (cmd : Bs) : (x.entryP cmd).out.length ≤ x.n := by
  have h1 : ∀ z : ND, z.out = [] → z.n = x.n → z.feedAll.out.length ≤ x.n := fun z hz hn => by have := feedAll_len hz; omega
  unfold ND.entryP
  exact h1 _ (by rw [(count_out _).1]; exact h) (by rw [(count_out _).2.2.2.2.1])
theorem tick_len {x : ND} (h : x.out = []) : x.tickP.out.length ≤ x.n := by
  unfold ND.tickP
  split
  · split
    · exact feedAll_len (x := { x with patience := 0 }) h
    · show x.out.length ≤ _; rw [h]; simp
  · split
    · unfold ND.standP
      split
      · exact entry_len (x := ND.wins (ND.stands { x with patience := x.patience + 1, g := { x.g with term := x.g.term + 1, vote := x.id } })) h []
      · rw [askAll_out (x := ND.stands { x with patience := x.patience + 1, g := { x.g with term := x.g.term + 1, vote := x.id } }) h]
        simp; exact others_len x
    · show x.out.length ≤ _; rw [h]; simp
theorem recv_len {x : ND} (h : x.out = []) (hn : 1 ≤ x.n) (m : Msg) : (x.receiveP m).out.length ≤ x.n := by
  have h1 : ∀ z : ND, z.out = [] → z.n = x.n → (z.kindP m).out.length ≤ x.n := fun z hz hzn => by
    have hs : ∀ (y : ND), y.out = [] → ∀ m, (y.send m).out.length ≤ x.n := fun y hy m => by rw [send_out hy]; simpa using hn
    have ha : ∀ (y : ND), y.out = [] → ∀ (ok : Bool) (i : Int), (y.answer m ok i).out.length ≤ x.n := fun y hy ok i => hs y hy _
    have hf : ∀ (y : ND), y.out = [] → ∀ (to : Nat), (y.feed to).out.length ≤ x.n := fun y hy to => hs y hy _
    have h0 : ∀ (y : ND), y.out = [] → y.out.length ≤ x.n := fun y hy => by rw [hy]; simp
    unfold ND.kindP
    split
    · unfold ND.askedP
      split
      · exact hs { z with g := { z.g with term := z.g.term, vote := m.frm }, patience := 0 } hz _
      · exact hs z hz _
    · split
      · unfold ND.votedP
        split
        · exact h0 z hz
        · split
          · exact hzn ▸ entry_len (x := ND.wins { z with votes := setAdd z.votes m.frm }) hz []
          · exact h0 { z with votes := setAdd z.votes m.frm } hz
      · split
        · unfold ND.fedP
          split
          · exact ha z hz _ _
          · split
            · exact h0 z hz
            · split
              · unfold ND.addP
                split
                · exact ha (z.follows m) hz _ _
                · split
                  · exact ha (z.follows m) hz _ _
                  · unfold ND.restP
                    split
                    · exact ha ((z.follows m).commits m _) hz _ _
                    · split
                      · exact h0 (z.follows m) hz
                      · exact ha (ND.commits { (z.follows m) with g := _ } m _) hz _ _
              · unfold ND.snapP
                split
                · exact ha { (z.follows m) with g := _, commit := m.index } hz _ _
                · exact ha (z.follows m) hz _ _
        · split
          · unfold ND.heardP heardN
            dsimp only
            split
            · exact h0 z hz
            · split
              · exact hf (z.setPeer m.frm.toNat _) hz _
              · split
                · exact hf (ND.count (z.setPeer m.frm.toNat _)) (by rw [(count_out _).1]; exact hz) _
                · exact h0 (ND.count (z.setPeer m.frm.toNat _)) (by rw [(count_out _).1]; exact hz)
          · exact h0 z hz
  unfold ND.receiveP
  split
  · rw [h]; simp
  · split
    · exact h1 (ND.newTerm { x with g := { x.g with term := m.term, vote := -1 } }) h rfl
    · exact h1 x h rfl
theorem run_x {n m : Nat} {P : LG → Prop} {x y : ND} {D : DK} {f : NS → Bool × NS} (hd : x.down = false) (hl : SD m x.g D) (ho : x.out = []) (h : Fx n P (f (x, D)) y) :
    ((runN (x, D) f).1 = y.out ∧ (runN (x, D) f).2.1 = y ∧ SD n y.g (runN (x, D) f).2.2) ∨ ((runN (x, D) f).1 = [] ∧ downS (runN (x, D) f).2 = true ∧ FD n P (runN (x, D) f).2.2) := by
  have hu : ¬ downS (x, D) = true := by unfold downS; simp [hd, hl.1, hl.2.2.2.1]
  rw [runN_eq]
  unfold runR
  rw [if_neg hu, show ({ x with out := [] } : ND) = x from q_eq ho]
  rcases h with ⟨h1, h2, h3⟩ | ⟨h1, h2, h3⟩
  · rw [if_pos h1]
    exact .inl ⟨by rw [h2], h2, h3⟩
  · rw [if_neg (by simp [h1])]
    exact .inr ⟨rfl, by unfold downS; rw [h2]; rfl, h3⟩
theorem up_not {n : Nat} {x : ND} {D : DK} (hd : x.down = false) (hl : SD n x.g D) : ¬ downS (x, D) = true := by unfold downS; simp [hd, hl.1, hl.2.2.2.1]
structure MU (T I : Int) (N i n : Nat) (m : MS) : Prop where
  ub : UB T I m.x
  id : m.x.id = i
  n : m.x.n = n
  sd : SD N m.x.g m.D
  ap : m.ap ≤ m.x.commit
structure MI (T I : Int) (N i n : Nat) (m : MS) : Prop where
  out : m.x.out = []
  l : (m.l.length : Int) ≤ m.ap ∧ ∀ s ∈ m.l, s.length ≤ 100
  ap : m.ap ≤ I
  st : MU T I N i n m ∨ (m.D.down = true ∧ FD N (LB T I) m.D)
def crm (m : MS) : Int := if m.dn = true then 0 else cr m.x
theorem crm_b (m : MS) : 0 ≤ crm m ∧ crm m ≤ 1 := by have := cr_b m.x; unfold crm; split <;> omega
theorem MU.dn {T I : Int} {N i n : Nat} {m : MS} (h : MU T I N i n m) : m.dn = false := by
  have := up_not h.ub.inn.down h.sd
  unfold MS.dn; simpa using this
theorem dn_down {m : MS} (h : m.D.down = true) : m.dn = true := by unfold MS.dn downS; rw [h]; simp
theorem MI.mono {T T' I I' : Int} {N N' i n : Nat} {m : MS} (h : MI T I N i n m) (hT : T ≤ T') (hI : I ≤ I') (hN : N ≤ N') : MI T' I' N' i n m :=
  ⟨h.out, h.l, Int.le_trans h.ap hI, h.st.imp (fun u => ⟨u.ub.mono hT hI, u.id, u.n, u.sd.mono hN, u.ap⟩) (fun d => ⟨d.1, d.2.imp hN (fun g hg => hg.mono hT hI)⟩)⟩
theorem MI.ok {T I : Int} {N i n : Nat} {m : MS} (h : MI T I N i n m) : m.D.ok N := by
  rcases h.st with u | d
  · exact u.sd.okD
  · exact d.2.1
theorem MI.mw {T I : Int} {N i n : Nat} {m : MS} (h : MI T I N i n m) (hT : T ≤ 2305843009213693952) (hI : I ≤ 9500) (hN : N ≤ 690000000) : MW m := by
  have hl := h.l
  have ha := h.ap
  refine ⟨fun hd => ?_, h.out, DK.ok_le h.ok hN, ⟨by omega, hl.2⟩, by omega⟩
  rcases h.st with u | d
  · exact u.ub.inn.nin0 ⟨hT, by omega, by omega⟩ h.out
  · exact absurd (dn_down d.1) hd
theorem MI.act {T T' I I' : Int} {N N' i n : Nat} {m : MS} {f : NS → Bool × NS} {y : ND} (h : MI T I N i n m) (u : MU T I N i n m) (hT : T ≤ T') (hI : I ≤ I') (hy : UB T' I' y) (htr : TR m.x y) (hfx : Fx N' (LB T' I') (f (m.x, m.D)) y) (hym : ∀ g ∈ y.out, MB T' I' g) :
    MI T' I' N' i n (m.act (runN (m.x, m.D) f)).1 ∧ (∀ g ∈ (m.act (runN (m.x, m.D) f)).2, MB T' I' g) ∧ (m.act (runN (m.x, m.D) f)).2.length ≤ y.out.length ∧ crm (m.act (runN (m.x, m.D) f)).1 ≤ cr y := by
  have hl := h.l
  have ha := h.ap
  have hcr := cr_b y
  rcases run_x u.ub.inn.down u.sd h.out hfx with ⟨e1, e2, e3⟩ | ⟨e1, e2, e3⟩
  · have ex : (m.act (runN (m.x, m.D) f)).1 = { m with x := y.q, D := (runN (m.x, m.D) f).2.2 } := by unfold MS.act; rw [e2]
    have em : (m.act (runN (m.x, m.D) f)).2 = y.out := e1
    rw [ex, em]
    have hu : MU T' I' N' i n { m with x := y.q, D := (runN (m.x, m.D) f).2.2 } := ⟨⟨hy.inn.q, hy.lb⟩, htr.id.trans u.id, htr.n.trans u.n, e3, Int.le_trans u.ap htr.com⟩
    exact ⟨⟨rfl, hl, Int.le_trans ha hI, .inl hu⟩, hym, Nat.le_refl _, by unfold crm; rw [hu.dn]; exact Int.le_refl _⟩
  · have em : (m.act (runN (m.x, m.D) f)).2 = [] := e1
    rw [em]
    refine ⟨⟨rfl, hl, Int.le_trans ha hI, .inr ⟨e3.2.1, e3⟩⟩, fun g hg => (by cases hg), Nat.zero_le _, ?_⟩
    unfold crm
    rw [if_pos (show (m.act (runN (m.x, m.D) f)).1.dn = true from dn_down e3.2.1)]
    omega
theorem MI.act0 {T I : Int} {N i n : Nat} {m : MS} (h : MI T I N i n m) : (m.act ([], (m.x, m.D))) = (m, []) := by
  unfold MS.act
  rw [q_eq h.out]
def MStep (T I : Int) (N i n : Nat) (c : Int) (r : MS × List Msg) : Prop := ∃ I', I ≤ I' ∧ I' + crm r.1 ≤ I + c ∧ MI T I' N i n r.1 ∧ (∀ g ∈ r.2, MB T I' g) ∧ r.2.length ≤ n
theorem MI.stay {T T' I : Int} {N N' i n : Nat} {m : MS} (h : MI T I N i n m) (hT : T ≤ T') (hN : N ≤ N') {c : Int} (hc : crm m ≤ c) : MStep T' I N' i n c (m, []) :=
  ⟨I, Int.le_refl _, by dsimp only; omega, h.mono hT (Int.le_refl _) hN, fun g hg => (by cases hg), Nat.zero_le _⟩
theorem dn_crm {m : MS} (h : m.dn = true) : crm m = 0 := by unfold crm; rw [if_pos h]
theorem MI.tick {T I : Int} {N i n : Nat} {m : MS} (h : MI T I N i n m) (hT : T ≤ 1000000000) (hI : I ≤ 9500) : MStep (T + 1) I (N + 6000) i n (crm m + 1) m.tick := by
  have hcm := crm_b m
  rcases h.st with u | d
  · have ht := u.ub.lb.term
    have hid := u.ub.inn.idn
    have hcr : crm m = cr m.x := by unfold crm; rw [u.dn]; rfl
    obtain ⟨I', a1, a2, a3, a4⟩ := u.ub.tickP h.out
    have hnn := u.ub.inn.nin0 ⟨by omega, by omega, by omega⟩ h.out
    have hm := u.ub.lb.mono (show T ≤ T + 1 by omega) a1
    have hfx := tick_x (n := N) (P := LB (T + 1) I') (by omega) u.sd hnn hm (hm.set (t := m.x.g.term + 1) (v := m.x.id) (by omega) (by omega)) a3.lb
    obtain ⟨b1, b2, b3, b4⟩ := h.act u (show T ≤ T + 1 by omega) a1 a3 u.ub.inn.tickP.tr hfx a4
    exact ⟨I', a1, by rw [hcr]; show I' + crm (m.act (runN (m.x, m.D) tickN)).1 ≤ _; omega, b1, b2, Nat.le_trans b3 (by have := tick_len h.out; rw [u.n] at this; exact this)⟩
  · have hd := dn_down d.1
    have e : m.tick = (m, []) := by unfold MS.tick; rw [runN_down (show downS (m.x, m.D) = true from hd)]; exact h.act0
    rw [e]
    exact h.stay (by omega) (by omega) (by omega)
theorem MI.recv {T I : Int} {N i n : Nat} {m : MS} (h : MI T I N i n m) {g : Msg} (hg : MB T I g) (hT : T ≤ 1000000000) (hI : I ≤ 9500) (hN : 17000000 ≤ N) : MStep T I (N + 6000) i n (crm m) (m.recv g) := by
  have hcm := crm_b m
  rcases h.st with u | d
  · have ht := u.ub.lb.term
    have hid := u.ub.inn.idn
    have hcr : crm m = cr m.x := by unfold crm; rw [u.dn]; rfl
    obtain ⟨I', a1, a2, a3, a4⟩ := u.ub.receiveP h.out hg
    have hnn := u.ub.inn.nin0 ⟨by omega, by omega, by omega⟩ h.out
    have hm := u.ub.lb.mono (Int.le_refl T) a1
    have hgt := hg.term
    have hfx := receive_x (n := N) (k := 0) (m := g) (P := LB T I') hN (by omega) u.sd hnn (hg.im (by omega) (by omega)).1 u.ub.inn.commit.1 hm (fun _ => hm.set (t := g.term) (v := -1) (by omega) (by omega)) a3.lb
    obtain ⟨b1, b2, b3, b4⟩ := h.act (f := fun s => receiveN s g) u (Int.le_refl T) a1 a3 (u.ub.inn.receiveP hg.ln).tr hfx a4
    exact ⟨I', a1, by rw [hcr]; show I' + crm (m.act (runN (m.x, m.D) (fun s => receiveN s g))).1 ≤ _; omega, b1, b2, Nat.le_trans b3 (by have := recv_len h.out (by omega) g; rw [u.n] at this; exact this)⟩
  · have hd := dn_down d.1
    have e : m.recv g = (m, []) := by unfold MS.recv; rw [runN_down (show downS (m.x, m.D) = true from hd)]; exact h.act0
    rw [e]
    exact h.stay (by omega) (by omega) (by omega)
theorem prop_lead {T I : Int} {N i n : Nat} {m : MS} (h : MI T I N i n m) (u : MU T I N i n m) (hr : m.x.role = 2) {cmd : Bs} {P : LG → Prop} {N' : Nat} (hfx : Fx N' P (entryN (m.x, m.D) cmd) (m.x.entryP cmd)) : (m.prop cmd).2 = m.act (runN (m.x, m.D) (fun s => entryN s cmd)) := by
  unfold MS.prop proposeN
  rw [if_neg (by simpa using hr)]
  by_cases h1 : downS (runN (m.x, m.D) (fun s => entryN s cmd)).2 = true
  · rw [if_pos h1]
    rcases run_x (f := fun s => entryN s cmd) u.ub.inn.down u.sd h.out hfx with ⟨e1, e2, e3⟩ | ⟨e1, e2, e3⟩
    · exfalso
      have h2 : downS (m.x.entryP cmd, (runN (m.x, m.D) (fun s => entryN s cmd)).2.2) = true := by rw [← e2]; exact h1
      have e3d := e3.1
      have e3g := e3.2.2.2.1
      unfold downS at h2
      rw [e3d, e3g] at h2
      have h3 : (m.x.entryP cmd).down = m.x.down := by unfold ND.entryP; rw [feedAll_eq]; show (ND.count _).down = _; unfold ND.count; split <;> rfl
      rw [h3, u.ub.inn.down] at h2
      cases h2
    · unfold MS.act; rw [e1]
  · rw [if_neg h1]
theorem prop_no {m : MS} {cmd : Bs} (hr : ¬ m.x.role = 2) : m.prop cmd = ((0, 0), m.act ([], (m.x, m.D))) := by
  unfold MS.prop proposeN
  rw [if_pos hr]
theorem prop_dn {m : MS} {cmd : Bs} (hd : m.dn = true) : m.prop cmd = ((0, 0), m.act ([], (m.x, m.D))) := by
  by_cases hr : m.x.role = 2
  · unfold MS.prop proposeN
    rw [if_neg (by simpa using hr)]
    rw [runN_down (show downS (m.x, m.D) = true from hd), if_pos (show downS (([] : List Msg), (m.x, m.D)).2 = true from hd)]
  · exact prop_no hr
theorem MI.prop {T I : Int} {N i n : Nat} {m : MS} (h : MI T I N i n m) {cmd : Bs} (hc : cmd.length ≤ 100) (hT : T ≤ 1000000000) (hI : I ≤ 9500) : MStep T I (N + 6000) i n (crm m + 1) (m.prop cmd).2 := by
  have hcm := crm_b m
  have hst : MStep T I (N + 6000) i n (crm m + 1) (m, []) := h.stay (Int.le_refl _) (by omega) (by omega)
  rcases h.st with u | d
  · by_cases hr : m.x.role = 2
    · have ht := u.ub.lb.term
      have hnn := u.ub.inn.nin0 ⟨by omega, by omega, by omega⟩ h.out
      obtain ⟨a3, a4⟩ := u.ub.entryP h.out hr hc
      have hfx := (entry_x (n := N) (P := LB T (I + 1)) (by omega) u.sd hnn hc (u.ub.lb.mono (Int.le_refl _) (by omega)) a3.lb).mono (show N + 3000 ≤ N + 6000 by omega)
      rw [prop_lead h u hr hfx]
      obtain ⟨b1, b2, b3, b4⟩ := h.act (f := fun s => entryN s cmd) u (Int.le_refl T) (show I ≤ I + 1 by omega) a3 (u.ub.inn.entryP hr hc).tr hfx a4
      have hcr : cr (m.x.entryP cmd) = 0 := by unfold cr; rw [entry_role, hr]; rfl
      exact ⟨I + 1, by omega, by omega, b1, b2, Nat.le_trans b3 (by have := entry_len h.out cmd; rw [u.n] at this; exact this)⟩
    · rw [prop_no hr, h.act0]; exact hst
  · rw [prop_dn (dn_down d.1), h.act0]; exact hst
theorem comp_dn {m : MS} (h : m.x.out = []) (hd : m.dn = true) : m.comp = (3, m) := by
  unfold MS.comp compactN
  rw [if_pos (show downS (m.x, m.D) = true from hd)]
  dsimp only
  rw [q_eq h]
theorem comp_up {T I : Int} {N i n : Nat} {m : MS} (h : MI T I N i n m) (u : MU T I N i n m) : m.comp = if m.ap < m.x.g.base then (1, m) else (((m.x.g.swapD m.D (m.x.g.comp m.ap (stB m.l)))).1, { m with x := { m.x with g := (m.x.g.swapD m.D (m.x.g.comp m.ap (stB m.l))).2.1 }, D := (m.x.g.swapD m.D (m.x.g.comp m.ap (stB m.l))).2.2 }) := by
  have hcm := u.ub.inn.commit
  have hap := u.ap
  have ho := h.out
  have hx : ({ m.x with out := [] } : ND) = m.x := q_eq h.out
  have hgd : (m.x.g.down || m.D.down) = false := by rw [u.sd.1, u.sd.2.2.2.1]; rfl
  unfold MS.comp compactN
  rw [if_neg (up_not u.ub.inn.down u.sd), if_neg (by dsimp only; omega)]
  unfold LG.compD
  dsimp only
  rw [if_neg (by rw [hgd]; decide)]
  by_cases h1 : m.ap < m.x.g.base
  · rw [if_pos (.inl h1), if_pos h1]
    try dsimp only
    rw [show ND.q { m.x with g := m.x.g } = m.x from q_eq h.out]
  · rw [if_neg (by omega), if_neg h1]
    unfold ND.q
    rw [show ({ m.x with g := (m.x.g.swapD m.D (m.x.g.comp m.ap (stB m.l))).2.1, out := [] } : ND) = { m.x with g := (m.x.g.swapD m.D (m.x.g.comp m.ap (stB m.l))).2.1 } by rw [← ho]]
theorem MI.comp {T I : Int} {N i n : Nat} {m : MS} (h : MI T I N i n m) (hT : T ≤ 1000000000) (hI : I ≤ 9400) (hN : 17000000 ≤ N) : MI T I (N + 6000) i n m.comp.2 ∧ crm m.comp.2 ≤ crm m := by
  have hcm := crm_b m
  have hl := h.l
  have hai := h.ap
  rcases h.st with u | d
  · have hcmm := u.ub.inn.commit
    have hap := u.ap
    rw [comp_up h u]
    by_cases h1 : m.ap < m.x.g.base
    · rw [if_pos h1]; exact ⟨h.mono (Int.le_refl _) (Int.le_refl _) (by omega), Int.le_refl _⟩
    · rw [if_neg h1]
      have hsl := stB_len hl.2 (by omega)
      have hun := unS_stB hl.2 (by omega)
      have hi := (u.ub.inn.comp (i := m.ap) (s := stB m.l) (by omega) (by omega)).inn
      have hla : (m.x.g.comp m.ap (stB m.l)).last = m.x.g.last := by unfold LG.comp LG.last at *; simp; omega
      have hy : UB T I { m.x with g := m.x.g.comp m.ap (stB m.l) } := UB.mk0 hi (by show (m.x.g.comp _ _).last ≤ I; rw [hla]; exact u.ub.lb.last) u.ub.pp (by show ((unS (stB m.l)).length : Int) ≤ m.ap ∧ ∀ s ∈ unS (stB m.l), s.length ≤ 100; rw [hun]; exact hl)
      have hnn := hy.inn.nin0 ⟨by omega, by omega, by omega⟩ h.out
      have hok := hnn.g (by omega)
      have hw := inst_len (k := 0) (by omega) hnn
      have hsw := swap_x (P := LB T I) (to := m.x.g.comp m.ap (stB m.l)) (u.sd.mono (show N ≤ N + 6000 by omega)) hok u.sd.2.2.2.1 hw (by omega) u.ub.lb
      have hcr : crm m = cr m.x := by unfold crm; rw [u.dn]; rfl
      unfold LG.swapD
      rcases hsw with ⟨p1, p2⟩ | ⟨p1, p2⟩
      · rw [if_pos p1]
        have hu : MU T I (N + 6000) i n { m with x := { m.x with g := m.x.g.comp m.ap (stB m.l) }, D := (m.D.swap (Rec.all (m.x.g.comp m.ap (stB m.l))).bytes).2 } := ⟨hy, u.id, u.n, p2, u.ap⟩
        exact ⟨⟨h.out, hl, hai, .inl hu⟩, by unfold crm; rw [hu.dn]; rw [if_neg (by decide), u.dn, if_neg (by decide)]; exact Int.le_refl _⟩
      · rw [if_neg p1]
        exact ⟨⟨h.out, hl, hai, .inr ⟨p2.2.1, p2⟩⟩, by rw [dn_crm (dn_down p2.2.1)]; omega⟩
  · rw [comp_dn h.out (dn_down d.1)]
    exact ⟨h.mono (Int.le_refl _) (Int.le_refl _) (by omega), Int.le_refl _⟩
theorem MI.fuel {T I : Int} {N i n : Nat} {m : MS} (h : MI T I N i n m) {k : Int} (hk : i64B k) : MI T I N i n { m with D := m.D.setFuel k } ∧ crm { m with D := m.D.setFuel k } = crm m := by
  refine ⟨⟨h.out, h.l, h.ap, ?_⟩, rfl⟩
  unfold i64B at hk
  rcases h.st with u | ⟨d1, ⟨a1, a2, a3⟩, d3, d4⟩
  · obtain ⟨s1, s2, s3, s4, s5, s6⟩ := u.sd
    exact .inl ⟨u.ub, u.id, u.n, ⟨s1, s2, ⟨by show _ ≤ k; omega, by show k ≤ _; omega, fun hb => by simpa [DK.setFuel] using hb⟩, s4, s5, s6⟩, u.ap⟩
  · exact .inr ⟨d1, ⟨a1, a2, ⟨by show _ ≤ k; omega, by show k ≤ _; omega, fun hb => by simpa [DK.setFuel] using hb⟩⟩, d3, d4⟩
theorem MI.keeps {T I : Int} {N i n : Nat} {m : MS} (h : MI T I N i n m) : ∀ keep : Int, ∃ rs p g, (m.D.crash keep).b = recsB rs ++ p ∧ torn p ∧ Plays LG.new rs g ∧ g.down = false ∧ LB T I g := by
  rcases h.st with u | d
  · exact u.sd.crash_any u.ub.lb
  · exact d.2.2.2
theorem MI.opens {T I : Int} {N i n : Nat} {m : MS} (h : MI T I N i n m) (keep : Int) : Opens m.D keep := by
  obtain ⟨rs, p, g, a, b, c, _⟩ := h.keeps keep
  exact ⟨rs, p, g, a, b, c⟩
theorem crash_to {N : Nat} {P : LG → Prop} {D : DK} (hk : D.ok N) (h : ∀ keep : Int, ∃ rs p g, (D.crash keep).b = recsB rs ++ p ∧ torn p ∧ Plays LG.new rs g ∧ g.down = false ∧ P g) (keep : Int) :
    P (telG (D.crash keep).b) ∧ SD N (telG (D.crash keep).b) ((D.crash keep).open (telR (D.crash keep).b) (telP (D.crash keep).b)).2 := by
  obtain ⟨rs, p, g, a1, a2, a3, a4, a5, a6, a7⟩ := open_x hk h keep
  obtain ⟨t1, t2, t3⟩ := tells_one ⟨a2, a3, a4⟩
  have e : (D.crash keep).open (telR (D.crash keep).b) (telP (D.crash keep).b) = (D.crash keep).open rs p := by
    unfold DK.open
    rw [t1, t2]
  rw [t3, e]
  exact ⟨a5, a7⟩
theorem LB.start {T I : Int} {i n : Nat} {g : LG} (h : LB T I g) (hn : i < n ∧ n ≤ 9) : UB T I (ND.start i n g) := by
  have hl := h.last
  have hb := h.base
  have h1 : LIn T I I.toNat (ND.start i n g) := LIn.start hn h.term h.vote h.base h.baseT h.last h.stl (by unfold LG.last at hl; omega) h.all
  exact ⟨h1, h⟩
theorem MI.start {T I : Int} {N i n : Nat} {g : LG} {D : DK} (h : LB T I g) (hs : SD N g D) (hn : i < n ∧ n ≤ 9) : MI T I N i n (startS i n g D) ∧ crm (startS i n g D) = 0 := by
  have hl := h.last
  have hb := h.base
  have hgl : g.base ≤ g.last := by unfold LG.last; omega
  unfold startS
  split
  · rename_i h1
    have hu : MU T I N i n ⟨ND.start i n g, D, unS g.state, g.base⟩ := ⟨h.start hn, rfl, rfl, hs, Int.le_refl _⟩
    exact ⟨⟨rfl, h.st, by dsimp only; omega, .inl hu⟩, by unfold crm; rw [hu.dn]; rfl⟩
  · have hu : MU T I N i n ⟨ND.start i n g, D, [], 0⟩ := ⟨h.start hn, rfl, rfl, hs, hb⟩
    exact ⟨⟨rfl, by simp, by dsimp only; omega, .inl hu⟩, by unfold crm; rw [hu.dn]; rfl⟩
theorem MI.crash {T I : Int} {N i n : Nat} {m : MS} (h : MI T I N i n m) (hn : i < n ∧ n ≤ 9) (keep : Int) : MI T I N i n (m.crash i n keep) ∧ crm (m.crash i n keep) = 0 := by
  obtain ⟨h1, h2⟩ := crash_to h.ok h.keeps keep
  unfold MS.crash
  exact MI.start h1 h2 hn
theorem app_len (i : Int) : ∀ (l : List Ent) (r : MS × List OC), (r.1.l.length : Int) ≤ r.1.ap → (∀ s ∈ r.1.l, s.length ≤ 100) → (∀ e ∈ l, e.2.length ≤ 100) → ((l.foldl (app1 i) r).1.l.length : Int) ≤ (l.foldl (app1 i) r).1.ap ∧ ∀ s ∈ (l.foldl (app1 i) r).1.l, s.length ≤ 100
  | [], r, h1, h2, _ => ⟨h1, h2⟩
  | e :: l, r, h1, h2, h3 => by
    rw [List.foldl_cons]
    refine app_len i l _ ?_ ?_ (fun e he => h3 e (by simp [he]))
    · unfold app1
      split
      · show (r.1.l.length : Int) ≤ r.1.ap + 1; omega
      · show ((r.1.l ++ [e.2]).length : Int) ≤ r.1.ap + 1; simp; omega
    · unfold app1
      split
      · exact h2
      · intro s hs
        rcases List.mem_append.1 (show s ∈ r.1.l ++ [e.2] from hs) with hs | hs
        · exact h2 s hs
        · simp at hs; subst hs; exact h3 e (by simp)
theorem MI.done {T I : Int} {N i n : Nat} {m : MS} (h : MI T I N i n m) (j : Int) (o : List OC) : MI T I N i n (doneM j m o).1 ∧ crm (doneM j m o).1 = crm m ∧ ((doneM j m o).2.length : Int) ≤ o.length + I := by
  obtain ⟨ex, eD⟩ := doneM_x j m o
  have hcr : crm (doneM j m o).1 = crm m := by unfold crm MS.dn; rw [ex, eD]
  have hl := h.l
  have hai := h.ap
  by_cases hd : m.dn = true
  · have e : doneM j m o = (m, o) := by unfold doneM; rw [if_pos hd]
    rw [e]; exact ⟨h, rfl, by dsimp only; omega⟩
  · rcases h.st with u | d
    · have e : doneM j m o = m.rest.todo.foldl (app1 j) (m.rest, o) := by unfold doneM; rw [if_neg hd]
      obtain ⟨p1, p2, p3, p4, p5⟩ := app_x j m.rest.todo (m.rest, o)
      rw [← e] at p1 p2 p3 p4 p5
      obtain ⟨q1, q2, q3, q4⟩ := mrest_x m
      have hcm := u.ub.inn.commit
      have hlb := u.ub.lb
      have hll := hlb.last
      have htl := (todo_len (m := m.rest)).1
      rw [q1] at htl
      have hap := u.ap
      have hrl : (m.rest.l.length : Int) ≤ m.rest.ap ∧ (∀ s ∈ m.rest.l, s.length ≤ 100) ∧ m.rest.ap ≤ m.x.commit := by
        unfold MS.rest
        split
        · exact ⟨hlb.st.1, hlb.st.2, hcm.1⟩
        · exact ⟨hl.1, hl.2, hap⟩
      have hte : ∀ e ∈ m.rest.todo, e.2.length ≤ 100 := fun e he => by
        have : e ∈ m.rest.x.g.all := List.mem_of_mem_drop (List.mem_of_mem_take he)
        rw [q1] at this
        exact (hlb.all e this).2
      obtain ⟨r1, r2⟩ := app_len j m.rest.todo (m.rest, o) hrl.1 hrl.2.1 hte
      rw [← e] at r1 r2
      dsimp only at p3 p5
      have hapn : (doneM j m o).1.ap ≤ m.x.commit := by rw [p3]; have := hrl.2.2; omega
      exact ⟨⟨by rw [ex]; exact h.out, ⟨r1, r2⟩, by omega, .inl ⟨by rw [ex]; exact u.ub, by rw [ex]; exact u.id, by rw [ex]; exact u.n, by rw [ex, eD]; exact u.sd, by rw [ex]; exact hapn⟩⟩, hcr, by have := hrl.1; omega⟩
    · exact absurd (dn_down d.1) hd
def cand (l : List MS) : Int := (l.map crm).sum
theorem cand_set : ∀ {l : List MS} {i : Nat} {m : MS} (m' : MS), l[i]? = some m → cand (l.set i m') + crm m = cand l + crm m'
  | [], i, m, m', h => by simp at h
  | x :: l, 0, m, m', h => by simp at h; subst h; simp [cand]; omega
  | x :: l, i + 1, m, m', h => by
    have := cand_set m' (l := l) (i := i) (m := m) (by simpa using h)
    unfold cand at this ⊢
    simp only [List.set_cons_succ, List.map_cons, List.sum_cons]
    omega
theorem cand_pos : ∀ l : List MS, 0 ≤ cand l
  | [] => by simp [cand]
  | x :: l => by
    have h1 := cand_pos l
    have h2 := crm_b x
    unfold cand at h1 ⊢
    simp only [List.map_cons, List.sum_cons]
    omega
structure GI (n a t : Nat) (I : Int) (G : GS) : Prop where
  len : G.ms.length = n ∧ 1 ≤ n ∧ n ≤ 9
  i0 : 0 ≤ I ∧ I + cand G.ms ≤ t
  ms : ∀ i m, G.ms[i]? = some m → MI a I (17000000 + 6000 * a) i n m
  st : G.st.length ≤ n * a ∧ 0 ≤ G.last ∧ G.last ≤ ((n * a : Nat) : Int)
  msg : ∀ x ∈ G.st, MB a I x.2
  out : G.out.length ≤ a * 9500
theorem numb_mem : ∀ {l : List Msg} {k : Int} {x : One1}, x ∈ numb k l → x.2 ∈ l
  | [], _, _, h => by cases h
  | m :: l, k, x, h => by
    rw [numb] at h
    rcases List.mem_cons.1 h with h | h
    · subst h; simp
    · exact List.mem_cons_of_mem _ (numb_mem h)
theorem GI.later {n a t : Nat} {I : Int} {G : GS} (h : GI n a t I G) : GI n (a + 1) t I G := by
  have hm : n * (a + 1) = n * a + n := by rw [Nat.mul_add]; omega
  have h1 := h.st
  have h2 := h.out
  have h3 : (a + 1) * 9500 = a * 9500 + 9500 := Nat.add_mul a 1 9500
  exact ⟨h.len, h.i0, fun i m hi => (h.ms i m hi).mono (by omega) (Int.le_refl _) (by omega), by rw [hm]; omega, fun x hx => (h.msg x hx).mono (by omega) (Int.le_refl _), by rw [h3]; exact Nat.le_trans h2 (Nat.le_add_right _ _)⟩
theorem GI.gw {n a t : Nat} {I : Int} {G : GS} (h : GI n a t I G) (ha : a ≤ 90000) (ht : t ≤ 9400) : GW G := by
  have hc := cand_pos G.ms
  have h0 := h.i0
  have hs := h.st
  have ho := h.out
  have hna : n * a ≤ 9 * 90000 := Nat.mul_le_mul h.len.2.2 ha
  refine ⟨by have := h.len; omega, fun m hm => ?_, by omega, by omega, fun x hx => (h.msg x hx).im (by omega) (by omega), by omega⟩
  obtain ⟨i, hi⟩ := List.mem_iff_getElem?.1 hm
  exact (h.ms i m hi).mw (by omega) (by omega) (by omega)
theorem GI.done {n a t : Nat} {I : Int} {G : GS} (h : GI n a t I G) {i : Nat} {m : MS} (hm : G.ms[i]? = some m) {r : MS × List Msg} {δ : Nat} (hr : MStep ((a : Int) + 1) I (17000000 + 6000 * a + 6000) i n (crm m + δ) r) (ht : t + δ ≤ 9400) : ∃ I', GI n (a + 1) (t + δ) I' (G.done i r.1 r.2) := by
  obtain ⟨I', a1, a2, a3, a4, a5⟩ := hr
  have hc := cand_pos G.ms
  have hc2 := cand_set r.1 hm
  have h0 := h.i0
  have hi := (List.getElem?_eq_some_iff.1 hm).1
  obtain ⟨d1, d2, d3⟩ := a3.done i G.out
  have hc3 := cand_set (doneM i r.1 G.out).1 hm
  have hcr := crm_b r.1
  have hcp := cand_pos (G.ms.set i r.1)
  have hm2 : n * (a + 1) = n * a + n := by rw [Nat.mul_add]; omega
  have hs := h.st
  have ho := h.out
  refine ⟨I', ⟨by show (G.ms.set i _).length = n ∧ _; rw [List.length_set]; exact h.len, ⟨by omega, by show I' + cand (G.ms.set i _) ≤ _; rw [d2] at hc3; omega⟩, fun j mj hj => ?_, ?_, fun x hx => ?_, ?_⟩⟩
  · have hj : (G.ms.set i (doneM i r.1 G.out).1)[j]? = some mj := hj
    by_cases e : i = j
    · subst e
      rw [List.getElem?_set_self hi] at hj
      have hj := Option.some.inj hj
      subst hj
      exact d1.mono (by omega) (Int.le_refl _) (by omega)
    · rw [List.getElem?_set_ne e] at hj
      exact (h.ms j mj hj).mono (by omega) a1 (by omega)
  · show (G.st ++ numb G.last r.2).length ≤ _ ∧ 0 ≤ G.last + (r.2.length : Int) ∧ G.last + (r.2.length : Int) ≤ _
    rw [List.length_append, numb_len, hm2]
    omega
  · rcases List.mem_append.1 (show x ∈ G.st ++ numb G.last r.2 from hx) with hx | hx
    · exact (h.msg x hx).mono (by omega) a1
    · exact (a4 _ (numb_mem hx)).mono (by omega) (Int.le_refl _)
  · show (doneM i r.1 G.out).2.length ≤ _
    omega
theorem GI.mem {n a t : Nat} {I : Int} {G : GS} (h : GI n a t I G) {i : Nat} (hi : i < n) : ∃ m, G.ms[i]? = some m := ⟨_, List.getElem?_eq_getElem (by rw [h.len.1]; exact hi)⟩
theorem GI.I {n a t : Nat} {I : Int} {G : GS} (h : GI n a t I G) : I ≤ t := by
  have := cand_pos G.ms
  have := h.i0
  omega
theorem GI.tick {n a t : Nat} {I : Int} {G : GS} (h : GI n a t I G) {i : Nat} (hi : i < n) (ha : a ≤ 90000) (ht : t + 1 ≤ 9400) : ∃ I', GI n (a + 1) (t + 1) I' (G.tick i) := by
  have hI := h.I
  obtain ⟨m, hm⟩ := h.mem hi
  rw [tick_eq hm]
  exact h.done hm (δ := 1) ((h.ms i m hm).tick (by omega) (by omega)) ht
theorem GI.take {n a t : Nat} {I : Int} {G : GS} (h : GI n a t I G) (k : Int) : GI n a t I (G.take k) := by
  have h1 : ∀ x ∈ dropL G.st k, x ∈ G.st := fun x hx => by
    unfold dropL at hx
    split at hx
    · exact List.mem_of_mem_eraseIdx hx
    · exact hx
  have h2 : (dropL G.st k).length ≤ G.st.length := by
    unfold dropL
    split
    · exact List.length_eraseIdx_le _ _
    · exact Nat.le_refl _
  have hs := h.st
  exact ⟨h.len, h.i0, h.ms, ⟨by show (dropL G.st k).length ≤ _; omega, hs.2⟩, fun x hx => h.msg x (h1 x hx), h.out⟩
theorem atM_mem {st : List One1} {k : Int} (h : hasB st k = true) : atM st k ∈ st := by
  unfold hasB at h
  simp at h
  obtain ⟨n, rfl⟩ := Int.eq_ofNat_of_zero_le h.1
  have hn : n < st.length := by omega
  rw [(atM_some (x := st[n]) (by simp)).1]
  exact List.getElem_mem hn
theorem GI.deliver {n a t : Nat} {I : Int} {G : GS} (h : GI n a t I G) (k : Int) (ha : a ≤ 90000) (ht : t ≤ 9400) : ∃ I', GI n (a + 1) t I' (G.deliver k) := by
  have hI := h.I
  unfold GS.deliver
  split
  · rename_i hb
    split
    · split
      · exact ⟨I, (h.take k).later⟩
      · rename_i m hm
        have hg := h.msg _ (atM_mem hb)
        have hmi := h.ms _ m hm
        have hs := hmi.recv hg (by omega) (by omega) (by omega)
        refine (h.take k).done hm (δ := 0) ?_ (by omega)
        obtain ⟨I', a1, a2, a3, a4, a5⟩ := hs
        exact ⟨I', a1, by omega, a3.mono (by omega) (Int.le_refl _) (Nat.le_refl _), fun g hg => (a4 g hg).mono (by omega) (Int.le_refl _), a5⟩
    · exact ⟨I, (h.take k).later⟩
  · exact ⟨I, h.later⟩
theorem GI.prop {n a t : Nat} {I : Int} {G : GS} (h : GI n a t I G) {i : Nat} (hi : i < n) {cmd : Bs} (hc : cmd.length ≤ 100) (ha : a ≤ 90000) (ht : t + 1 ≤ 9400) : ∃ I', GI n (a + 1) (t + 1) I' (G.propose i cmd).2 := by
  have hI := h.I
  obtain ⟨m, hm⟩ := h.mem hi
  rw [prop_eq hm]
  refine h.done hm (δ := 1) ?_ ht
  obtain ⟨I', a1, a2, a3, a4, a5⟩ := (h.ms i m hm).prop hc (by omega) (by omega)
  exact ⟨I', a1, a2, a3.mono (by omega) (Int.le_refl _) (Nat.le_refl _), fun g hg => (a4 g hg).mono (by omega) (Int.le_refl _), a5⟩
theorem GI.set {n a t : Nat} {I : Int} {G : GS} (h : GI n a t I G) {i : Nat} {m m' : MS} (hm : G.ms[i]? = some m) (hm' : MI a I (17000000 + 6000 * a + 6000) i n m') (hc : crm m' ≤ crm m) : GI n (a + 1) t I { G with ms := G.ms.set i m' } := by
  have hl := h.later
  have h0 := h.i0
  have hc2 := cand_set m' hm
  have hi := (List.getElem?_eq_some_iff.1 hm).1
  refine ⟨by show (G.ms.set i _).length = n ∧ _; rw [List.length_set]; exact h.len, ⟨h0.1, by show I + cand (G.ms.set i m') ≤ _; omega⟩, fun j mj hj => ?_, hl.st, hl.msg, hl.out⟩
  have hj : (G.ms.set i m')[j]? = some mj := hj
  by_cases e : i = j
  · subst e
    rw [List.getElem?_set_self hi] at hj
    have hj := Option.some.inj hj
    subst hj
    exact hm'.mono (by omega) (Int.le_refl _) (by omega)
  · rw [List.getElem?_set_ne e] at hj
    exact hl.ms j mj hj
theorem GI.comp {n a t : Nat} {I : Int} {G : GS} (h : GI n a t I G) {i : Nat} (hi : i < n) (ha : a ≤ 90000) (ht : t ≤ 9400) : GI n (a + 1) t I (G.compact i).2 := by
  have hI := h.I
  obtain ⟨m, hm⟩ := h.mem hi
  rw [comp_eq hm]
  obtain ⟨b1, b2⟩ := (h.ms i m hm).comp (by omega) (by omega) (by omega)
  exact h.set hm b1 b2
theorem GI.fuel {n a t : Nat} {I : Int} {G : GS} (h : GI n a t I G) {i : Nat} (hi : i < n) {k : Int} (hk : i64B k) : GI n (a + 1) t I (G.fuel i k) := by
  obtain ⟨m, hm⟩ := h.mem hi
  rw [fuel_eq hm]
  obtain ⟨b1, b2⟩ := (h.ms i m hm).fuel hk
  exact h.set hm (b1.mono (Int.le_refl _) (Int.le_refl _) (by omega)) (Int.le_of_eq b2)
theorem GI.crash {n a t : Nat} {I : Int} {G : GS} (h : GI n a t I G) {i : Nat} (hi : i < n) (keep : Int) : GI n (a + 1) t I (G.crash i keep) := by
  obtain ⟨m, hm⟩ := h.mem hi
  have hl := h.len
  have hc := crm_b m
  rw [crash_eq hm, hl.1]
  obtain ⟨b1, b2⟩ := (h.ms i m hm).crash ⟨hi, hl.2.2⟩ keep
  exact h.set hm (b1.mono (Int.le_refl _) (Int.le_refl _) (by omega)) (by omega)
theorem GI.twice {n a t : Nat} {I : Int} {G : GS} (h : GI n a t I G) (k : Int) : GI n (a + 1) t I (G.twice k) := by
  have hl := h.later
  have hm2 : n * (a + 1) = n * a + n := by rw [Nat.mul_add]; omega
  have hs := h.st
  have hn := h.len
  refine ⟨hl.len, hl.i0, hl.ms, ?_, fun x hx => ?_, hl.out⟩
  · show (twL G.st G.last k).length ≤ _ ∧ 0 ≤ twN G.st G.last k ∧ twN G.st G.last k ≤ _
    unfold twL twN
    rw [hm2]
    split
    · simp [numb]; omega
    · omega
  · have hx : x ∈ twL G.st G.last k := hx
    unfold twL at hx
    split at hx
    · rename_i hb
      rcases List.mem_append.1 hx with hx | hx
      · exact hl.msg x hx
      · have := numb_mem hx
        simp at this
        rw [this]
        exact hl.msg _ (atM_mem hb)
    · exact hl.msg x hx
theorem GI.outs {n a t : Nat} {I : Int} {G : GS} (h : GI n a t I G) : GI n a t I G.outs := ⟨h.len, h.i0, h.ms, h.st, h.msg, by show ([] : List OC).length ≤ _; simp⟩
theorem LB.new : LB 0 0 LG.new := ⟨by decide, by decide, by decide, by decide, by decide, fun e he => (by cases he), by rw [show unS LG.new.state = [] from unS_nil]; decide, by decide⟩
theorem GI.new {n : Nat} (hn : 1 ≤ n ∧ n ≤ 9) : GI n 0 0 0 (GS.new n) := by
  have hm : ∀ i m, (GS.new n).ms[i]? = some m → i < n ∧ m = startS i n LG.new DK.new := fun i m h => by
    have hi := (List.getElem?_eq_some_iff.1 h).1
    have hi : i < n := by simpa [GS.new] using hi
    simp [GS.new, hi] at h
    exact ⟨hi, h.symm⟩
  have hz : ∀ m ∈ (GS.new n).ms, crm m = 0 := fun m h => by
    obtain ⟨i, hi⟩ := List.mem_iff_getElem?.1 h
    obtain ⟨h1, rfl⟩ := hm i m hi
    exact (MI.start LB.new SD.new ⟨h1, hn.2⟩).2
  have hs : ∀ l : List MS, (∀ m ∈ l, crm m = 0) → cand l = 0 := fun l => by
    induction l with
    | nil => intro _; rfl
    | cons x l ih =>
      intro h
      have h1 := ih (fun m hm => h m (by simp [hm]))
      unfold cand at h1 ⊢
      rw [List.map_cons, List.sum_cons, h1, h x (by simp)]; rfl
  refine ⟨⟨by simp [GS.new], hn⟩, ⟨by omega, by rw [hs _ hz]; omega⟩, fun i m h => ?_, ⟨by simp [GS.new], by simp [GS.new]⟩, fun x hx => by simp [GS.new] at hx, by simp [GS.new]⟩
  obtain ⟨h1, rfl⟩ := hm i m h
  exact (MI.start LB.new (SD.new.mono (show 0 ≤ 17000000 + 6000 * 0 by omega)) ⟨h1, hn.2⟩).1
def GJ (n c d : Nat) (G : GS) : Prop := ∃ a t I, a + c ≤ 90000 ∧ t + d ≤ 9000 ∧ GI n a t I G
theorem GJ.new {n : Nat} (hn : 1 ≤ n ∧ n ≤ 9) : GJ n 90000 9000 (GS.new n) := ⟨0, 0, 0, by omega, by omega, GI.new hn⟩
theorem bud (n : Nat) : Bud n 90000 (GJ n) where
  gw := fun c d G ⟨a, t, I, ha, ht, h⟩ => h.gw (by omega) (by omega)
  ln := fun c d G ⟨a, t, I, ha, ht, h⟩ => h.len.1
  le := fun c d G ⟨a, t, I, ha, ht, h⟩ => ⟨a, t, I, by omega, by omega, h⟩
  le2 := fun c d G ⟨a, t, I, ha, ht, h⟩ => ⟨a, t, I, by omega, by omega, h⟩
  tick := fun c d G i hi ⟨a, t, I, ha, ht, h⟩ => by
    obtain ⟨I', h'⟩ := h.tick hi (by omega) (by omega)
    exact ⟨a + 1, t + 1, I', by omega, by omega, h'⟩
  del := fun c d G k ⟨a, t, I, ha, ht, h⟩ => by
    obtain ⟨I', h'⟩ := h.deliver k (by omega) (by omega)
    exact ⟨a + 1, t, I', by omega, by omega, h'⟩
  prop := fun c d G i cmd hi hc ⟨a, t, I, ha, ht, h⟩ => by
    obtain ⟨I', h'⟩ := h.prop hi hc (by omega) (by omega)
    exact ⟨a + 1, t + 1, I', by omega, by omega, h'⟩
  comp := fun c d G i hi ⟨a, t, I, ha, ht, h⟩ => ⟨a + 1, t, I, by omega, by omega, h.comp hi (by omega) (by omega)⟩
  fuel := fun c d G i k hi hk ⟨a, t, I, ha, ht, h⟩ => ⟨a + 1, t, I, by omega, by omega, h.fuel hi hk⟩
  opens := fun c d G i m k ⟨a, t, I, ha, ht, h⟩ hm => (h.ms i m hm).opens k
  crash := fun c d G i k hi ⟨a, t, I, ha, ht, h⟩ => ⟨a + 1, t, I, by omega, by omega, h.crash hi k⟩
  drop := fun c d G k ⟨a, t, I, ha, ht, h⟩ => ⟨a + 1, t, I, by omega, by omega, (h.take k).later⟩
  twice := fun c d G k ⟨a, t, I, ha, ht, h⟩ => ⟨a + 1, t, I, by omega, by omega, h.twice k⟩
  last := fun c d G ⟨a, t, I, ha, ht, h⟩ => by
    have h1 := h.st
    have h2 : n * a + n * c ≤ n * 90000 := by rw [← Nat.mul_add]; exact Nat.mul_le_mul_left n (by omega)
    omega
  outs := fun c d G ⟨a, t, I, ha, ht, h⟩ => ⟨a, t, I, ha, ht, h.outs⟩
set_option maxRecDepth 100000
def insE (a : Int) : List Int → List Int
  | [] => [a]
  | b :: l => if a ≤ b then a :: b :: l else b :: insE a l
def sortE (l : List Int) : List Int := l.foldr insE []
theorem insE_perm (a : Int) : ∀ l : List Int, (insE a l).Perm (a :: l)
  | [] => .refl _
  | b :: l => by
    unfold insE
    split
    · exact .refl _
    · exact ((insE_perm a l).cons b).trans (.swap a b l)
theorem insE_pair (a : Int) : ∀ {l : List Int}, l.Pairwise (fun a b => decide (a ≤ b) = true) → (insE a l).Pairwise (fun a b => decide (a ≤ b) = true)
  | [], _ => by simp [insE]
  | b :: l, h => by
    unfold insE
    rw [List.pairwise_cons] at h
    split
    · rename_i h1
      refine List.pairwise_cons.2 ⟨fun c hc => ?_, List.pairwise_cons.2 h⟩
      rcases List.mem_cons.1 hc with hc | hc
      · subst hc; simpa using h1
      · have := h.1 c hc; simp at *; omega
    · refine List.pairwise_cons.2 ⟨fun c hc => ?_, insE_pair a h.2⟩
      rcases List.mem_cons.1 ((insE_perm a l).mem_iff.1 hc) with hc | hc
      · subst hc; simp; omega
      · exact h.1 c hc
theorem sortE_eq (l : List Int) : l.mergeSort (fun a b => decide (a ≤ b)) = sortE l := by
  have h1 := List.mergeSort_perm l (fun a b => decide (a ≤ b))
  have h2 := List.pairwise_mergeSort (le := fun (a b : Int) => decide (a ≤ b)) (fun a b c h1 h2 => by simp at *; omega) (fun a b => by simp; omega) l
  have h3 : (sortE l).Perm l ∧ (sortE l).Pairwise (fun a b => decide (a ≤ b) = true) := by
    unfold sortE
    clear h1 h2
    induction l with
    | nil => exact ⟨.refl _, .nil⟩
    | cons a l ih => exact ⟨(insE_perm a _).trans (ih.1.cons a), insE_pair a ih.2⟩
  exact List.Perm.eq_of_pairwise (le := fun (a b : Int) => decide (a ≤ b) = true) (fun a b _ _ h1 h2 => by simp at *; omega) h2 h3.2 (h1.trans h3.1.symm)
def midE (x : ND) : Int := (sortE x.reach).getD ((x.n - 1) / 2) 0
def countE (x : ND) : ND := if midE x > x.commit ∧ x.tAt (midE x) = x.g.term then { x with commit := midE x } else x
theorem count_E : ND.count = countE := by funext x; unfold ND.count countE ND.mid midE; rw [sortE_eq]
def entryE (s : NS) (cmd : Bs) : Bool × NS := bindN (mustN s (s.1.g.addD s.2 s.1.g.last [(s.1.g.term, cmd)])) fun s => (true, ((countE s.1).feedAll, s.2))
theorem entry_E : entryN = entryE := by funext s c; unfold entryN entryE; rw [count_E]
def winE (s : NS) : Bool × NS := entryE (s.1.wins, s.2) []
theorem win_E : winN = winE := by funext s; unfold winN winE; rw [entry_E]
def standE (s : NS) : Bool × NS := bindN (mustN s (s.1.g.setTermD s.2 (s.1.g.term + 1) s.1.id)) fun s =>
  if s.1.n = 1 then winE (s.1.stands, s.2) else (true, (s.1.stands.askAll, s.2))
theorem stand_E : standN = standE := by funext s; unfold standN standE; rw [win_E]
def tickE (s : NS) : Bool × NS :=
  if s.1.role = 2 then if s.1.patience + 1 ≥ 3 then (true, ({ s.1 with patience := 0 }.feedAll, s.2)) else (true, ({ s.1 with patience := s.1.patience + 1 }, s.2))
  else if s.1.patience + 1 ≥ limitI s.1.id s.1.g.term then standE ({ s.1 with patience := s.1.patience + 1 }, s.2) else (true, ({ s.1 with patience := s.1.patience + 1 }, s.2))
theorem tick_E : tickN = tickE := by funext s; unfold tickN tickE; rw [stand_E]
def votedE (s : NS) (m : Msg) : Bool × NS :=
  if ¬ s.1.role = 1 ∨ ¬ m.term = s.1.g.term ∨ m.ok = false then (true, s)
  else if 2 * ((setAdd s.1.votes m.frm).length : Int) > s.1.n then winE ({ s.1 with votes := setAdd s.1.votes m.frm }, s.2)
  else (true, ({ s.1 with votes := setAdd s.1.votes m.frm }, s.2))
theorem voted_E : votedN = votedE := by funext s m; unfold votedN votedE; rw [win_E]
def heardE (s : NS) (m : Msg) : Bool × NS :=
  if ¬ s.1.role = 2 ∨ ¬ m.term = s.1.g.term then (true, s)
  else
    let to := m.frm.toNat
    if m.ok = false then (true, ((s.1.setPeer to (max (min (s.1.nxt to - 1) (m.index + 1)) (s.1.mat to + 1), s.1.mat to)).feed to, s.2))
    else
      let k := max (s.1.mat to) (min m.index s.1.g.last)
      let x := countE (s.1.setPeer to (k + 1, k))
      if k + 1 ≤ x.g.last then (true, (x.feed to, s.2)) else (true, (x, s.2))
theorem heard_E : heardN = heardE := by funext s m; unfold heardN heardE; rw [count_E]
def kindE (s : NS) (m : Msg) : Bool × NS :=
  if m.kind = 0 then askedN s m else if m.kind = 1 then votedE s m else if m.kind = 2 ∨ m.kind = 4 then fedN s m else if m.kind = 3 then heardE s m else (true, s)
theorem kind_E : kindN = kindE := by funext s m; unfold kindN kindE; rw [voted_E, heard_E]
def receiveE (s : NS) (m : Msg) : Bool × NS :=
  if ¬ m.to = s.1.id ∨ m.frm = s.1.id ∨ m.frm < 0 ∨ m.frm ≥ s.1.n then (true, s)
  else if m.term > s.1.g.term then bindN (mustN s (s.1.g.setTermD s.2 m.term (-1))) fun s => kindE (s.1.newTerm, s.2) m
  else kindE s m
theorem receive_E : receiveN = receiveE := by funext s m; unfold receiveN receiveE; rw [kind_E]
def proposeE (s : NS) (cmd : Bs) : (Int × Int × List Msg) × NS :=
  if ¬ s.1.role = 2 then ((0, 0, []), s) else if downS (runN s (fun s => entryE s cmd)).2 = true then ((0, 0, []), (runN s (fun s => entryE s cmd)).2)
  else (((runN s (fun s => entryE s cmd)).2.1.g.last, (runN s (fun s => entryE s cmd)).2.1.g.term, (runN s (fun s => entryE s cmd)).1), (runN s (fun s => entryE s cmd)).2)
theorem propose_E : proposeN = proposeE := by funext s c; unfold proposeN proposeE; rw [entry_E]
def mTickE (m : MS) : MS × List Msg := m.act (runN (m.x, m.D) tickE)
def mRecvE (m : MS) (g : Msg) : MS × List Msg := m.act (runN (m.x, m.D) (fun s => receiveE s g))
def mPropE (m : MS) (c : Bs) : (Int × Int) × (MS × List Msg) := (((proposeE (m.x, m.D) c).1.1, (proposeE (m.x, m.D) c).1.2.1), m.act ((proposeE (m.x, m.D) c).1.2.2, (proposeE (m.x, m.D) c).2))
theorem mTick_E : MS.tick = mTickE := by funext m; unfold MS.tick mTickE; rw [tick_E]
theorem mRecv_E : MS.recv = mRecvE := by funext m g; unfold MS.recv mRecvE; rw [receive_E]
theorem mProp_E : MS.prop = mPropE := by funext m c; unfold MS.prop mPropE; rw [propose_E]
def gTickE (G : GS) (i : Nat) : GS := match G.ms[i]? with
  | none => G
  | some m => G.done i (mTickE m).1 (mTickE m).2
theorem gTick_E : GS.tick = gTickE := by funext G i; unfold GS.tick gTickE; rw [mTick_E]; try rfl
def gDelE (G : GS) (k : Int) : GS :=
  if hasB G.st k = true then
    if 0 ≤ (atM G.st k).2.to then match G.ms[(atM G.st k).2.to.toNat]? with
      | none => G.take k
      | some m => (G.take k).done (atM G.st k).2.to.toNat (mRecvE m (atM G.st k).2).1 (mRecvE m (atM G.st k).2).2
    else G.take k
  else G
theorem gDel_E : GS.deliver = gDelE := by funext G k; unfold GS.deliver gDelE; rw [mRecv_E]; try rfl
def gPropE (G : GS) (i : Nat) (c : Bs) : (Int × Int) × GS := match G.ms[i]? with
  | none => ((0, 0), G)
  | some m => ((mPropE m c).1, G.done i (mPropE m c).2.1 (mPropE m c).2.2)
theorem gProp_E : GS.propose = gPropE := by funext G i c; unfold GS.propose gPropE; rw [mProp_E]; try rfl
def gTicksE (G : GS) (k : Nat) : GS := (List.range k).foldl gTickE G
theorem gTicks_E : GS.ticks = gTicksE := by funext G k; unfold GS.ticks gTicksE; rw [gTick_E]
def gDelsE (G : GS) : Nat → GS
  | 0 => G
  | k + 1 => if G.st.length > 0 then gDelsE (gDelE G 0) k else G
theorem dels_head (G : GS) : ∀ k, G.dels (k + 1) = G.del1.dels k
  | 0 => rfl
  | k + 1 => by
    show (G.dels (k + 1)).del1 = (G.del1.dels k).del1
    rw [dels_head G k]
theorem gDels_E : ∀ (k : Nat) (G : GS), G.dels k = gDelsE G k
  | 0, G => rfl
  | k + 1, G => by
    unfold gDelsE
    split
    · rename_i h
      rw [dels_head, gDels_E k, show G.del1 = gDelE G 0 by unfold GS.del1; rw [if_pos h, gDel_E]]
    · rename_i h
      rw [dels_end (k := 0) (by omega) (by show G.st.length = 0; omega)]
      rfl
def gRoundE (G : GS) (n : Nat) : GS := gDelsE (gTicksE G n) 200
theorem gRound_E : GS.round = gRoundE := by funext G n; unfold GS.round gRoundE; rw [gTicks_E, gDels_E]
def gRoundsE (G : GS) (n : Nat) : Nat → GS
  | 0 => G
  | k + 1 => gRoundE (gRoundsE G n k) n
theorem gRounds_E : ∀ (k : Nat) (G : GS) (n : Nat), G.rounds n k = gRoundsE G n k
  | 0, _, _ => rfl
  | k + 1, G, n => by show (G.rounds n k).round n = gRoundE (gRoundsE G n k) n; rw [gRounds_E k, gRound_E]
theorem awOK : AwOK 1 where
  l1 := by rw [gRounds_E]; decide +kernel
  p := by rw [gRounds_E, gProp_E]; decide +kernel
  t0 := by decide
  l2 := by rw [gRounds_E, gRounds_E, gProp_E]; decide +kernel
  o := by rw [gRounds_E, gRounds_E, gProp_E]; decide +kernel
  d := fun m hm => by
    have h : (((((GS.new 3).rounds 3 60).propose 0 [97]).2.rounds 3 10).ms[0]?).map (fun m => m.l.length) = some 1 := by rw [gRounds_E, gRounds_E, gProp_E]; decide +kernel
    rw [hm] at h; simpa using h
  a := fun m hm => by
    have h : (((((GS.new 3).rounds 3 60).propose 0 [97]).2.rounds 3 10).ms[1]?).map (fun m => m.ap) = some 2 := by rw [gRounds_E, gRounds_E, gProp_E]; decide +kernel
    rw [hm] at h; simpa using h
def MS.er (m : MS) : MS := { m with D := DK.new }
def MS.tickS (m : MS) : MS × List Msg := ({ m with x := m.x.tickP.q }, m.x.tickP.out)
def MS.recvS (m : MS) (g : Msg) : MS × List Msg := ({ m with x := (m.x.receiveP g).q }, (m.x.receiveP g).out)
def MS.propS (m : MS) (c : Bs) : (Int × Int) × (MS × List Msg) := if m.x.role = 2 then (((m.x.entryP c).g.last, (m.x.entryP c).g.term), ({ m with x := (m.x.entryP c).q }, (m.x.entryP c).out)) else ((0, 0), (m, []))
def MS.compS (m : MS) : Int × MS := if m.ap < m.x.g.base then (1, m) else (0, { m with x := { m.x with g := m.x.g.comp m.ap (stB m.l) } })
def MS.crashS (m : MS) (i n : Nat) : MS := startS i n m.x.g DK.new
def doneS (i : Int) (m : MS) (o : List OC) : MS × List OC := m.rest.todo.foldl (app1 i) (m.rest, o)
def GS.doneS (G : GS) (i : Nat) (m : MS) (l : List Msg) : GS := ⟨G.ms.set i (V.doneS i m G.out).1, G.st ++ numb G.last l, G.last + l.length, (V.doneS i m G.out).2⟩
def GS.tickS (G : GS) (i : Nat) : GS := match G.ms[i]? with
  | none => G
  | some m => G.doneS i m.tickS.1 m.tickS.2
def GS.delS (G : GS) (k : Int) : GS :=
  if hasB G.st k = true then
    if 0 ≤ (atM G.st k).2.to then match G.ms[(atM G.st k).2.to.toNat]? with
      | none => G.take k
      | some m => (G.take k).doneS (atM G.st k).2.to.toNat (m.recvS (atM G.st k).2).1 (m.recvS (atM G.st k).2).2
    else G.take k
  else G
def GS.propS (G : GS) (i : Nat) (c : Bs) : (Int × Int) × GS := match G.ms[i]? with
  | none => ((0, 0), G)
  | some m => ((m.propS c).1, G.doneS i (m.propS c).2.1 (m.propS c).2.2)
def GS.compS (G : GS) (i : Nat) : Int × GS := match G.ms[i]? with
  | none => (1, G)
  | some m => (m.compS.1, { G with ms := G.ms.set i m.compS.2 })
def GS.crashS (G : GS) (i : Nat) : GS := match G.ms[i]? with
  | none => G
  | some m => { G with ms := G.ms.set i (m.crashS i G.ms.length) }
def GS.er (G : GS) : GS := { G with ms := G.ms.map MS.er }
def Hl (G : GS) : Prop := ∀ m ∈ G.ms, DKh m.D
theorem MI.up {T I : Int} {N i n : Nat} {m : MS} (h : MI T I N i n m) (hh : DKh m.D) : MU T I N i n m := by
  rcases h.st with u | d
  · exact u
  · rw [hh.1] at d; cases d.1
theorem MU.ld {T I : Int} {N i n : Nat} {m : MS} (u : MU T I N i n m) (hh : DKh m.D) : LD N m.x.g m.D := by
  obtain ⟨s1, s2, s3, s4, s5, s6⟩ := u.sd
  exact ⟨s1, hh.2, s2, ⟨s3.1, s3.2.1⟩, s4, s5, s6⟩
theorem app1_D (i : Int) (e : Ent) (r : MS × List OC) (D : DK) : app1 i ({ r.1 with D := D }, r.2) e = ({ (app1 i r e).1 with D := D }, (app1 i r e).2) := by
  unfold app1
  split <;> rfl
theorem app_D (i : Int) (D : DK) : ∀ (l : List Ent) (r : MS × List OC), l.foldl (app1 i) ({ r.1 with D := D }, r.2) = ({ (l.foldl (app1 i) r).1 with D := D }, (l.foldl (app1 i) r).2)
  | [], r => rfl
  | e :: l, r => by rw [List.foldl_cons, List.foldl_cons, app1_D, app_D i D l]
theorem doneS_er (i : Int) (m : MS) (o : List OC) (D : DK) : doneS i { m with D := D } o = ({ (doneS i m o).1 with D := D }, (doneS i m o).2) := by
  unfold doneS
  have h1 : ({ m with D := D } : MS).rest = { m.rest with D := D } := by unfold MS.rest; split <;> rfl
  have h2 : ({ m with D := D } : MS).rest.todo = m.rest.todo := by rw [h1]; rfl
  rw [h2, h1]
  exact app_D i D _ (m.rest, o)
theorem doneS_D (i : Int) (m : MS) (o : List OC) : (doneS i m o).1.D = m.D := by
  unfold doneS
  rw [(app_x i m.rest.todo (m.rest, o)).2.1]
  exact (mrest_x m).2.1
theorem done_s {G : GS} {i : Nat} {m m' : MS} {l : List Msg} (hm : G.ms[i]? = some m) (hd : m'.dn = false) (hh : DKh m'.D) (hl : Hl G) : (G.done i m' l).er = G.er.doneS i m'.er l ∧ Hl (G.done i m' l) := by
  have e : doneM i m' G.out = doneS i m' G.out := by unfold doneM; rw [if_neg (by rw [hd]; decide)]; rfl
  have e2 := doneS_er i m' G.out DK.new
  constructor
  · unfold GS.done GS.doneS GS.er
    rw [e]
    show GS.mk _ _ _ _ = GS.mk _ _ _ _
    rw [show m'.er = { m' with D := DK.new } from rfl, e2, List.map_set]
    rfl
  · intro x hx
    rcases List.mem_or_eq_of_mem_set (show x ∈ G.ms.set i (doneM i m' G.out).1 from hx) with hx | hx
    · exact hl x hx
    · rw [hx, e, doneS_D]; exact hh
theorem act_s {T I : Int} {N N' i n : Nat} {m : MS} {f : NS → Bool × NS} {y : ND} (h : MI T I N i n m) (u : MU T I N i n m) (hh : DKh m.D) (hf : Hs N' (f (m.x, m.D)) y) : ∃ D', DKh D' ∧ m.act (runN (m.x, m.D) f) = ({ m with x := y.q, D := D' }, y.out) := by
  obtain ⟨a, b, c⟩ := run_h u.ub.inn.down (u.ld hh) h.out hf
  exact ⟨_, c.h, by unfold MS.act; rw [a, b]⟩
theorem tick_s {T I : Int} {N i n : Nat} {m : MS} (h : MI T I N i n m) (hh : DKh m.D) (hT : T ≤ 1000000000) (hI : I ≤ 9500) : ∃ D', DKh D' ∧ m.tick = ({ m with x := m.x.tickP.q, D := D' }, m.x.tickP.out) := by
  have u := h.up hh
  have hnn := u.ub.inn.nin0 ⟨by omega, by omega, by omega⟩ h.out
  exact act_s h u hh (tick_h (by omega) (u.ld hh) hnn)
theorem recv_s {T I : Int} {N i n : Nat} {m : MS} (h : MI T I N i n m) (hh : DKh m.D) {g : Msg} (hg : MB T I g) (hT : T ≤ 1000000000) (hI : I ≤ 9500) (hN : 17000000 ≤ N) : ∃ D', DKh D' ∧ m.recv g = ({ m with x := (m.x.receiveP g).q, D := D' }, (m.x.receiveP g).out) := by
  have u := h.up hh
  have hnn := u.ub.inn.nin0 ⟨by omega, by omega, by omega⟩ h.out
  exact act_s (f := fun s => receiveN s g) h u hh (receive_h (k := 0) hN (by omega) (u.ld hh) hnn (hg.im (by omega) (by omega)).1 u.ub.inn.commit.1)
theorem prop_s {T I : Int} {N i n : Nat} {m : MS} (h : MI T I N i n m) (hh : DKh m.D) {c : Bs} (hc : c.length ≤ 100) (hT : T ≤ 1000000000) (hI : I ≤ 9500) : ∃ D', DKh D' ∧ m.prop c = ((m.propS c).1, ({ (m.propS c).2.1 with D := D' }, (m.propS c).2.2)) := by
  have u := h.up hh
  by_cases hr : m.x.role = 2
  · have hnn := u.ub.inn.nin0 ⟨by omega, by omega, by omega⟩ h.out
    have hf := entry_h (cmd := c) (by omega) (u.ld hh) hnn hc
    obtain ⟨a, b, d⟩ := run_h (f := fun s => entryN s c) u.ub.inn.down (u.ld hh) h.out hf
    have hb2 : (m.x.entryP c).down = false := by
      have h3 : (m.x.entryP c).down = m.x.down := by unfold ND.entryP; rw [feedAll_eq]; show (ND.count _).down = _; unfold ND.count; split <;> rfl
      rw [h3]; exact u.ub.inn.down
    have hnd : ¬ downS (runN (m.x, m.D) (fun s => entryN s c)).2 = true := by
      have := downS_h (D := (runN (m.x, m.D) (fun s => entryN s c)).2.2) hb2 d
      rw [← b] at this
      exact this
    refine ⟨_, d.h, ?_⟩
    unfold MS.prop proposeN MS.propS MS.act
    rw [if_neg (by simpa using hr), if_neg hnd, if_pos hr, a, b]
  · refine ⟨m.D, hh, ?_⟩
    rw [prop_no hr, h.act0]
    unfold MS.propS
    rw [if_neg hr]
theorem comp_s {T I : Int} {N i n : Nat} {m : MS} (h : MI T I N i n m) (hh : DKh m.D) : ∃ D', DKh D' ∧ m.comp = (m.compS.1, { m.compS.2 with D := D' }) := by
  have u := h.up hh
  rw [comp_up h u]
  unfold MS.compS
  by_cases h1 : m.ap < m.x.g.base
  · rw [if_pos h1, if_pos h1]; exact ⟨m.D, hh, rfl⟩
  · rw [if_neg h1, if_neg h1]
    obtain ⟨s1, s2, s3, s4⟩ := swap_h hh (Rec.all (m.x.g.comp m.ap (stB m.l))).bytes
    unfold LG.swapD
    rw [if_pos s1]
    exact ⟨_, s2, rfl⟩
theorem crash_s {T I : Int} {N i n : Nat} {m : MS} (h : MI T I N i n m) (u : MU T I N i n m) (keep : Int) : ∃ D', DKh D' ∧ m.crash i n keep = { m.crashS i n with D := D' } := by
  obtain ⟨s1, s2, s3, s4, s5, rs, s6, s7⟩ := u.sd
  have hb : (m.D.crash keep).b = m.D.b := crash_all s2 keep
  have ht : DTell (m.D.crash keep).b rs [] m.x.g := ⟨by rw [hb, s6]; simp, torn_nil, s7⟩
  obtain ⟨t1, t2, t3⟩ := tells_one ht
  unfold MS.crash MS.crashS
  rw [t2, t3]
  have e : (m.D.crash keep).open (telR (m.D.crash keep).b) [] = (0, m.D.crash keep) := by unfold DK.open; rw [if_neg (by show ¬ false = true; decide), if_pos rfl]
  rw [e]
  refine ⟨m.D.crash keep, ⟨rfl, rfl⟩, ?_⟩
  unfold startS
  split <;> rfl
theorem er_at {G : GS} {i : Nat} {m : MS} (hm : G.ms[i]? = some m) : G.er.ms[i]? = some m.er := by unfold GS.er; simp [hm]
theorem er_no {G : GS} {i : Nat} (hm : G.ms[i]? = none) : G.er.ms[i]? = none := by unfold GS.er; simpa using hm
theorem gTick_s {n a t : Nat} {I : Int} {G : GS} (h : GI n a t I G) (hl : Hl G) {i : Nat} (ha : a ≤ 90000) (ht : t + 1 ≤ 9400) : (G.tick i).er = G.er.tickS i ∧ Hl (G.tick i) := by
  have hI := h.I
  cases hm : G.ms[i]? with
  | none => unfold GS.tick GS.tickS; rw [hm, er_no hm]; exact ⟨rfl, hl⟩
  | some m =>
    have hmi := h.ms i m hm
    have hh := hl m (List.mem_of_getElem? hm)
    obtain ⟨D', hD', e⟩ := tick_s hmi hh (by omega) (by omega)
    obtain ⟨I', a1, a2, a3, a4, a5⟩ := hmi.tick (by omega) (by omega)
    rw [tick_eq hm]
    rw [e] at a3 ⊢
    obtain ⟨b1, b2⟩ := done_s (m' := { m with x := m.x.tickP.q, D := D' }) (l := m.x.tickP.out) hm (a3.up hD').dn hD' hl
    refine ⟨?_, b2⟩
    unfold GS.tickS
    rw [er_at hm]
    exact b1
theorem take_s {G : GS} (hl : Hl G) (k : Int) : (G.take k).er = G.er.take k ∧ Hl (G.take k) := ⟨rfl, hl⟩
theorem gDel_s {n a t : Nat} {I : Int} {G : GS} (h : GI n a t I G) (hl : Hl G) {k : Int} (ha : a ≤ 90000) (ht : t ≤ 9400) : (G.deliver k).er = G.er.delS k ∧ Hl (G.deliver k) := by
  have hI := h.I
  have est : G.er.st = G.st := rfl
  unfold GS.deliver GS.delS
  rw [est]
  split
  · rename_i hb
    split
    · cases hm : G.ms[(atM G.st k).2.to.toNat]? with
      | none => rw [er_no hm]; exact take_s hl k
      | some m =>
        rw [er_at hm]
        have hmi := h.ms _ m hm
        have hh := hl m (List.mem_of_getElem? hm)
        have hg := h.msg _ (atM_mem hb)
        obtain ⟨D', hD', e⟩ := recv_s hmi hh hg (by omega) (by omega) (by omega)
        obtain ⟨I', a1, a2, a3, a4, a5⟩ := hmi.recv hg (by omega) (by omega) (by omega)
        dsimp only
        rw [e] at a3 ⊢
        exact done_s (G := G.take k) (m' := { m with x := (m.x.receiveP (atM G.st k).2).q, D := D' }) hm (a3.up hD').dn hD' hl
    · exact take_s hl k
  · exact ⟨rfl, hl⟩
theorem gProp_s {n a t : Nat} {I : Int} {G : GS} (h : GI n a t I G) (hl : Hl G) {i : Nat} {c : Bs} (hc : c.length ≤ 100) (ha : a ≤ 90000) (ht : t + 1 ≤ 9400) : (G.propose i c).1 = (G.er.propS i c).1 ∧ (G.propose i c).2.er = (G.er.propS i c).2 ∧ Hl (G.propose i c).2 := by
  have hI := h.I
  cases hm : G.ms[i]? with
  | none => unfold GS.propose GS.propS; rw [hm, er_no hm]; exact ⟨rfl, rfl, hl⟩
  | some m =>
    have hmi := h.ms i m hm
    have hh := hl m (List.mem_of_getElem? hm)
    obtain ⟨D', hD', e⟩ := prop_s hmi hh hc (by omega) (by omega)
    obtain ⟨I', a1, a2, a3, a4, a5⟩ := hmi.prop hc (by omega) (by omega)
    have ep : m.er.propS c = ((m.propS c).1, ((m.propS c).2.1.er, (m.propS c).2.2)) := by unfold MS.propS; show (if m.x.role = 2 then _ else _) = _; split <;> rfl
    rw [prop_eq hm]
    rw [e] at a3 ⊢
    obtain ⟨b1, b2⟩ := done_s (m' := { (m.propS c).2.1 with D := D' }) (l := (m.propS c).2.2) hm (a3.up hD').dn hD' hl
    unfold GS.propS
    rw [er_at hm]
    dsimp only
    rw [ep]
    exact ⟨rfl, b1, b2⟩
theorem gComp_s {n a t : Nat} {I : Int} {G : GS} (h : GI n a t I G) (hl : Hl G) {i : Nat} : (G.compact i).1 = (G.er.compS i).1 ∧ (G.compact i).2.er = (G.er.compS i).2 ∧ Hl (G.compact i).2 := by
  cases hm : G.ms[i]? with
  | none => unfold GS.compact GS.compS; rw [hm, er_no hm]; exact ⟨rfl, rfl, hl⟩
  | some m =>
    have hmi := h.ms i m hm
    have hh := hl m (List.mem_of_getElem? hm)
    obtain ⟨D', hD', e⟩ := comp_s hmi hh
    have ep : m.er.compS = (m.compS.1, m.compS.2.er) := by unfold MS.compS; show (if m.ap < m.x.g.base then _ else _) = _; split <;> rfl
    rw [comp_eq hm, e]
    unfold GS.compS
    rw [er_at hm]
    dsimp only
    rw [ep]
    refine ⟨rfl, ?_, fun x hx => ?_⟩
    · unfold GS.er
      show GS.mk _ _ _ _ = GS.mk _ _ _ _
      rw [List.map_set]; rfl
    · rcases List.mem_or_eq_of_mem_set (show x ∈ G.ms.set i { m.compS.2 with D := D' } from hx) with hx | hx
      · exact hl x hx
      · rw [hx]; exact hD'
theorem gCrash_s {n a t : Nat} {I : Int} {G : GS} (h : GI n a t I G) (hl : Hl G) {i : Nat} (keep : Int) : (G.crash i keep).er = G.er.crashS i ∧ Hl (G.crash i keep) := by
  cases hm : G.ms[i]? with
  | none => unfold GS.crash GS.crashS; rw [hm, er_no hm]; exact ⟨rfl, hl⟩
  | some m =>
    have hmi := h.ms i m hm
    have hh := hl m (List.mem_of_getElem? hm)
    obtain ⟨D', hD', e⟩ := crash_s hmi (hmi.up hh) keep
    rw [crash_eq hm, h.len.1, e]
    have ep : m.er.crashS i n = (m.crashS i n).er := by unfold MS.crashS startS MS.er; dsimp only; split <;> rfl
    unfold GS.crashS
    rw [er_at hm, show G.er.ms.length = n by unfold GS.er; simp [h.len.1]]
    dsimp only
    rw [ep]
    refine ⟨?_, fun x hx => ?_⟩
    · unfold GS.er
      show GS.mk _ _ _ _ = GS.mk _ _ _ _
      rw [List.map_set]; rfl
    · rcases List.mem_or_eq_of_mem_set (show x ∈ G.ms.set i { m.crashS i n with D := D' } from hx) with hx | hx
      · exact hl x hx
      · rw [hx]; exact hD'
def SJ11 (n c d : Nat) (G : GS) : Prop := GJ n c d G ∧ Hl G
theorem SJ11.tick {n c d i : Nat} {G : GS} (h : SJ11 n (c + 1) (d + 1) G) (hi : i < n) : SJ11 n c d (G.tick i) ∧ (G.tick i).er = G.er.tickS i := by
  have hb := (bud n).tick c d G i hi h.1
  obtain ⟨⟨a, t, I, ha, ht, hg⟩, hl⟩ := h
  obtain ⟨e1, e2⟩ := gTick_s hg hl (i := i) (by omega) (by omega)
  exact ⟨⟨hb, e2⟩, e1⟩
theorem SJ11.del {n c d : Nat} {k : Int} {G : GS} (h : SJ11 n (c + 1) d G) : SJ11 n c d (G.deliver k) ∧ (G.deliver k).er = G.er.delS k := by
  have hb := (bud n).del c d G k h.1
  obtain ⟨⟨a, t, I, ha, ht, hg⟩, hl⟩ := h
  obtain ⟨e1, e2⟩ := gDel_s hg hl (k := k) (by omega) (by omega)
  exact ⟨⟨hb, e2⟩, e1⟩
theorem SJ11.prop {n c d i : Nat} {cmd : Bs} {G : GS} (h : SJ11 n (c + 1) (d + 1) G) (hi : i < n) (hc : cmd.length ≤ 100) : SJ11 n c d (G.propose i cmd).2 ∧ (G.propose i cmd).1 = (G.er.propS i cmd).1 ∧ (G.propose i cmd).2.er = (G.er.propS i cmd).2 := by
  have hb := (bud n).prop c d G i cmd hi hc h.1
  obtain ⟨⟨a, t, I, ha, ht, hg⟩, hl⟩ := h
  obtain ⟨e1, e2, e3⟩ := gProp_s hg hl (i := i) hc (by omega) (by omega)
  exact ⟨⟨hb, e3⟩, e1, e2⟩
theorem SJ11.comp {n c d i : Nat} {G : GS} (h : SJ11 n (c + 1) d G) (hi : i < n) : SJ11 n c d (G.compact i).2 ∧ (G.compact i).1 = (G.er.compS i).1 ∧ (G.compact i).2.er = (G.er.compS i).2 := by
  have hb := (bud n).comp c d G i hi h.1
  obtain ⟨⟨a, t, I, ha, ht, hg⟩, hl⟩ := h
  obtain ⟨e1, e2, e3⟩ := gComp_s hg hl (i := i)
  exact ⟨⟨hb, e3⟩, e1, e2⟩
theorem SJ11.crash {n c d i : Nat} {k : Int} {G : GS} (h : SJ11 n (c + 1) d G) (hi : i < n) : SJ11 n c d (G.crash i k) ∧ (G.crash i k).er = G.er.crashS i := by
  have hb := (bud n).crash c d G i k hi h.1
  obtain ⟨⟨a, t, I, ha, ht, hg⟩, hl⟩ := h
  obtain ⟨e1, e2⟩ := gCrash_s hg hl (i := i) k
  exact ⟨⟨hb, e2⟩, e1⟩
theorem SJ11.leq {n c c' d d' : Nat} {G : GS} (h : SJ11 n c' d' G) (hc : c ≤ c') (hd : d ≤ d') : SJ11 n c d G := ⟨(bud n).leq hc hd h.1, h.2⟩
def GS.ticksS (G : GS) (k : Nat) : GS := (List.range k).foldl GS.tickS G
theorem ticksS_succ (G : GS) (k : Nat) : G.ticksS (k + 1) = (G.ticksS k).tickS k := by unfold GS.ticksS; rw [List.range_succ, List.foldl_append]; rfl
theorem SJ11.ticks {n c d : Nat} {G : GS} : ∀ {k : Nat}, k ≤ n → SJ11 n (c + k) (d + k) G → SJ11 n c d (G.ticks k) ∧ (G.ticks k).er = G.er.ticksS k
  | 0, _, h => ⟨h, rfl⟩
  | k + 1, hk, h => by
    obtain ⟨h1, e1⟩ := SJ11.ticks (n := n) (c := c + 1) (d := d + 1) (k := k) (by omega) (by rw [show c + 1 + k = c + (k + 1) by omega, show d + 1 + k = d + (k + 1) by omega]; exact h)
    obtain ⟨h2, e2⟩ := h1.tick (i := k) (by omega)
    rw [ticks_succ, ticksS_succ, e2, e1]
    exact ⟨h2, rfl⟩
def GS.del1S (G : GS) : GS := if G.st.length > 0 then G.delS 0 else G
def GS.delsS (G : GS) : Nat → GS
  | 0 => G
  | k + 1 => (G.delsS k).del1S
theorem SJ11.dels {n c d : Nat} {G : GS} : ∀ {k : Nat}, SJ11 n (c + k) d G → SJ11 n c d (G.dels k) ∧ (G.dels k).er = G.er.delsS k
  | 0, h => ⟨h, rfl⟩
  | k + 1, h => by
    obtain ⟨h1, e1⟩ := SJ11.dels (c := c + 1) (k := k) (by rw [show c + 1 + k = c + (k + 1) by omega]; exact h)
    show SJ11 n c d (G.dels k).del1 ∧ (G.dels k).del1.er = (G.er.delsS k).del1S
    rw [← e1]
    unfold GS.del1 GS.del1S
    rw [show (G.dels k).er.st = (G.dels k).st from rfl]
    split
    · exact h1.del
    · exact ⟨h1.leq (by omega) (Nat.le_refl _), rfl⟩
def GS.roundS (G : GS) (n : Nat) : GS := (G.ticksS n).delsS 200
def GS.roundsS (G : GS) (n : Nat) : Nat → GS
  | 0 => G
  | k + 1 => (G.roundsS n k).roundS n
theorem SJ11.round {n c d : Nat} {G : GS} (h : SJ11 n (c + (n + 200)) (d + n) G) : SJ11 n c d (G.round n) ∧ (G.round n).er = G.er.roundS n := by
  obtain ⟨h1, e1⟩ := SJ11.ticks (c := c + 200) (d := d) (k := n) (Nat.le_refl n) (by rw [show c + 200 + n = c + (n + 200) by omega]; exact h)
  obtain ⟨h2, e2⟩ := h1.dels
  unfold GS.roundS
  rw [← e1]
  exact ⟨h2, e2⟩
theorem SJ11.rounds {n : Nat} {G : GS} : ∀ {k c d : Nat}, SJ11 n (c + k * (n + 200)) (d + k * n) G → SJ11 n c d (G.rounds n k) ∧ (G.rounds n k).er = G.er.roundsS n k
  | 0, c, d, h => ⟨by simpa [GS.rounds] using h, rfl⟩
  | k + 1, c, d, h => by
    obtain ⟨h1, e1⟩ := SJ11.rounds (k := k) (c := c + (n + 200)) (d := d + n) (by rw [show c + (n + 200) + k * (n + 200) = c + (k + 1) * (n + 200) by rw [Nat.add_mul]; omega, show d + n + k * n = d + (k + 1) * n by rw [Nat.add_mul]; omega]; exact h)
    obtain ⟨h2, e2⟩ := h1.round
    show SJ11 n c d ((G.rounds n k).round n) ∧ ((G.rounds n k).round n).er = (G.er.roundsS n k).roundS n
    rw [← e1]
    exact ⟨h2, e2⟩
theorem SJ11.new {n : Nat} (hn : 1 ≤ n ∧ n ≤ 9) : SJ11 n 90000 9000 (GS.new n) := ⟨GJ.new hn, fun m hm => by
  obtain ⟨i, hi, e⟩ := List.mem_map.1 (show m ∈ (List.range n).map (fun i => startS i n LG.new DK.new) from hm)
  rw [← e]
  exact ⟨rfl, rfl⟩⟩
end V
end Go.Proofs.YtenfjpigffjgmaaGreat
set_option linter.unusedSimpArgs false
set_option linter.unusedVariables false
set_option maxRecDepth 100000
namespace Go.Proofs.YtenfjpigffjgmaaGreat
open Go.RowKit
namespace V
set_option maxHeartbeats 4000000
def addW (l : List Bs) (c : Bs) : List Bs := if c = [] then l else l ++ [c]
def GS.lone (G : GS) (c : Bs) : (Int × Int) × GS := (G.tickN 0 20).propose 0 c
structure LoneOK (I : Nat → GS → List Bs → Prop) : Prop where
  init : I 0 (GS.new 1) []
  at_ : ∀ k G l c, k < 10 → I k G l → c.length ≤ 100 → ¬ (G.lone c).1.1 = 0
  mem : ∀ (k : Nat) (G : GS) (l : List Bs) (c : Bs) (m : MS), k < 10 → I k G l → c.length ≤ 100 → (G.lone c).2.ms[0]? = some m → m.ap = (G.lone c).1.1 ∧ m.l = addW l c
  next : ∀ k G l c, k < 10 → I k G l → c.length ≤ 100 → I (k + 1) (G.lone c).2 (addW l c)
  fall : ∀ k G l c, k < 10 → I k G l → c.length ≤ 100 → I (k + 1) ((G.lone c).2.crash 0 0) (addW l c)
  net : ∀ k G l, I k G l → G.st.length = 0
theorem begins_self (l : List Bs) : beginsB l l = true := by unfold beginsB; exact decide_eq_true rfl
theorem groupLone_t {R : Hp} {C3 c3 d3 : Nat} {J3 : Nat → Nat → GS → Prop} (hB3 : Bud 3 C3 J3) (hj3 : J3 (c3 + 10 * (3 + 200) + 1 + 60 * (3 + 200)) (d3 + 10 * 3 + 1 + 60 * 3) (GS.new 3)) (t : Int) (haw : AwOK t)
    {C : Nat} {J : Nat → Nat → GS → Prop} (hB : Bud 1 C J) (hj : J 300 300 (GS.new 1)) {I : Nat → GS → List Bs → Prop} (hI : LoneOK I) (va vb : Value) (cmds : List Bs) (falls : List Bool) (h0 : slcR 1 strR R [va] cmds) (h1 : slcR 1 boolR R [vb] falls) :
    Tri Tryz.prog 5 [va, vb] R [] (fun v R' L' => v = .bool true) := by
  obtain ⟨hva, hcl⟩ := strs_in h0
  have hvb := bools_in h1
  obtain ⟨qa, ca, rfl, ha1, ha2⟩ := hva.shape
  obtain ⟨qb, cb, rfl, hb1, hb2⟩ := hvb.shape
  unfold maxLen at ha2 hb2 hcl
  refine tri_of Tryz.func5 rfl Tryz.ntmps5 rfl (fun σ F Q hret hend hpan => ?_)
  try simp only [cA, nA]
  refine cj_seq fun K1 hK1 => cj_region ?_
  refine Ps ?_
  refine rj_nil (hK1 _ _ _ (cj_seq fun K2 hK2 => cj_seq fun K3 hK3 => cj_region ?_))
  refine Ra Tryz.call9 (awake11_t hB3 hj3 t haw) ?_
  rintro r R1 L' hR1 ⟨rfl, rfl⟩
  try simp only [cA, nA]
  refine Pa (y_not rfl) ?_
  refine rj_nil (hK3 _ _ _ (cj_cond_f rfl (cj_skip (hK2 _ _ _ (cj_seq fun K4 hK4 => cj_seq fun K5 hK5 => cj_region ?_)))))
  refine Pm ?_
  first | refine Pa (y_len_sl Tryz.underlying42 rfl) ?_ | refine Pa (y_len_slc Tryz.underlying42 rfl fd_) ?_
  refine Pa (y_gtr rfl rfl) ?_
  refine rj_nil (hK5 _ _ _ ?_)
  refine cj_cond rfl (fun hc17 => ?_) (fun hc17 => ?_)
  try simp only [dT, dF, nT, nF, tF, fT] at hc17
  refine cj_seq fun K7 hK7 => cj_region ?_
  refine Ps ?_
  refine rj_nil (hK7 _ _ _ (cj_ret (hret _ _ _ ?_)))
  refine Ea Tryz.results5 (.cons (rv_tmp rfl) .nil) [] (by first | exact hR1 | exact hR3 | exact Hp.le_refl _) ?_
  rfl
  have hlen : cmds.length ≤ 10 := by have hz := hc17; simp only [decide_eq_false_iff_not] at hz; omega
  refine cj_skip (hK4 _ _ _ (cj_seq fun K8 hK8 => cj_region ?_))
  refine Ra Tryz.call19 (grNew_t 1 (by decide)) ?_
  rintro r R2 L' hR2 ⟨w, rfl, hok, rfl⟩
  try simp only [cA, nA]
  refine Pm ?_
  refine Pa (y_extract rfl rfl) ?_
  refine Pa (y_extract rfl rfl) ?_
  refine Ps ?_
  refine Ps ?_
  refine rj_nil (hK8 _ _ _ (cj_seq fun K9 hK9 => cj_seq fun K10 hK10 => cj_region ?_))
  refine Pm ?_
  refine Pa ((Yld.to (u := .bool false) (y_neq rfl rfl) (by simp))) ?_
  refine rj_nil (hK10 _ _ _ (cj_cond_f rfl (cj_skip (hK9 _ _ _ (cj_seq fun K11 hK11 => cj_region ?_)))))
  refine Ps ?_
  refine rj_add (A := lsS (.slice none 0 0) []) (slc_nil _ _) ?_
  refine rj_nil (hK11 _ _ _ (cj_seq fun K12 hK12 => cj_seq fun K13 hK13 => cj_region ?_))
  refine Pm ?_
  first | refine Pa (y_len_sl Tryz.underlying42 rfl) ?_ | refine Pa (y_len_slc Tryz.underlying42 rfl fd_) ?_
  refine Pm ?_
  refine rj_nil (hK13 _ _ _ (cj_block ?_))
  refine cj_env (E' := (fun (x : Nat × (GV × Value × Hp) × (GS × List Bs)) => [(1, .slice qb falls.length cb), (5, .pointer (some ⟨w.g, 0, none⟩)), (7, x.2.1.2.1), (24, .slice qa cmds.length ca), (25, .int .i64 (cmds.length : Int)), (26, .int .i64 (x.1 : Int))]) (0, (w, .slice none 0 0, R2), (GS.new 1, []))) (eC rfl (eC rfl (eC rfl (eC rfl (eC rfl (eC rfl eN)))))) ?_
  refine cj_sub (M := (fun (x : Nat × (GV × Value × Hp) × (GS × List Bs)) => lsS x.2.1.2.1 x.2.2.2 :: (grL x.2.1.1 x.2.2.1 ++ F)) (0, (w, .slice none 0 0, R2), (GS.new 1, []))) sb_ ?_
  refine cj_loop (fun (x : Nat × (GV × Value × Hp) × (GS × List Bs)) => [(1, .slice qb falls.length cb), (5, .pointer (some ⟨w.g, 0, none⟩)), (7, x.2.1.2.1), (24, .slice qa cmds.length ca), (25, .int .i64 (cmds.length : Int)), (26, .int .i64 (x.1 : Int))]) (fun (x : Nat × (GV × Value × Hp) × (GS × List Bs)) => x.2.1.2.2) (fun (x : Nat × (GV × Value × Hp) × (GS × List Bs)) => lsS x.2.1.2.1 x.2.2.2 :: (grL x.2.1.1 x.2.2.1 ++ F)) (fun (x : Nat × (GV × Value × Hp) × (GS × List Bs)) => x.1 ≤ cmds.length ∧ (∃ vn css vo cs, x.2.1.1 = ⟨w.g, w.va, w.n, vn, css, vo, cs⟩) ∧ GOk x.2.1.2.2 x.2.1.1 x.2.2.1 ∧ R.le x.2.1.2.2 ∧ J (300 - 30 * x.1) (300 - 30 * x.1) x.2.2.1 ∧ I x.1 x.2.2.1 x.2.2.2 ∧ x.2.1.2.1.oneCell' = true ∧ x.2.2.2.length ≤ x.1) (fun (x : Nat × (GV × Value × Hp) × (GS × List Bs)) => cmds.length - x.1) (0, (w, .slice none 0 0, R2), (GS.new 1, [])) (⟨by simp, ⟨_, _, _, _, rfl⟩, hok, Hp.le_trans hR1 hR2, by simpa using hj, hI.init, rfl, by simp⟩) ?_
  rintro ⟨i, ⟨w1, vw, R3⟩, ⟨G, wl⟩⟩ ⟨hi, hg1, hok1, hR3, hjG, hIG, hvw, hwl⟩
  try dsimp only
  dsimp only at hi hg1 hok1 hR3 hjG hIG hvw hwl
  obtain ⟨vn1, css1, vo1, cs1, rfl⟩ := hg1
  refine cj_seq fun K14 hK14 => cj_region ?_
  refine Pa (y_lss rfl rfl) ?_
  refine rj_nil (hK14 _ _ _ (cj_seq fun K15 hK15 => ?_))
  refine cj_cond rfl (fun hc27 => ?_) (fun hc27 => ?_)
  try simp only [dT, dF, nT, nF, tF, fT] at hc27
  refine cj_skip (hK15 _ _ _ (cj_seq fun K17 hK17 => cj_block (cj_seq fun K18 hK18 => ?_)))
  have hi2 : i < cmds.length := by have hz := hc27; omega
  obtain ⟨c, hc⟩ : ∃ x, cmds[i]? = some x := ⟨_, List.getElem?_eq_getElem hi2⟩
  obtain ⟨bb, off, cap', cs', hee, rfl, _, hcell⟩ := (hva.mono hR3).at hc
  obtain ⟨rfl, rfl⟩ : qa = some ⟨bb, off, none⟩ ∧ ca = cap' := by cases hee; exact ⟨rfl, rfl⟩
  have hcb := hcl c (List.mem_of_getElem? hc)
  refine cj_region ?_
  refine Pm ?_
  first | refine Pa (y_indexAddr Tryz.underlying42 Tryz.sizeOf9 rfl rfl om_) ?_ | refine Pa (y_index_slc Tryz.underlying42 Tryz.sizeOf9 rfl rfl fd_ om_) ?_
  refine Pa ((y_load_ro o9 rfl (hcell 0 (.string (str c)) rfl))) ?_
  refine Ps ?_
  refine Ps ?_
  refine rj_nil (hK18 _ _ _ ?_)
  refine cj_env (eL 1 rfl (eL 5 rfl (eL 7 rfl (eL 8 rfl (eL 9 rfl (eL 24 rfl (eL 25 rfl (eL 26 rfl eN)))))))) ?_
  refine cj_seq fun K19 hK19 => cj_seq fun K20 hK20 => cj_region ?_
  refine Pm ?_
  refine Pa (y_slen Tryz.underlying9 rfl) ?_
  refine Pa (y_gtr rfl rfl) ?_
  refine rj_nil (hK20 _ _ _ ?_)
  refine cj_cond rfl (fun hc33 => ?_) (fun hc33 => ?_)
  try simp only [dT, dF, nT, nF, tF, fT] at hc33
  refine cj_seq fun K22 hK22 => cj_region ?_
  refine Ps ?_
  refine rj_nil (hK22 _ _ _ (cj_ret (hret _ _ _ ?_)))
  refine Ea Tryz.results5 (.cons (rv_tmp rfl) .nil) [] (by first | exact hR1 | exact hR3 | exact Hp.le_refl _) ?_
  rfl
  have hc100 : c.length ≤ 100 := by have hz := hc33; simp only [decide_eq_false_iff_not] at hz; omega
  refine cj_skip (hK19 _ _ _ (cj_seq fun K23 hK23 => cj_seq fun K24 hK24 => ?_))
  have hjG2 : J (300 - 30 * (i + 1) + 10 + 20) (300 - 30 * (i + 1) + 10 + 20) G := by rw [show 300 - 30 * (i + 1) + 10 + 20 = 300 - 30 * i by omega]; exact hjG
  have hi10 : i < 10 := by omega
  have hat := hI.at_ i G wl c hi10 hIG hc100
  have hmm := hI.mem i G wl c
  have hnx := hI.next i G wl c hi10 hIG hc100
  have hfl := hI.fall i G wl c hi10 hIG hc100
  obtain ⟨cc, hcc⟩ : ∃ cc, cc = 300 - 30 * (i + 1) := ⟨_, rfl⟩
  rw [← hcc] at hjG2
  refine cj_region ?_
  refine Pm ?_
  refine rj_nil (hK24 _ _ _ (cj_block ?_))
  refine cj_env (E' := (fun (y : Nat × GV × Hp) => [(1, .slice qb falls.length cb), (5, .pointer (some ⟨w.g, 0, none⟩)), (7, vw), (8, .int .i64 (i : Int)), (9, .string (str c)), (24, .slice (some ⟨bb, off, none⟩) cmds.length ca), (25, .int .i64 (cmds.length : Int)), (26, .int .i64 (i : Int)), (34, .int .i64 (y.1 : Int))]) (0, ⟨w.g, w.va, w.n, vn1, css1, vo1, cs1⟩, R3)) (eC rfl (eC rfl (eC rfl (eC rfl (eC rfl (eC rfl (eC rfl (eC rfl (eC rfl eN))))))))) ?_
  refine cj_sub (M := (fun (y : Nat × GV × Hp) => lsS vw wl :: (grL y.2.1 (G.tickN 0 y.1) ++ F)) (0, ⟨w.g, w.va, w.n, vn1, css1, vo1, cs1⟩, R3)) sb_ ?_
  refine cj_loop (fun (y : Nat × GV × Hp) => [(1, .slice qb falls.length cb), (5, .pointer (some ⟨w.g, 0, none⟩)), (7, vw), (8, .int .i64 (i : Int)), (9, .string (str c)), (24, .slice (some ⟨bb, off, none⟩) cmds.length ca), (25, .int .i64 (cmds.length : Int)), (26, .int .i64 (i : Int)), (34, .int .i64 (y.1 : Int))]) (fun (y : Nat × GV × Hp) => y.2.2) (fun (y : Nat × GV × Hp) => lsS vw wl :: (grL y.2.1 (G.tickN 0 y.1) ++ F)) (fun (y : Nat × GV × Hp) => y.1 ≤ 20 ∧ (∃ vn css vo cs, y.2.1 = ⟨w.g, w.va, w.n, vn, css, vo, cs⟩) ∧ GOk y.2.2 y.2.1 (G.tickN 0 y.1) ∧ R3.le y.2.2) (fun (y : Nat × GV × Hp) => 20 - y.1) (0, ⟨w.g, w.va, w.n, vn1, css1, vo1, cs1⟩, R3) (⟨by simp, ⟨_, _, _, _, rfl⟩, hok1, Hp.le_refl _⟩) ?_
  rintro ⟨j, w2, R4⟩ ⟨hj1, hg2, hok2, hR4⟩
  try dsimp only
  dsimp only at hj1 hg2 hok2 hR4
  obtain ⟨vn2, css2, vo2, cs2, rfl⟩ := hg2
  refine cj_seq fun K25 hK25 => cj_region ?_
  refine Pa (y_lss rfl rfl) ?_
  refine rj_nil (hK25 _ _ _ (cj_seq fun K26 hK26 => ?_))
  refine cj_cond rfl (fun hc35 => ?_) (fun hc35 => ?_)
  try simp only [dT, dF, nT, nF, tF, fT] at hc35
  refine cj_skip (hK26 _ _ _ (cj_seq fun K28 hK28 => cj_block ?_))
  have hj2 : j < 20 := by have hz := hc35; omega
  have hjt := hB.tickN (show 0 < 1 by omega) (c := cc + 10 + (20 - j)) (d := cc + 10 + (20 - j)) (k := j) (by rw [show cc + 10 + (20 - j) + j = cc + 10 + 20 by omega]; exact hjG2)
  have hjt2 := hB.tick (cc + 10 + (20 - (j + 1))) (cc + 10 + (20 - (j + 1))) _ 0 (by omega) (by rw [show cc + 10 + (20 - (j + 1)) + 1 = cc + 10 + (20 - j) by omega]; exact hjt)
  refine cj_region ?_
  refine Pm ?_
  refine Ra Tryz.call26 (grTick_t ⟨w.g, w.va, w.n, vn2, css2, vo2, cs2⟩ (G.tickN 0 j) 0 hok2 (by rw [hB.ln _ _ _ hjt]; omega) (hB.gw _ _ _ hjt) (hB.gw _ _ _ hjt2)) ?_
  rintro x R5 L' hR5 ⟨vn3, css3, vo3, cs3, hok3, rfl⟩
  try simp only [cA, nA]
  refine rj_nil (hK28 _ _ _ (cj_region ?_))
  first | refine Pa (y_add64 rfl rfl om_) ?_ | refine Pa (y_add rfl rfl) ?_
  refine Pm ?_
  refine rj_nil ?_
  refine ej_on (q' := roundK _ _ _ _ _ _ _) rfl ?_
  refine ej_round ((j + 1, ⟨w.g, w.va, w.n, vn3, css3, vo3, cs3⟩, R5)) (⟨by dsimp only; omega, ⟨_, _, _, _, rfl⟩, hok3, Hp.le_trans hR4 hR5⟩) (by dsimp only; omega) (eC rfl (eC rfl (eC rfl (eC rfl (eC rfl (eC rfl (eC rfl (eC rfl (eC rfl eN))))))))) rfl sb_
  try simp only [dT, dF, nT, nF, tF, fT] at hc35
  refine cj_exit (hK23 _ _ _ (cj_seq fun K29 hK29 => cj_seq fun K30 hK30 => ?_))
  have hj20 : j = 20 := by have hz := hc35; omega
  rw [hj20] at hok2 ⊢
  have hjt := hB.tickN (show 0 < 1 by omega) (c := cc + 10) (d := cc + 10) (k := 20) hjG2
  obtain ⟨H, hH⟩ : ∃ H, H = G.tickN 0 20 := ⟨_, rfl⟩
  rw [← hH] at hok2 hjt ⊢
  have hjp := hB.prop (cc + 9) (cc + 9) _ 0 c (by omega) hc100 hjt
  obtain ⟨P, hP⟩ : ∃ P, P = G.lone c := ⟨_, rfl⟩
  have hPe : H.propose 0 c = P := by rw [hH, hP]; rfl
  rw [hPe] at hjp
  rw [← hP] at hat hmm hnx hfl
  clear hP
  obtain ⟨m0, hm0⟩ : ∃ m, P.2.ms[0]? = some m := ⟨_, List.getElem?_eq_getElem (by rw [hB.ln _ _ _ hjp]; omega)⟩
  obtain ⟨hma, hml⟩ := hmm m0 hi10 hIG hc100 hm0
  have hawl : (addW wl c).length ≤ wl.length + 1 := by unfold addW; split <;> simp
  obtain ⟨W, hW⟩ : ∃ W, W = addW wl c := ⟨_, rfl⟩
  refine cj_region ?_
  refine Pm ?_
  refine Pm ?_
  refine Ra Tryz.call16 (grPropose_t ⟨w.g, w.va, w.n, vn2, css2, vo2, cs2⟩ H 0 c hc100 hok2 (by rw [hB.ln _ _ _ hjt]; omega) (hB.gw _ _ _ hjt) (by rw [hPe]; exact hB.gw _ _ _ hjp)) ?_
  rintro x R6 L' hR6 ⟨rfl, vn4, css4, vo4, cs4, hok4, rfl⟩
  rw [hPe] at hok4 ⊢
  clear hPe hH
  obtain ⟨c0, hc0, _, _⟩ := hok4.at hm0
  try simp only [cA, nA]
  refine Pm ?_
  refine Pa (y_extract rfl rfl) ?_
  refine Pa (y_extract rfl rfl) ?_
  refine Ps ?_
  refine Ps ?_
  refine rj_nil (hK30 _ _ _ (cj_seq fun K31 hK31 => cj_region ?_))
  refine Pm ?_
  refine Pa ((Yld.to (u := .bool false) (y_eql rfl rfl) (by rw [decide_eq_false hat]))) ?_
  refine Pm ?_
  refine Pb (y_move rfl) ?_
  refine Pb (Ca Tryz.call18 ((gApplied_q (w := ⟨w.g, w.va, w.n, vn4, css4, vo4, cs4⟩) (i := 0) hc0 hm0).eq3 (by rw [hma]))) ?_
  refine Pb (y_move rfl) ?_
  refine Pb ((Yld.to (u := .bool false) (y_neq rfl rfl) (by simp))) ?_
  refine Pa (y_pick_f rfl rfl) ?_
  refine rj_nil (hK31 _ _ _ ?_)
  refine cj_env (eL 1 rfl (eL 5 rfl (eL 7 rfl (eL 8 rfl (eL 9 rfl (eL 24 rfl (eL 25 rfl (eL 26 rfl (eL 52 rfl eN))))))))) ?_
  refine cj_cond_f rfl (cj_skip (hK29 _ _ _ (cj_seq fun K32 hK32 => ?_)))
  have hJ23 : ∀ (z : Value), z.oneCell' = true → EJ ⟨Tryz.prog, 89, σ⟩ K32 [(1, .slice qb falls.length cb), (5, .pointer (some ⟨w.g, 0, none⟩)), (7, z), (8, .int .i64 (i : Int)), (24, .slice (some ⟨bb, off, none⟩) cmds.length ca), (25, .int .i64 (cmds.length : Int)), (26, .int .i64 (i : Int))] R6 (lsS z W :: (grL ⟨w.g, w.va, w.n, vn4, css4, vo4, cs4⟩ P.2 ++ F)) := by
    rintro vw2 hvw2
    try dsimp only
    refine hK32 _ _ _ (cj_seq fun K33 hK33 => cj_seq fun K34 hK34 => ?_)
    subst hW
    refine cj_pure (A := grA ⟨w.g, w.va, w.n, vn4, css4, vo4, cs4⟩ P.2) fd_ (vl_shape hc0 hm0) (fun hq => ?_)
    obtain ⟨q0, cap0, hq0⟩ := hq
    refine cj_pure (A := lsS vw2 (addW wl c)) fd_ slc_shape (fun hsb => ?_)
    obtain ⟨q1, cap1, rfl, _, _, _⟩ := hsb
    refine cj_region ?_
    refine Pm ?_
    refine Pa (Ca Tryz.call17 ((gDid_q (w := ⟨w.g, w.va, w.n, vn4, css4, vo4, cs4⟩) (i := 0) hc0 hm0).eq3 hq0)) ?_
    refine Ps ?_
    refine rj_nil (hK34 _ _ _ (cj_seq fun K35 hK35 => cj_region ?_))
    refine Pm ?_
    first | refine Pa (y_len_sl Tryz.underlying42 rfl) ?_ | refine Pa (y_len_slc Tryz.underlying42 rfl fd_) ?_
    refine Pm ?_
    first | refine Pa (y_len_sl Tryz.underlying42 rfl) ?_ | refine Pa (y_len_slc Tryz.underlying42 rfl fd_) ?_
    refine Pa ((Yld.to (u := .bool false) (y_neq rfl rfl) (by rw [hml]; simp))) ?_
    refine Pm ?_
    refine Pb (y_move rfl) ?_
    refine Pb (y_move rfl) ?_
    refine Pb (Ca Tryz.call27 ((hq0 ▸ (gBegins_q (w := ⟨w.g, w.va, w.n, vn4, css4, vo4, cs4⟩) (i := 0) hc0 hm0 _ (addW wl c))).eq3 (v' := .bool true) (by rw [hml, begins_self]))) ?_
    refine Pb (y_not rfl) ?_
    refine Pa (y_pick_f rfl rfl) ?_
    refine rj_nil (hK35 _ _ _ (cj_cond_f rfl (cj_skip (hK33 _ _ _ (cj_seq fun K36 hK36 => cj_region ?_)))))
    refine Pm ?_
    refine Pm ?_
    first | refine Pa (y_len_sl Tryz.underlying63 rfl) ?_ | refine Pa (y_len_slc Tryz.underlying63 rfl fd_) ?_
    refine Pa (y_lss rfl rfl) ?_
    refine Pm ?_
    refine rj_part 76 rfl (fun hg76 => ?_) (fun hg76 => ?_)
    try simp only [dT, dF, nT, nF, tF, fT] at hg76
    have hi3 : i < falls.length := by have hz := hg76; omega
    obtain ⟨f, hf⟩ : ∃ x, falls[i]? = some x := ⟨_, List.getElem?_eq_getElem hi3⟩
    obtain ⟨bb2, off2, cap2, cs2', hee2, rfl, _, hcell2⟩ := (hvb.mono (Hp.le_trans hR3 (Hp.le_trans hR4 hR6))).at hf
    obtain ⟨rfl, rfl⟩ : qb = some ⟨bb2, off2, none⟩ ∧ cb = cap2 := by cases hee2; exact ⟨rfl, rfl⟩
    refine Pb (y_move rfl) ?_
    refine Pb (y_move rfl) ?_
    first | refine Pb (y_indexAddr Tryz.underlying63 Tryz.sizeOf4 rfl rfl om_) ?_ | refine Pb (y_index_slc Tryz.underlying63 Tryz.sizeOf4 rfl rfl fd_ om_) ?_
    refine Pb ((y_load_ro o4 rfl (hcell2 0 (.bool f) rfl))) ?_
    refine Pa (y_pick_t rfl rfl) ?_
    refine rj_nil (hK36 _ _ _ ?_)
    refine cj_env (eL 1 rfl (eL 5 rfl (eL 7 rfl (eL 24 rfl (eL 25 rfl (eL 26 rfl (eL 81 rfl eN))))))) ?_
    refine cj_cond rfl (fun hc81 => ?_) (fun hc81 => ?_)
    try simp only [dT, dF, nT, nF, tF, fT] at hc81
    refine cj_region ?_
    refine Pm ?_
    refine Ra Tryz.call12 (grCrash_t ⟨w.g, w.va, w.n, vn4, css4, vo4, cs4⟩ P.2 0 0 hok4 (by rw [hB.ln _ _ _ hjp]; omega) (hB.gw _ _ _ hjp) (fun m hm => hB.opens (cc + 8) (cc + 9) P.2 0 m 0 hjp hm)) ?_
    rintro x R7 L' hR7 ⟨vn5, css5, vo5, cs5, hok5, rfl⟩
    have hjc := hB.crash (cc + 8) (cc + 9) P.2 0 0 (by omega) hjp
    try simp only [cA, nA]
    refine rj_nil (hK17 _ _ _ (cj_region ?_))
    first | refine Pa (y_add64 rfl rfl om_) ?_ | refine Pa (y_add rfl rfl) ?_
    refine Pm ?_
    refine rj_nil ?_
    refine ej_on (q' := roundK _ _ _ _ _ _ _) rfl ?_
    refine ej_round ((i + 1, (⟨w.g, w.va, w.n, vn5, css5, vo5, cs5⟩, (.slice q1 (addW wl c).length cap1), R7), (P.2.crash 0 0, addW wl c))) (⟨by dsimp only; omega, ⟨_, _, _, _, rfl⟩, hok5, Hp.le_trans hR3 (Hp.le_trans hR4 (Hp.le_trans hR6 hR7)), by dsimp only; rw [← hcc]; exact hB.leq (by omega) (by omega) hjc, hfl, rfl, by dsimp only; omega⟩) (by dsimp only; omega) (eC rfl (eC rfl (eC rfl (eC rfl (eC rfl (eC rfl eN)))))) rfl sb_
    try simp only [dT, dF, nT, nF, tF, fT] at hc81
    refine cj_skip (hK17 _ _ _ (cj_region ?_))
    first | refine Pa (y_add64 rfl rfl om_) ?_ | refine Pa (y_add rfl rfl) ?_
    refine Pm ?_
    refine rj_nil ?_
    refine ej_on (q' := roundK _ _ _ _ _ _ _) rfl ?_
    refine ej_round ((i + 1, (⟨w.g, w.va, w.n, vn4, css4, vo4, cs4⟩, (.slice q1 (addW wl c).length cap1), R6), (P.2, addW wl c))) (⟨by dsimp only; omega, ⟨_, _, _, _, rfl⟩, hok4, Hp.le_trans hR3 (Hp.le_trans hR4 hR6), by dsimp only; rw [← hcc]; exact hB.leq (by omega) (by omega) hjp, hnx, rfl, by dsimp only; omega⟩) (by dsimp only; omega) (eC rfl (eC rfl (eC rfl (eC rfl (eC rfl (eC rfl eN)))))) rfl sb_
    try simp only [dT, dF, nT, nF, tF, fT] at hg76
    refine Pk ?_
    refine Pk ?_
    refine Pk ?_
    refine Pk ?_
    refine Pa (y_pick_f rfl rfl) ?_
    refine rj_nil (hK36 _ _ _ (cj_cond_f rfl (cj_skip (hK17 _ _ _ (cj_region ?_)))))
    first | refine Pa (y_add64 rfl rfl om_) ?_ | refine Pa (y_add rfl rfl) ?_
    refine Pm ?_
    refine rj_nil ?_
    refine ej_on (q' := roundK _ _ _ _ _ _ _) rfl ?_
    refine ej_round ((i + 1, (⟨w.g, w.va, w.n, vn4, css4, vo4, cs4⟩, (.slice q1 (addW wl c).length cap1), R6), (P.2, addW wl c))) (⟨by dsimp only; omega, ⟨_, _, _, _, rfl⟩, hok4, Hp.le_trans hR3 (Hp.le_trans hR4 hR6), by dsimp only; rw [← hcc]; exact hB.leq (by omega) (by omega) hjp, hnx, rfl, by dsimp only; omega⟩) (by dsimp only; omega) (eC rfl (eC rfl (eC rfl (eC rfl (eC rfl (eC rfl eN)))))) rfl sb_
  refine cj_seq fun K38 hK38 => cj_region ?_
  refine Pm ?_
  refine Pa (y_sneq rfl rfl) ?_
  refine rj_nil (hK38 _ _ _ ?_)
  refine cj_cond rfl (fun hc54 => ?_) (fun hc54 => ?_)
  have hcn : ¬ c = [] := by simpa using hc54
  have hwn : W = wl ++ [c] := by rw [hW]; unfold addW; rw [if_neg hcn]
  refine cj_region ?_
  refine Pm ?_
  refine Pm ?_
  refine rj_buildSlice (sz := 1) (wn0 rfl) rfl Tryz.underlying42 Tryz.sizeOf9 Tryz.zeroValue9 rfl rfl rfl (by decide) (by decide) (fun bz => ?_)
  refine rj_append (sz := 1) (by_ := 16) ⟨Tryz.underlying42, _, _, rfl, rfl, rfl, rfl, rfl⟩ (wn0 rfl) rfl rfl rfl fd_ (src_slc (xs := [.string (str c)]) Tryz.underlying42 fd_ (by (first | (simp [Value.oneCell']; done) | (intro u hu; simp only [List.mem_cons, List.not_mem_nil, or_false] at hu; rcases hu with rfl | rfl | rfl | rfl <;> first | rfl | assumption)))) rfl om_ (by simp only [maxLen]; omega) (fun v58 ho58 hh58 => ?_)
  rw [bsV_snoc, show wl.length + 1 = (wl ++ [c]).length by simp]
  refine rj_turn (A := lsS v58 (wl ++ [c])) (B := lsS v58 W) fd_ (fun h hh => hwn ▸ hh) ?_
  refine Ps ?_
  refine rj_nil ?_
  refine ej_join hJ23 (v58) (by assumption) (eC rfl (eC rfl (eC rfl (eC rfl (eC rfl (eC rfl (eC rfl eN))))))) rfl sb_
  have hcn : c = [] := by simpa using hc54
  have hwn : W = wl := by rw [hW]; unfold addW; rw [if_pos hcn]
  rw [← hwn]
  refine cj_skip ?_
  refine ej_join hJ23 (vw) (hvw) (eC rfl (eC rfl (eC rfl (eC rfl (eC rfl (eC rfl (eC rfl eN))))))) rfl sb_
  try simp only [dT, dF, nT, nF, tF, fT] at hc27
  refine cj_exit (hK12 _ _ _ (cj_seq fun K40 hK40 => ?_))
  obtain hk : True := trivial
  refine cj_region ?_
  refine Pm ?_
  refine Pa (Ca Tryz.call28 (grNet_q ⟨w.g, w.va, w.n, vn1, css1, vo1, cs1⟩)) ?_
  refine Pa (Ca Tryz.call29 (netLen_q w.n vn1 G.last G.st css1)) ?_
  refine Pa ((Yld.to (u := .bool true) (y_eql rfl rfl) (by rw [hI.net i G wl hIG]; simp))) ?_
  refine Ps ?_
  refine rj_nil (hK40 _ _ _ ?_)
  refine cj_env (eL 4 rfl eN) ?_
  refine cj_ret (hret _ _ _ ?_)
  refine Ea Tryz.results5 (.cons (rv_tmp rfl) .nil) [] (by first | exact hR1 | exact hR3 | exact Hp.le_refl _) ?_
  rfl
end V
end Go.Proofs.YtenfjpigffjgmaaGreat
