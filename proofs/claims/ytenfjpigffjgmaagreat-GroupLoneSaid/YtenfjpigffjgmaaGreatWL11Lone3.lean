/- Parts that the texts behind stand on: T9i, T9j, T9k, T9l, T9m, T9n, T9q, T9u, T9w, T9v, T10a, T10b, T10c, T3i, T3j, V24. -/
import Derived.Test.YtenfjpigffjgmaaGreatWL11Lone2
set_option linter.unusedSimpArgs false
set_option linter.unusedVariables false
set_option maxRecDepth 100000
namespace Go.Proofs.YtenfjpigffjgmaaGreat
open Go.RowKit
namespace V
set_option maxHeartbeats 4000000
theorem fits_yes {g : LG} {e : Ent} {l : List Ent} {i : Int} (h : (g.at i).map (·.1) = some e.1) : ND.fits g (e :: l) i = ND.fits g l (i + 1) := by show (if _ then _ else _) = _; rw [if_pos h]
theorem fits_no {g : LG} {e : Ent} {l : List Ent} {i : Int} (h : ¬ (g.at i).map (·.1) = some e.1) : ND.fits g (e :: l) i = some (i, e :: l) := by show (if _ then _ else _) = _; rw [if_neg h]
theorem NIn.commits {k : Nat} {x : ND} (h : NIn k x) (m : Msg) (hm : 0 ≤ m.commit) {last : Int} (hl : 0 ≤ last ∧ last ≤ 150000000000000) : NIn k (x.commits m last) :=
  ⟨h.idn, h.term, h.vote, h.base, h.baseT, h.state, h.alln, h.all, by have := h.commit; show 0 ≤ max x.commit (min m.commit last) ∧ max x.commit (min m.commit last) ≤ _; omega, h.patience, h.peers, h.peer, h.votes, h.out⟩
theorem cutM_b {k : Nat} {x : ND} {m : Msg} (hx : NIn k x) (hm : MIn k x.n m) : (0 ≤ (x.cutM m).1 ∧ (x.cutM m).1 ≤ 100000000000000) ∧ (x.cutM m).2.length ≤ 20 ∧ ∀ e ∈ (x.cutM m).2, (0 ≤ e.1 ∧ e.1 ≤ 2305843009213693952 + k) ∧ e.2.length ≤ 100 := by
  have h1 := hx.base
  have h2 := hm.index
  have h3 := hm.es
  unfold ND.cutM
  split
  · exact ⟨h1, by simp; omega, fun e he => h3.2 e (List.mem_of_mem_drop he)⟩
  · exact ⟨h2, h3⟩
theorem termAt_some {g : LG} {i t : Int} : ¬ g.termAt i = some t ↔ (g.termAt i).isSome = false ∨ ¬ (g.termAt i).getD 0 = t := by
  cases g.termAt i <;> simp
theorem ents_small {l : List Ent} (h : l.length ≤ 20) (hb : ∀ e ∈ l, e.2.length ≤ 100) : entsLen l ≤ 16000000 := by
  have : ∀ (l : List Ent), (∀ e ∈ l, e.2.length ≤ 100) → entsLen l ≤ 120 * l.length := by
    intro l
    induction l with
    | nil => intro _; simp [entsLen]
    | cons e l ih =>
      intro h
      have h1 := ih (fun x hx => h x (by simp [hx]))
      have h2 := h e (by simp)
      simp [entsLen] at h1 ⊢; omega
  have := this l hb
  omega
def restN (x : ND) (D : DK) (m : Msg) (c : Int × List Ent) : Bool × NS := match ND.fits x.g c.2 (c.1 + 1) with
  | none => (true, ((x.commits m (c.1 + c.2.length)).answer m true (c.1 + c.2.length), D))
  | some (i, l) => if i ≤ x.commit then (true, (x, D)) else bindN (mustN (x, D) (x.g.addD D (i - 1) l)) fun s => (true, ((s.1.commits m (c.1 + c.2.length)).answer m true (c.1 + c.2.length), s.2))
theorem addN_eq {x : ND} {D : DK} {m : Msg} (h1 : ¬ (m.index < x.g.base ∧ (m.es.length : Int) < x.g.base - m.index)) (h2 : ¬ (¬ m.index < x.g.base ∧ ¬ x.g.termAt m.index = some m.logTerm)) :
    addN (x, D) m = restN x D m (x.cutM m) := by
  unfold addN
  rw [if_neg h1, if_neg h2]
  rfl
theorem restN_none {x : ND} {D : DK} {m : Msg} {bh : Int} {l : List Ent} (h : ND.fits x.g l (bh + 1) = none) : restN x D m (bh, l) = (true, ((x.commits m (bh + l.length)).answer m true (bh + l.length), D)) := by
  unfold restN; simp only [h]
theorem restN_some {x : ND} {D : DK} {m : Msg} {bh i : Int} {l l2 : List Ent} (h : ND.fits x.g l (bh + 1) = some (i, l2)) : restN x D m (bh, l) = if i ≤ x.commit then (true, (x, D)) else bindN (mustN (x, D) (x.g.addD D (i - 1) l2)) fun s => (true, ((s.1.commits m (bh + l.length)).answer m true (bh + l.length), s.2)) := by
  unfold restN; simp only [h]
theorem drop_cons {α : Type} {l : List α} {i : Nat} {e : α} (h : l[i]? = some e) : l.drop i = e :: l.drop (i + 1) := by
  have hi := (List.getElem?_eq_some_iff.1 h).1
  rw [List.drop_eq_getElem_cons hi]
  rw [List.getElem?_eq_getElem hi] at h
  cases h; rfl
theorem add_t {R : Hp} (b : NB) (v : NV) (x : ND) (D : DK) (m : Msg) (ve : Value) (k n : Nat) (hk : k ≤ 50) (hx : NIn k x) (hv : NOk R v x) (hm : MIn k x.n m) (hve : FrX entE R m.es ve) (hD : D.ok n) (hn : n ≤ 800000000) :
    Tri Tryz.prog 98 [.pointer (some ⟨b.x, 0, none⟩), .agg ⟨msgC m ve⟩] R (ndL b v x D) (NRet b (addN (x, D) m)) (NPan b (addN (x, D) m)) := by
  have hidn := hx.idn
  have hveo := hve.one
  have hidx := hm.index
  have hbs := hx.base
  have hob := hx.out
  have hes := hm.es
  have hg := hx.g (by omega)
  have hlb := LG.last_b hg
  have hcm := hm.commit
  have hco := hx.commit
  obtain ⟨hc1, hc2, hc3⟩ := cutM_b hx hm
  obtain ⟨qe, ce, rfl, hqe1, hqe2⟩ := hve.shape
  have hva := hv.va
  have hterm := hx.term
  refine tri_of Tryz.func98 rfl Tryz.ntmps98 rfl (fun σ F Q hret hend hpan => ?_)
  try simp only [cA, nA]
  refine cj_seq fun K1 hK1 => ?_
  refine cj_region ?_
  refine rj_box (wn0 rfl) rfl rfl rfl (fun b3 => ?_)
  refine rj_nil ?_
  refine hK1 _ _ _ ?_
  refine cj_seq fun K2 hK2 => ?_
  refine cj_draw (by kernel_rfl) (by kernel_rfl) ?_
  refine Qa (Ga Tryz.underlying117 Tryz.sizeOf36) ?_
  first | refine Qa (La o36) ?_ | refine Qa (Ls o36) ?_
  refine Qa (Ga Tryz.underlying117 Tryz.sizeOf76) ?_
  first | refine Qa (La o76) ?_ | refine Qa (Ls o76) ?_
  refine Qa (y_assign rfl) ?_
  refine Qa (y_assign rfl) ?_
  refine qj_nil ?_
  refine hK2 _ _ _ ?_
  refine cj_seq fun K3 hK3 => ?_
  have hJ11 : ∀ (x1 : Int × List Ent × Value), (x1.1, x1.2.1) = x.cutM m ∧ FrX entE R x1.2.1 x1.2.2 ∧ addN (x, D) m = restN x D m (x1.1, x1.2.1) → EJ ⟨Tryz.prog, 150, σ⟩ K3 [(0, .pointer (some ⟨b.x, 0, none⟩)), (3, .pointer (some ⟨b3, 0, none⟩)), (4, .int .u64 x1.1), (5, x1.2.2)] R (blk b3 (msgC m (.slice qe m.es.length ce)) 117 :: ndB b v x :: lgN b v x :: dkB b.d v.u D :: dkS v.u D :: prA v x :: mpA v.vm x.votes :: outA v x :: F) := by
   rintro ⟨bh, l, vl⟩ ⟨hcut, hl, hnot⟩
   try dsimp only
   dsimp only at hcut hl hnot
   have hbh := hc1
   rw [← hcut] at hbh hc2 hc3
   dsimp only at hbh hc2 hc3
   obtain ⟨ql, cl, rfl, hql1, hql2⟩ := hl.shape
   refine hK3 _ _ _ ?_
   refine cj_seq fun K4 hK4 => ?_
   refine cj_region ?_
   refine Pm ?_
   refine Pm ?_
   first | refine Pa (y_len_sl Tryz.underlying76 rfl) ?_ | refine Pa (y_len_slc Tryz.underlying76 rfl fd_) ?_
   refine Pa ((y_conv_in Tryz.underlying3 Tryz.underlying36 rfl (by (simp only [IntKind.min, IntKind.max, IntKind.signed, IntKind.bits, Bool.false_eq_true, ite_false, ite_true]; omega)))) ?_
   refine Pa ((y_addu rfl rfl (by omega))) ?_
   refine Ps ?_
   refine rj_nil ?_
   refine hK4 _ _ _ ?_
   refine cj_seq fun K5 hK5 => ?_
   have hJ21 : ∀ (x2 : ND × NV × DK × Hp), NIn (k + 1) x2.1 ∧ NOk x2.2.2.2 x2.2.1 x2.1 ∧ R.le x2.2.2.2 ∧ addN (x, D) m = (true, ((x2.1.commits m (bh + l.length)).answer m true (bh + l.length), x2.2.2.1)) → EJ ⟨Tryz.prog, 150, σ⟩ K5 [(0, .pointer (some ⟨b.x, 0, none⟩)), (3, .pointer (some ⟨b3, 0, none⟩)), (12, .int .u64 (bh + (l.length : Int)))] x2.2.2.2 (blk b3 (msgC m (.slice qe m.es.length ce)) 117 :: ndB b x2.2.1 x2.1 :: lgN b x2.2.1 x2.1 :: dkB b.d x2.2.1.u x2.2.2.1 :: dkS x2.2.1.u x2.2.2.1 :: prA x2.2.1 x2.1 :: mpA x2.2.1.vm x2.1.votes :: outA x2.2.1 x2.1 :: F) := by
    rintro ⟨y, v2, D2, R2⟩ ⟨hy, hv2, hR2, hF⟩
    try dsimp only
    dsimp only at hy hv2 hR2 hF
    have hyo := hy.out
    have hyc := hy.commits m hcm.1 (last := bh + l.length) (by omega)
    refine hK5 _ _ _ ?_
    refine cj_seq fun K6 hK6 => ?_
    refine cj_mixg (L := [blk b3 (msgC m (.slice qe m.es.length ce)) 117, ndB b v2 y]) [0, 1, 2, 3, 4, 5, 6, 7, 8, 9, 10, 11] [] [12] _ sb_ (by kernel_rfl) (by kernel_rfl) (by kernel_rfl) rfl ?_
    refine Wa rfl (fun R1 hR1 G => (y_move rfl)) ?_
    refine Wa rfl (fun R1 hR1 G => (y_move rfl)) ?_
    refine Wa rfl (fun R1 hR1 G => (y_nilCheck rfl)) ?_
    refine Wa rfl (fun R1 hR1 G => (Ga Tryz.underlying109 Tryz.sizeOf36)) ?_
    first | refine Wa rfl (fun R1 hR1 G => (La o36)) ?_ | refine Wa rfl (fun R1 hR1 G => (Ls o36)) ?_
    refine Wa rfl (fun R1 hR1 G => (Ga Tryz.underlying117 Tryz.sizeOf36)) ?_
    first | refine Wa rfl (fun R1 hR1 G => (La o36)) ?_ | refine Wa rfl (fun R1 hR1 G => (Ls o36)) ?_
    refine Wa rfl (fun R1 hR1 G => (y_move rfl)) ?_
    refine Wa rfl (fun R1 hR1 G => (y_min rfl rfl)) ?_
    refine Wa rfl (fun R1 hR1 G => (y_max rfl rfl)) ?_
    refine Wa rfl (fun R1 hR1 G => (y_nilCheck rfl)) ?_
    refine Wa rfl (fun R1 hR1 G => (Ga Tryz.underlying109 Tryz.sizeOf36)) ?_
    refine fj_nil ?_
    refine xj_nil ?_
    try simp only [cA, nA, List.append_nil]
    refine Sa o36 ?_
    refine rj_nil ?_
    refine hK6 _ _ _ ?_
    refine cj_env (eL 0 rfl (eL 3 rfl (eL 12 rfl eN))) ?_
    refine cj_region ?_
    refine Pm ?_
    first | refine Pa (Lb m117) ?_ | refine Pa (y_loads_slc m117 rfl fd_ rfl rfl om_) ?_
    refine Pm ?_
    refine Ra Tryz.call97 (answer_t b v2 (y.commits m (bh + l.length)) m (.slice qe m.es.length ce) true (bh + l.length) hv2.out hv2.vo (by show y.out.length ≤ _; omega) hveo) ?_
    rintro r R6 L' hR6 ⟨vo, css, hels, hvo2, rfl⟩
    have hR26 := Hp.le_trans hR2 hR6
    try simp only [cA, nA]
    refine rj_nil ?_
    refine hend _ _ _ ?_
    apply ej_end Tryz.results98 .nil _ (ndL b (v2.sent vo css) ((y.commits m (bh + l.length)).answer m true (bh + l.length)) D2) (by first | exact Hp.le_refl _ | assumption) rfl
    case hp => rw [hF]; exact ⟨rfl, _, hv2.sent (y := (y.commits m (bh + l.length)).answer m true (bh + l.length)) hR6 ⟨rfl, rfl⟩ hels hvo2, rfl⟩
    case hS => exact sb_
   refine cj_seq fun K7 hK7 => ?_
   refine cj_region ?_
   refine Pm ?_
   first | refine Pa (y_len_sl Tryz.underlying76 rfl) ?_ | refine Pa (y_len_slc Tryz.underlying76 rfl fd_) ?_
   refine Pm ?_
   refine rj_nil ?_
   refine hK7 _ _ _ ?_
   refine cj_block ?_
   refine cj_env (E' := (fun (x3 : Nat) => [(0, .pointer (some ⟨b.x, 0, none⟩)), (3, .pointer (some ⟨b3, 0, none⟩)), (4, .int .u64 bh), (5, .slice ql l.length cl), (12, .int .u64 (bh + (l.length : Int))), (86, .slice ql l.length cl), (87, .int .i64 (l.length : Int)), (88, .int .i64 (x3 : Int))]) 0) (eC rfl (eC rfl (eC rfl (eC rfl (eC rfl (eC rfl (eC rfl (eC rfl eN)))))))) ?_
   refine cj_sub (M := (fun (x3 : Nat) => blk b3 (msgC m (.slice qe m.es.length ce)) 117 :: ndB b v x :: lgN b v x :: dkB b.d v.u D :: dkS v.u D :: prA v x :: mpA v.vm x.votes :: outA v x :: F) 0) sb_ ?_
   refine cj_loop (fun (x3 : Nat) => [(0, .pointer (some ⟨b.x, 0, none⟩)), (3, .pointer (some ⟨b3, 0, none⟩)), (4, .int .u64 bh), (5, .slice ql l.length cl), (12, .int .u64 (bh + (l.length : Int))), (86, .slice ql l.length cl), (87, .int .i64 (l.length : Int)), (88, .int .i64 (x3 : Int))]) (fun (x3 : Nat) => R) (fun (x3 : Nat) => blk b3 (msgC m (.slice qe m.es.length ce)) 117 :: ndB b v x :: lgN b v x :: dkB b.d v.u D :: dkS v.u D :: prA v x :: mpA v.vm x.votes :: outA v x :: F) (fun (x3 : Nat) => x3 ≤ l.length ∧ ND.fits x.g l (bh + 1) = ND.fits x.g (l.drop x3) (bh + 1 + x3)) (fun (x3 : Nat) => l.length - x3) 0 (⟨by simp, by simp⟩) ?_
   rintro i ⟨hi, hfk⟩
   try dsimp only
   refine cj_seq fun K8 hK8 => ?_
   refine cj_region ?_
   refine Pa (y_lss rfl rfl) ?_
   refine rj_nil ?_
   refine hK8 _ _ _ ?_
   refine cj_seq fun K9 hK9 => ?_
   refine cj_cond rfl (fun hc89 => ?_) (fun hc89 => ?_)
   ·try simp only [dT, dF, nT, nF, tF, fT] at hc89
    refine cj_skip ?_
    refine hK9 _ _ _ ?_
    refine cj_seq fun K11 hK11 => ?_
    refine cj_block ?_
    refine cj_seq fun K12 hK12 => ?_
    refine cj_region ?_
    have hin : i < l.length := by (try simp at hc89); omega
    obtain ⟨e, he⟩ : ∃ e, l[i]? = some e := ⟨_, List.getElem?_eq_getElem hin⟩
    obtain ⟨be, oe, ce', cse, hee, rfl, _, hcell⟩ := hl.at he
    obtain ⟨rfl, rfl⟩ : ql = some ⟨be, oe, none⟩ ∧ cl = ce' := by cases hee; exact ⟨rfl, rfl⟩
    have hat := lgAt_q (R := R) b.l (some ⟨b.d, 0, none⟩) v.va x.g hg hva (bh + 1 + i) (by unfold u64B; omega)
    obtain ⟨eo, ok, hev, hok1, hok2⟩ := entV_cases (x.g.at (bh + 1 + i))
    have heb := hc3 e (List.mem_of_getElem? he)
    refine Pm ?_
    first | refine Pa (y_indexAddr Tryz.underlying76 Tryz.sizeOf93 rfl rfl om_) ?_ | refine Pa (y_index_slc Tryz.underlying76 Tryz.sizeOf93 rfl rfl fd_ om_) ?_
    refine Pa ((y_loads_ro m93 (vs := entC e) rfl rfl (fun j u hj => hcell j u hj))) ?_
    refine rj_alloc (wn0 rfl) rfl Tryz.zeroValue93 rfl (fun b14 => ?_)
    refine Ps ?_
    refine Sm (vs := entC e) m93 (entE.one (R := R) (x := e) rfl) ?_
    refine rj_nil ?_
    refine hK12 _ _ _ ?_
    refine cj_seq fun K13 hK13 => ?_
    refine cj_region ?_
    refine Pm ?_
    refine Pa ((y_addu rfl rfl (by omega))) ?_
    refine Pm ?_
    refine Pa ((y_conv_in Tryz.underlying3 Tryz.underlying36 rfl (by (simp only [IntKind.min, IntKind.max, IntKind.signed, IntKind.bits, Bool.false_eq_true, ite_false, ite_true]; omega)))) ?_
    refine Pa ((y_addu rfl rfl (by omega))) ?_
    refine Ps ?_
    refine rj_nil ?_
    refine hK13 _ _ _ ?_
    refine cj_seq fun K14 hK14 => ?_
    refine cj_seq fun K15 hK15 => ?_
    refine cj_region ?_
    refine Pm ?_
    refine Pa (y_nilCheck rfl) ?_
    refine Pa (Ga Tryz.underlying109 Tryz.sizeOf55) ?_
    first | refine Pa (La o55) ?_ | refine Pa (Ls o55) ?_
    refine Pm ?_
    refine Pa (Ca Tryz.call40 (hat)) ?_
    refine rj_eq 104 rfl (v' := tupOf [.agg ⟨entC eo⟩, .bool ok]) hev ?_
    refine Pm ?_
    refine Pa (y_extract rfl rfl) ?_
    refine Pa (y_extract rfl rfl) ?_
    refine rj_alloc (wn0 rfl) rfl Tryz.zeroValue93 rfl (fun b16 => ?_)
    refine Sm (vs := entC eo) m93 (entE.one (R := R) (x := eo) rfl) ?_
    refine Ps ?_
    refine rj_nil ?_
    refine hK15 _ _ _ ?_
    refine cj_env (eL 0 rfl (eL 3 rfl (eL 4 rfl (eL 5 rfl (eL 12 rfl (eL 13 rfl (eL 14 rfl (eL 15 rfl (eL 16 rfl (eL 17 rfl (eL 86 rfl (eL 87 rfl (eL 88 rfl eN))))))))))))) ?_
    refine cj_seq fun K16 hK16 => ?_
    refine cj_region ?_
    refine Pm ?_
    refine Pm ?_
    refine rj_part 108 rfl (fun hg108 => ?_) (fun hg108 => ?_)
    ·have g1 := hok1 (by simpa using hg108)
     refine Pb (Ga Tryz.underlying93 Tryz.sizeOf36) ?_
     first | refine Pb (La o36) ?_ | refine Pb (Ls o36) ?_
     refine Pb (Ga Tryz.underlying93 Tryz.sizeOf36) ?_
     first | refine Pb (La o36) ?_ | refine Pb (Ls o36) ?_
     refine Pb (y_eql rfl rfl) ?_
     refine Pa (y_pick_t rfl rfl) ?_
     refine rj_nil ?_
     refine hK16 _ _ _ ?_
     refine cj_cond rfl (fun hc114 => ?_) (fun hc114 => ?_)
     ·first|(have hyes : (x.g.at (bh + 1 + i)).map (·.1) = some e.1 := by rw [g1]; simpa using hc114)|skip
      refine cj_exit ?_
      refine hK11 _ _ _ ?_
      refine cj_region ?_
      first | refine Pa (y_add64 rfl rfl om_) ?_ | refine Pa (y_add rfl rfl) ?_
      refine Pm ?_
      refine rj_nil ?_
      refine ej_on (q' := roundK _ _ _ _ _ _ _) rfl ?_
      refine ej_round (i + 1) (⟨by omega, by rw [hfk, drop_cons he, fits_yes hyes]; congr 1; omega⟩) (by omega) (eC rfl (eC rfl (eC rfl (eC rfl (eC rfl (eC rfl (eC rfl (eC rfl eN)))))))) rfl sb_
     ·first|(have hno : ¬ (x.g.at (bh + 1 + i)).map (·.1) = some e.1 := by rw [g1]; simpa using hc114)|skip
      refine cj_skip ?_
      refine hK14 _ _ _ ?_
      refine cj_seq fun K18 hK18 => ?_
      refine cj_seq fun K19 hK19 => ?_
      have hfs : addN (x, D) m = if bh + 1 + i ≤ x.commit then (true, (x, D)) else bindN (mustN (x, D) (x.g.addD D (bh + 1 + i - 1) (l.drop i))) fun s => (true, ((s.1.commits m (bh + l.length)).answer m true (bh + l.length), s.2)) := by rw [hnot, restN_some (by rw [hfk, drop_cons he, fits_no hno])]; rw [drop_cons he]
      refine cj_region ?_
      refine Pm ?_
      refine Pm ?_
      refine Pa (y_nilCheck rfl) ?_
      refine Pa (Ga Tryz.underlying109 Tryz.sizeOf36) ?_
      first | refine Pa (La o36) ?_ | refine Pa (Ls o36) ?_
      refine Pa (y_leq rfl rfl) ?_
      refine rj_nil ?_
      refine hK19 _ _ _ ?_
      refine cj_cond rfl (fun hc120 => ?_) (fun hc120 => ?_)
      ·have g2 : bh + 1 + i ≤ x.commit := by simpa using hc120
       rw [if_pos g2] at hfs
       refine cj_ret ?_
       refine hret _ _ _ ?_
       refine Ea Tryz.results98 .nil (ndL b v x D) (by first | exact Hp.le_refl _ | assumption) ?_
       rw [hfs]; exact ⟨rfl, v, hv, rfl⟩
      ·have g2 : ¬ bh + 1 + i ≤ x.commit := by simpa using hc120
       rw [if_neg g2] at hfs
       obtain ⟨ra, hra⟩ : ∃ r, r = x.g.addD D (bh + 1 + i - 1) (l.drop i) := ⟨_, rfl⟩
       rw [← hra] at hfs
       have hAs := hfs
       have hsd := hl.sub (a := i) (b := l.length) (by omega) (by omega)
       rw [List.take_of_length_le (by simp)] at hsd
       have hdl : (l.drop i).length ≤ 20 := by simp; omega
       have hdb : ∀ e ∈ l.drop i, (0 ≤ e.1 ∧ e.1 ≤ 2305843009213693952 + k) ∧ e.2.length ≤ 100 := fun e he => hc3 e (List.mem_of_mem_drop he)
       have hdE : entsLen (l.drop i) ≤ 16000000 := ents_small hdl (fun e he => (hdb e he).2)
       refine cj_skip ?_
       refine hK18 _ _ _ ?_
       refine cj_seq fun K21 hK21 => ?_
       refine cj_mixg (L := [ndB b v x]) [0, 1, 2, 3, 4, 5, 6, 7, 8, 9] [10] [11] _ sb_ (by kernel_rfl) (by kernel_rfl) (by kernel_rfl) rfl ?_
       refine Wa rfl (fun R1 hR1 G => (y_move rfl)) ?_
       refine Wa rfl (fun R1 hR1 G => (y_move rfl)) ?_
       refine Wa rfl (fun R1 hR1 G => (y_nilCheck rfl)) ?_
       refine Wa rfl (fun R1 hR1 G => (Ga Tryz.underlying109 Tryz.sizeOf55)) ?_
       first | refine Wa rfl (fun R1 hR1 G => (La o55)) ?_ | refine Wa rfl (fun R1 hR1 G => (Ls o55)) ?_
       refine Wa rfl (fun R1 hR1 G => (y_move rfl)) ?_
       refine Wa rfl (fun R1 hR1 G => (y_subu rfl rfl (by omega))) ?_
       refine Wa rfl (fun R1 hR1 G => (y_move rfl)) ?_
       refine Wa rfl (fun R1 hR1 G => (y_move rfl)) ?_
       refine Wa rfl (fun R1 hR1 G => (y_slice_sl (l := i) (h := l.length) Tryz.underlying76 Tryz.sizeOf93 rfl ⟨.i64, rfl⟩ rfl (by omega))) ?_
       refine fj_nil ?_
       refine xj_rj rfl ?_
       try simp only [cA, nA, List.append_nil]
       refine Ra Tryz.call87 (lgAdd_t b.l b.d v.va v.u _ x.g D n (bh + 1 + i - 1) (l.drop i) hg (by unfold u64B; omega) hva hsd (by omega) (fun e he => ⟨by have := (hdb e he).1; unfold u64B; omega, by have := (hdb e he).2; omega⟩) hdE hD (by omega)) ?_
       rintro r R4 L' hR4 ⟨rfl, u2, va2, hva2, rfl⟩
       rw [← hra] at hva2 ⊢
       try simp only [cA, nA]
       refine rj_xk le_ sb_ ?_
       refine xj_nil ?_
       try simp only [cA, nA, List.append_nil]
       refine rj_call (wn0 rfl) rfl Tryz.call74 rfl (must_t b (v.logd u2 va2) x _) sp_ (fun ch Rp Lp hRp hpp => ?_) ?_
       · obtain ⟨he1, rfl, rfl⟩ := hpp
         try simp only [cA, nA]
         refine hpan _ _ _ _ ?_
         refine ej_pan _ (ndL b (v.logd u2 va2) { x with g := ra.2.1, down := true } ra.2.2) (by first | exact Hp.le_refl _ | assumption | exact Hp.le_trans ‹_› ‹_› | exact Hp.le_trans hR4 hRp) rfl sb_ ?_
         exact ⟨by rw [hAs]; simp [bindN, mustN, he1], rfl, v.logd u2 va2, by rw [hAs]; simp only [bindN, mustN, if_neg he1]; exact hv.logd (y := { x with g := ra.2.1, down := true }) (Hp.le_trans hR4 hRp) ⟨rfl, rfl⟩ (hva2.mono hRp), by rw [hAs]; simp [bindN, mustN, he1]⟩
       rintro r R5 L' hR5 ⟨he0, rfl⟩
       have hx1 : NIn (k + 1) { x with g := ra.2.1 } := by rw [hra, addD_ok (by rw [← hra]; exact he0)]; exact hx.add hdb hdl
       have hR35 := Hp.le_trans hR4 hR5
       have hv1 : NOk R5 (v.logd u2 va2) { x with g := ra.2.1 } := hv.logd (y := { x with g := ra.2.1 }) hR35 ⟨rfl, rfl⟩ (hva2.mono hR5)
       try simp only [cA, nA]
       refine rj_nil ?_
       refine hK21 _ _ _ ?_
       refine cj_env (eL 0 rfl (eL 3 rfl (eL 12 rfl eN))) ?_
       refine cj_exit ?_
       refine ej_join hJ21 (({ x with g := ra.2.1 }, v.logd u2 va2, ra.2.2, R5)) (⟨hx1, hv1, hR35, by rw [hAs]; simp [bindN, mustN, he0]⟩) (eC rfl (eC rfl (eC rfl eN))) rfl sb_
    ·have g1 := hok2 (by simpa using hg108)
     have hno : ¬ (x.g.at (bh + 1 + i)).map (·.1) = some e.1 := by rw [g1]; simp
     refine Pk ?_
     refine Pk ?_
     refine Pk ?_
     refine Pk ?_
     refine Pk ?_
     refine Pa (y_pick_f rfl rfl) ?_
     refine rj_nil ?_
     refine hK16 _ _ _ ?_
     refine cj_cond_f rfl ?_
     refine cj_skip ?_
     refine hK14 _ _ _ ?_
     refine cj_seq fun K22 hK22 => ?_
     refine cj_seq fun K23 hK23 => ?_
     have hfs : addN (x, D) m = if bh + 1 + i ≤ x.commit then (true, (x, D)) else bindN (mustN (x, D) (x.g.addD D (bh + 1 + i - 1) (l.drop i))) fun s => (true, ((s.1.commits m (bh + l.length)).answer m true (bh + l.length), s.2)) := by rw [hnot, restN_some (by rw [hfk, drop_cons he, fits_no hno])]; rw [drop_cons he]
     refine cj_region ?_
     refine Pm ?_
     refine Pm ?_
     refine Pa (y_nilCheck rfl) ?_
     refine Pa (Ga Tryz.underlying109 Tryz.sizeOf36) ?_
     first | refine Pa (La o36) ?_ | refine Pa (Ls o36) ?_
     refine Pa (y_leq rfl rfl) ?_
     refine rj_nil ?_
     refine hK23 _ _ _ ?_
     refine cj_cond rfl (fun hc120 => ?_) (fun hc120 => ?_)
     ·have g2 : bh + 1 + i ≤ x.commit := by simpa using hc120
      rw [if_pos g2] at hfs
      refine cj_ret ?_
      refine hret _ _ _ ?_
      refine Ea Tryz.results98 .nil (ndL b v x D) (by first | exact Hp.le_refl _ | assumption) ?_
      rw [hfs]; exact ⟨rfl, v, hv, rfl⟩
     ·have g2 : ¬ bh + 1 + i ≤ x.commit := by simpa using hc120
      rw [if_neg g2] at hfs
      obtain ⟨ra, hra⟩ : ∃ r, r = x.g.addD D (bh + 1 + i - 1) (l.drop i) := ⟨_, rfl⟩
      rw [← hra] at hfs
      have hAs := hfs
      have hsd := hl.sub (a := i) (b := l.length) (by omega) (by omega)
      rw [List.take_of_length_le (by simp)] at hsd
      have hdl : (l.drop i).length ≤ 20 := by simp; omega
      have hdb : ∀ e ∈ l.drop i, (0 ≤ e.1 ∧ e.1 ≤ 2305843009213693952 + k) ∧ e.2.length ≤ 100 := fun e he => hc3 e (List.mem_of_mem_drop he)
      have hdE : entsLen (l.drop i) ≤ 16000000 := ents_small hdl (fun e he => (hdb e he).2)
      refine cj_skip ?_
      refine hK22 _ _ _ ?_
      refine cj_seq fun K25 hK25 => ?_
      refine cj_mixg (L := [ndB b v x]) [0, 1, 2, 3, 4, 5, 6, 7, 8, 9] [10] [11] _ sb_ (by kernel_rfl) (by kernel_rfl) (by kernel_rfl) rfl ?_
      refine Wa rfl (fun R1 hR1 G => (y_move rfl)) ?_
      refine Wa rfl (fun R1 hR1 G => (y_move rfl)) ?_
      refine Wa rfl (fun R1 hR1 G => (y_nilCheck rfl)) ?_
      refine Wa rfl (fun R1 hR1 G => (Ga Tryz.underlying109 Tryz.sizeOf55)) ?_
      first | refine Wa rfl (fun R1 hR1 G => (La o55)) ?_ | refine Wa rfl (fun R1 hR1 G => (Ls o55)) ?_
      refine Wa rfl (fun R1 hR1 G => (y_move rfl)) ?_
      refine Wa rfl (fun R1 hR1 G => (y_subu rfl rfl (by omega))) ?_
      refine Wa rfl (fun R1 hR1 G => (y_move rfl)) ?_
      refine Wa rfl (fun R1 hR1 G => (y_move rfl)) ?_
      refine Wa rfl (fun R1 hR1 G => (y_slice_sl (l := i) (h := l.length) Tryz.underlying76 Tryz.sizeOf93 rfl ⟨.i64, rfl⟩ rfl (by omega))) ?_
      refine fj_nil ?_
      refine xj_rj rfl ?_
      try simp only [cA, nA, List.append_nil]
      refine Ra Tryz.call87 (lgAdd_t b.l b.d v.va v.u _ x.g D n (bh + 1 + i - 1) (l.drop i) hg (by unfold u64B; omega) hva hsd (by omega) (fun e he => ⟨by have := (hdb e he).1; unfold u64B; omega, by have := (hdb e he).2; omega⟩) hdE hD (by omega)) ?_
      rintro r R4 L' hR4 ⟨rfl, u2, va2, hva2, rfl⟩
      rw [← hra] at hva2 ⊢
      try simp only [cA, nA]
      refine rj_xk le_ sb_ ?_
      refine xj_nil ?_
      try simp only [cA, nA, List.append_nil]
      refine rj_call (wn0 rfl) rfl Tryz.call74 rfl (must_t b (v.logd u2 va2) x _) sp_ (fun ch Rp Lp hRp hpp => ?_) ?_
      · obtain ⟨he1, rfl, rfl⟩ := hpp
        try simp only [cA, nA]
        refine hpan _ _ _ _ ?_
        refine ej_pan _ (ndL b (v.logd u2 va2) { x with g := ra.2.1, down := true } ra.2.2) (by first | exact Hp.le_refl _ | assumption | exact Hp.le_trans ‹_› ‹_› | exact Hp.le_trans hR4 hRp) rfl sb_ ?_
        exact ⟨by rw [hAs]; simp [bindN, mustN, he1], rfl, v.logd u2 va2, by rw [hAs]; simp only [bindN, mustN, if_neg he1]; exact hv.logd (y := { x with g := ra.2.1, down := true }) (Hp.le_trans hR4 hRp) ⟨rfl, rfl⟩ (hva2.mono hRp), by rw [hAs]; simp [bindN, mustN, he1]⟩
      rintro r R5 L' hR5 ⟨he0, rfl⟩
      have hx1 : NIn (k + 1) { x with g := ra.2.1 } := by rw [hra, addD_ok (by rw [← hra]; exact he0)]; exact hx.add hdb hdl
      have hR35 := Hp.le_trans hR4 hR5
      have hv1 : NOk R5 (v.logd u2 va2) { x with g := ra.2.1 } := hv.logd (y := { x with g := ra.2.1 }) hR35 ⟨rfl, rfl⟩ (hva2.mono hR5)
      try simp only [cA, nA]
      refine rj_nil ?_
      refine hK25 _ _ _ ?_
      refine cj_env (eL 0 rfl (eL 3 rfl (eL 12 rfl eN))) ?_
      refine cj_exit ?_
      refine ej_join hJ21 (({ x with g := ra.2.1 }, v.logd u2 va2, ra.2.2, R5)) (⟨hx1, hv1, hR35, by rw [hAs]; simp [bindN, mustN, he0]⟩) (eC rfl (eC rfl (eC rfl eN))) rfl sb_
   ·try simp only [dT, dF, nT, nF, tF, fT] at hc89
    refine cj_exit ?_
    refine ej_join hJ21 ((x, v, D, R)) (⟨hx.le (by omega), hv, Hp.le_refl _, by rw [hnot, restN_none (by rw [hfk, List.drop_of_length_le (by (try simp at hc89); omega)]; rfl)]⟩) (eC rfl (eC rfl (eC rfl eN))) rfl sb_
  refine cj_seq fun K26 hK26 => ?_
  refine cj_region ?_
  refine Pm ?_
  refine Pa (y_nilCheck rfl) ?_
  refine Pa (Ga Tryz.underlying109 Tryz.sizeOf55) ?_
  first | refine Pa (La o55) ?_ | refine Pa (Ls o55) ?_
  refine Pa (Ca Tryz.call25 (lgBase_q b.l (some ⟨b.d, 0, none⟩) v.va x.g)) ?_
  refine Pm ?_
  refine Pa (y_extract rfl rfl) ?_
  refine Pa (y_extract rfl rfl) ?_
  refine Pa (y_extract rfl rfl) ?_
  refine Ps ?_
  refine Ps ?_
  refine Ps ?_
  refine rj_nil ?_
  refine hK26 _ _ _ ?_
  refine cj_seq fun K27 hK27 => ?_
  refine cj_region ?_
  refine Pm ?_
  refine Pm ?_
  refine Pa (y_lss rfl rfl) ?_
  refine rj_nil ?_
  refine hK27 _ _ _ ?_
  refine cj_cond rfl (fun hc33 => ?_) (fun hc33 => ?_)
  ·have f1 : m.index < x.g.base := by simpa using hc33
   refine cj_seq fun K29 hK29 => ?_
   refine cj_seq fun K30 hK30 => ?_
   refine cj_region ?_
   refine Pm ?_
   first | refine Pa (y_len_sl Tryz.underlying76 rfl) ?_ | refine Pa (y_len_slc Tryz.underlying76 rfl fd_) ?_
   refine Pa ((y_conv_in Tryz.underlying3 Tryz.underlying36 rfl (by (simp only [IntKind.min, IntKind.max, IntKind.signed, IntKind.bits, Bool.false_eq_true, ite_false, ite_true]; omega)))) ?_
   refine Pm ?_
   refine Pm ?_
   refine Pa ((y_subu rfl rfl (by omega))) ?_
   refine Pa (y_lss rfl rfl) ?_
   refine rj_nil ?_
   refine hK30 _ _ _ ?_
   refine cj_env (eL 0 rfl (eL 3 rfl (eL 4 rfl (eL 5 rfl (eL 6 rfl (eL 40 rfl eN)))))) ?_
   refine cj_cond rfl (fun hc40 => ?_) (fun hc40 => ?_)
   ·have f2 : (m.es.length : Int) < x.g.base - m.index := by (try simp at hc40); omega
    refine cj_seq fun K32 hK32 => ?_
    refine cj_region ?_
    refine Pm ?_
    first | refine Pa (Lb m117) ?_ | refine Pa (y_loads_slc m117 rfl fd_ rfl rfl om_) ?_
    refine Pm ?_
    refine Ra Tryz.call97 (answer_t b v x m (.slice qe m.es.length ce) _ _ hv.out hv.vo (by omega) hveo) ?_
    rintro r R2 L' hR2 ⟨vo, css, hels, hvo2, rfl⟩
    try simp only [cA, nA]
    refine rj_nil ?_
    refine hK32 _ _ _ ?_
    refine cj_env eN ?_
    refine cj_ret ?_
    refine hret _ _ _ ?_
    apply ej_ret Tryz.results98 .nil _ (ndL b (v.sent vo css) (x.answer m _ _) D) (by first | exact Hp.le_refl _ | assumption) rfl
    case hp => unfold addN; first|(rw [if_pos ⟨f1, f2⟩]; exact ⟨rfl, _, hv.sent (y := x.answer m true x.g.base) hR2 ⟨rfl, rfl⟩ hels hvo2, rfl⟩)|(rw [if_neg (fun h => f1 h.1), if_pos ⟨f1, f4⟩]; exact ⟨rfl, _, hv.sent (y := x.answer m false (min x.g.last (max m.index 1 - 1))) hR2 ⟨rfl, rfl⟩ hels hvo2, rfl⟩)
    case hS => exact sb_
   ·have f2 : ¬ (m.es.length : Int) < x.g.base - m.index := by (try simp at hc40); omega
    refine cj_skip ?_
    refine hK29 _ _ _ ?_
    refine cj_draw (by kernel_rfl) (by kernel_rfl) ?_
    have hsub := hve.sub (a := (x.g.base - m.index).toNat) (b := m.es.length) (by omega) (by omega)
    rw [List.take_of_length_le (by simp)] at hsub
    have hA1 := addN_eq (x := x) (D := D) (m := m) (fun h => f2 h.2) (fun h => h.1 f1)
    rw [show x.cutM m = (x.g.base, m.es.drop (x.g.base - m.index).toNat) by unfold ND.cutM; rw [if_pos f1]] at hA1
    refine Qa (y_move rfl) ?_
    refine Qa (y_move rfl) ?_
    refine Qa (y_move rfl) ?_
    refine Qa (y_move rfl) ?_
    refine Qa ((y_subu rfl rfl (by omega))) ?_
    refine Qa ((y_slice_sl (l := (x.g.base - m.index).toNat) (h := m.es.length) Tryz.underlying76 Tryz.sizeOf93 rfl ⟨.u64, by rw [show (((x.g.base - m.index).toNat : Nat) : Int) = x.g.base - m.index by omega]; rfl⟩ rfl (by omega))) ?_
    refine Qa (y_assign rfl) ?_
    refine Qa (y_assign rfl) ?_
    refine qj_nil ?_
    refine ej_join hJ11 ((x.g.base, m.es.drop (x.g.base - m.index).toNat, _)) (⟨by unfold ND.cutM; rw [if_pos f1], hsub, hA1⟩) (eC rfl (eC rfl (eC rfl (eC rfl eN)))) rfl sb_
  ·have f1 : ¬ m.index < x.g.base := by simpa using hc33
   refine cj_seq fun K33 hK33 => ?_
   refine cj_region ?_
   refine Pm ?_
   refine Pa (y_nilCheck rfl) ?_
   refine Pa (Ga Tryz.underlying109 Tryz.sizeOf55) ?_
   first | refine Pa (La o55) ?_ | refine Pa (Ls o55) ?_
   refine Pm ?_
   refine Pa (Ca Tryz.call100 (lgTermAt_q b.l (some ⟨b.d, 0, none⟩) v.va x.g hg hva m.index (by unfold u64B; omega))) ?_
   refine rj_eq 57 rfl (v' := tupOf [.int .u64 ((x.g.termAt m.index).getD 0), .bool (x.g.termAt m.index).isSome]) (numV_eq _) ?_
   refine Pm ?_
   refine Pa (y_extract rfl rfl) ?_
   refine Pa (y_extract rfl rfl) ?_
   refine Ps ?_
   refine Ps ?_
   refine rj_nil ?_
   refine hK33 _ _ _ ?_
   refine cj_env (eL 0 rfl (eL 3 rfl (eL 4 rfl (eL 5 rfl (eL 9 rfl (eL 10 rfl eN)))))) ?_
   refine cj_seq fun K34 hK34 => ?_
   refine cj_region ?_
   refine Pm ?_
   refine Pa (y_not rfl) ?_
   refine Pm ?_
   refine rj_part 62 rfl (fun hg62 => ?_) (fun hg62 => ?_)
   ·have f3 : (x.g.termAt m.index).isSome = false := by simpa using hg62
    have f4 : ¬ x.g.termAt m.index = some m.logTerm := termAt_some.2 (.inl f3)
    refine Pk ?_
    refine Pk ?_
    refine Pk ?_
    refine Pk ?_
    refine Pa (y_pick_t rfl rfl) ?_
    refine rj_nil ?_
    refine hK34 _ _ _ ?_
    refine cj_cond_t rfl ?_
    refine cj_seq fun K35 hK35 => ?_
    refine cj_region ?_
    refine Pm ?_
    refine Pa (y_nilCheck rfl) ?_
    refine Pa (Ga Tryz.underlying109 Tryz.sizeOf55) ?_
    first | refine Pa (La o55) ?_ | refine Pa (Ls o55) ?_
    refine Pa (Ca Tryz.call60 (lgLast_q b.l (some ⟨b.d, 0, none⟩) v.va x.g hg hva)) ?_
    refine Pm ?_
    refine Pa (y_max rfl rfl) ?_
    refine Pa ((y_subu rfl rfl (by omega))) ?_
    refine Pa (y_min rfl rfl) ?_
    refine Ps ?_
    refine rj_nil ?_
    refine hK35 _ _ _ ?_
    refine cj_env (eL 0 rfl (eL 3 rfl (eL 11 rfl eN))) ?_
    refine cj_seq fun K36 hK36 => ?_
    refine cj_region ?_
    refine Pm ?_
    first | refine Pa (Lb m117) ?_ | refine Pa (y_loads_slc m117 rfl fd_ rfl rfl om_) ?_
    refine Pm ?_
    refine Ra Tryz.call97 (answer_t b v x m (.slice qe m.es.length ce) _ _ hv.out hv.vo (by omega) hveo) ?_
    rintro r R2 L' hR2 ⟨vo, css, hels, hvo2, rfl⟩
    try simp only [cA, nA]
    refine rj_nil ?_
    refine hK36 _ _ _ ?_
    refine cj_env eN ?_
    refine cj_ret ?_
    refine hret _ _ _ ?_
    apply ej_ret Tryz.results98 .nil _ (ndL b (v.sent vo css) (x.answer m _ _) D) (by first | exact Hp.le_refl _ | assumption) rfl
    case hp => unfold addN; first|(rw [if_pos ⟨f1, f2⟩]; exact ⟨rfl, _, hv.sent (y := x.answer m true x.g.base) hR2 ⟨rfl, rfl⟩ hels hvo2, rfl⟩)|(rw [if_neg (fun h => f1 h.1), if_pos ⟨f1, f4⟩]; exact ⟨rfl, _, hv.sent (y := x.answer m false (min x.g.last (max m.index 1 - 1))) hR2 ⟨rfl, rfl⟩ hels hvo2, rfl⟩)
    case hS => exact sb_
   ·have f3 : (x.g.termAt m.index).isSome = true := by simpa using hg62
    refine Pb (y_move rfl) ?_
    refine Pb (Ga Tryz.underlying117 Tryz.sizeOf36) ?_
    first | refine Pb (La o36) ?_ | refine Pb (Ls o36) ?_
    refine Pb (y_neq rfl rfl) ?_
    refine Pa (y_pick_f rfl rfl) ?_
    refine rj_nil ?_
    refine hK34 _ _ _ ?_
    refine cj_cond rfl (fun hc67 => ?_) (fun hc67 => ?_)
    ·first|(have f4 : ¬ x.g.termAt m.index = some m.logTerm := termAt_some.2 (.inr (by simpa using hc67)))|skip
     refine cj_seq fun K38 hK38 => ?_
     refine cj_region ?_
     refine Pm ?_
     refine Pa (y_nilCheck rfl) ?_
     refine Pa (Ga Tryz.underlying109 Tryz.sizeOf55) ?_
     first | refine Pa (La o55) ?_ | refine Pa (Ls o55) ?_
     refine Pa (Ca Tryz.call60 (lgLast_q b.l (some ⟨b.d, 0, none⟩) v.va x.g hg hva)) ?_
     refine Pm ?_
     refine Pa (y_max rfl rfl) ?_
     refine Pa ((y_subu rfl rfl (by omega))) ?_
     refine Pa (y_min rfl rfl) ?_
     refine Ps ?_
     refine rj_nil ?_
     refine hK38 _ _ _ ?_
     refine cj_env (eL 0 rfl (eL 3 rfl (eL 11 rfl eN))) ?_
     refine cj_seq fun K39 hK39 => ?_
     refine cj_region ?_
     refine Pm ?_
     first | refine Pa (Lb m117) ?_ | refine Pa (y_loads_slc m117 rfl fd_ rfl rfl om_) ?_
     refine Pm ?_
     refine Ra Tryz.call97 (answer_t b v x m (.slice qe m.es.length ce) _ _ hv.out hv.vo (by omega) hveo) ?_
     rintro r R2 L' hR2 ⟨vo, css, hels, hvo2, rfl⟩
     try simp only [cA, nA]
     refine rj_nil ?_
     refine hK39 _ _ _ ?_
     refine cj_env eN ?_
     refine cj_ret ?_
     refine hret _ _ _ ?_
     apply ej_ret Tryz.results98 .nil _ (ndL b (v.sent vo css) (x.answer m _ _) D) (by first | exact Hp.le_refl _ | assumption) rfl
     case hp => unfold addN; first|(rw [if_pos ⟨f1, f2⟩]; exact ⟨rfl, _, hv.sent (y := x.answer m true x.g.base) hR2 ⟨rfl, rfl⟩ hels hvo2, rfl⟩)|(rw [if_neg (fun h => f1 h.1), if_pos ⟨f1, f4⟩]; exact ⟨rfl, _, hv.sent (y := x.answer m false (min x.g.last (max m.index 1 - 1))) hR2 ⟨rfl, rfl⟩ hels hvo2, rfl⟩)
     case hS => exact sb_
    ·have f4 : ¬ ¬ x.g.termAt m.index = some m.logTerm := fun h => by (rcases termAt_some.1 h with h | h <;> first | (rw [f3] at h; cases h; done) | (simp at hc67; exact h hc67))
     have hA2 := addN_eq (x := x) (D := D) (m := m) (fun h => f1 h.1) (fun h => f4 h.2)
     rw [show x.cutM m = (m.index, m.es) by unfold ND.cutM; rw [if_neg f1]] at hA2
     refine cj_skip ?_
     refine ej_join hJ11 ((m.index, m.es, _)) (⟨by unfold ND.cutM; rw [if_neg f1], hve, hA2⟩) (eC rfl (eC rfl (eC rfl (eC rfl eN)))) rfl sb_
end V
end Go.Proofs.YtenfjpigffjgmaaGreat
set_option linter.unusedSimpArgs false
set_option linter.unusedVariables false
set_option maxRecDepth 100000
namespace Go.Proofs.YtenfjpigffjgmaaGreat
open Go.RowKit
namespace V
set_option maxHeartbeats 4000000
theorem ents_le {l : List Ent} (hb : ∀ e ∈ l, e.2.length ≤ 100) : entsLen l ≤ 120 * l.length := by
  induction l with
  | nil => simp [entsLen]
  | cons e l ih =>
    have h1 := ih (fun x hx => hb x (by simp [hx]))
    have h2 := hb e (by simp)
    simp [entsLen] at h1 ⊢; omega
def LG.inst (g : LG) (i t : Int) (s : Bs) : LG := if g.termAt i = some t then g.comp i s else g.base0 i t s
theorem swapD_ok {g to : LG} {D : DK} (h : (g.swapD D to).1 = 0) : (g.swapD D to).2.1 = to := by
  unfold LG.swapD at h ⊢
  split
  · rfl
  · rename_i h1; rw [if_neg h1] at h; exact absurd h h1
theorem compD_ok {g : LG} {D : DK} {i : Int} {s : Bs} (h : (g.compD D i s).1 = 0) : (g.compD D i s).2.1 = g.comp i s := by
  unfold LG.compD at h ⊢
  split at h
  · cases h
  · split at h
    · cases h
    · rename_i h1 h2
      rw [if_neg h1, if_neg h2]; exact swapD_ok h
theorem instD_ok {g : LG} {D : DK} {i t : Int} {s : Bs} (h : (g.instD D i t s).1 = 0) : (g.instD D i t s).2.1 = g.inst i t s := by
  unfold LG.instD at h ⊢
  split at h
  · cases h
  · split at h
    · cases h
    · rename_i h1 h2
      rw [if_neg h1, if_neg h2]
      unfold LG.inst
      split
      · rename_i h3; rw [if_pos h3] at h; exact compD_ok h
      · rename_i h3; rw [if_neg h3] at h; exact swapD_ok h
theorem termAt_tb {k : Nat} {x : ND} (hx : NIn k x) (i : Int) : 0 ≤ (x.g.termAt i).getD 0 ∧ (x.g.termAt i).getD 0 ≤ 2305843009213693952 + k := by
  unfold LG.termAt
  split
  · exact hx.baseT
  · cases h : x.g.at i with
    | none => simp; omega
    | some e => exact (hx.all e (LG.at_mem h)).1
theorem NIn.inst {k : Nat} {x : ND} (h : NIn k x) {i t : Int} {s : Bs} (hi : 0 ≤ i ∧ i ≤ 100000000000000) (ht : 0 ≤ t ∧ t ≤ 2305843009213693952 + k) (hs : s.length ≤ 1000000) : NIn k { x with g := x.g.inst i t s } := by
  unfold LG.inst
  split
  · exact ⟨h.idn, h.term, h.vote, hi, termAt_tb h i, hs, by have := h.alln; show (x.g.all.drop _).length ≤ _; simp; omega, fun e he => h.all e (List.mem_of_mem_drop he), h.commit, h.patience, h.peers, h.peer, h.votes, h.out⟩
  · exact ⟨h.idn, h.term, h.vote, hi, ht, hs, by show 0 ≤ _; omega, fun e he => (by cases he), h.commit, h.patience, h.peers, h.peer, h.votes, h.out⟩
theorem NIn.comm {k : Nat} {x : ND} (h : NIn k x) {c : Int} (hc : 0 ≤ c ∧ c ≤ 150000000000000) : NIn k { x with commit := c } :=
  ⟨h.idn, h.term, h.vote, h.base, h.baseT, h.state, h.alln, h.all, hc, h.patience, h.peers, h.peer, h.votes, h.out⟩
theorem NIn.follows {k : Nat} {x : ND} (h : NIn k x) (m : Msg) : NIn k (x.follows m) :=
  ⟨h.idn, h.term, h.vote, h.base, h.baseT, h.state, h.alln, h.all, h.commit, ⟨by show (0 : Int) ≤ 0; omega, by show (0 : Int) ≤ _; omega⟩, fun hr => absurd (show (0 : Int) = 2 from hr) (by decide), h.peer, h.votes, h.out⟩
theorem NOk.follows {R : Hp} {v : NV} {x : ND} (h : NOk R v x) (m : Msg) : NOk R v (x.follows m) := ⟨h.va, h.out, h.vm, h.vp, h.vo, fun hr => absurd (show (0 : Int) = 1 from hr) (by decide)⟩
theorem fed_t {R : Hp} (b : NB) (v : NV) (x : ND) (D : DK) (m : Msg) (ve : Value) (k n : Nat) (hk : k ≤ 50) (hx : NIn k x) (hv : NOk R v x) (hm : MIn k x.n m) (hve : FrX entE R m.es ve) (hD : D.ok n) (hn : n ≤ 800000000) :
    Tri Tryz.prog 78 [.pointer (some ⟨b.x, 0, none⟩), .agg ⟨msgC m ve⟩] R (ndL b v x D) (NRet b (fedN (x, D) m)) (NPan b (fedN (x, D) m)) := by
  have hveo := hve.one
  have hob := hx.out
  have hg := hx.g (by omega)
  have hlb := LG.last_b hg
  have hidx := hm.index
  have hlt := hm.logTerm
  have hco := hx.commit
  have hbs := hx.base
  have hle : x.g.last = x.g.base + x.g.all.length := rfl
  have hfo := hx.follows m
  have hfv := hv.follows m
  have hal := hx.alln
  have hen := ents_le (fun e he => (hx.all e he).2)
  refine tri_of Tryz.func78 rfl Tryz.ntmps78 rfl (fun σ F Q hret hend hpan => ?_)
  try simp only [cA, nA]
  refine cj_seq fun K1 hK1 => ?_
  refine cj_region ?_
  refine rj_box (wn0 rfl) rfl rfl rfl (fun b3 => ?_)
  refine rj_nil ?_
  refine hK1 _ _ _ ?_
  refine cj_seq fun K2 hK2 => ?_
  refine cj_block ?_
  refine cj_seq fun K3 hK3 => ?_
  refine cj_draw (by kernel_rfl) (by kernel_rfl) ?_
  refine Qa (Ga Tryz.underlying117 Tryz.sizeOf36) ?_
  first | refine Qa (La o36) ?_ | refine Qa (Ls o36) ?_
  refine Qa (y_move rfl) ?_
  refine Qa (y_nilCheck rfl) ?_
  refine Qa (Ga Tryz.underlying109 Tryz.sizeOf55) ?_
  first | refine Qa (La o55) ?_ | refine Qa (Ls o55) ?_
  refine Qa (Ca Tryz.call24 (lgTerm_q b.l (some ⟨b.d, 0, none⟩) v.va x.g)) ?_
  refine Qa (y_lss rfl rfl) ?_
  refine Qa (y_assign rfl) ?_
  refine qj_nil ?_
  refine hK3 _ _ _ ?_
  refine cj_cond rfl (fun hc4 => ?_) (fun hc4 => ?_)
  ·have f1 : m.term < x.g.term := by simpa using hc4
   have hN : fedN (x, D) m = (true, (x.answer m false 0, D)) := by unfold fedN; rw [if_pos f1]
   refine cj_seq fun K5 hK5 => ?_
   refine cj_region ?_
   refine Pm ?_
   first | refine Pa (Lb m117) ?_ | refine Pa (y_loads_slc m117 rfl fd_ rfl rfl om_) ?_
   refine Ra Tryz.call97 (answer_t b v x m ve false 0 hv.out hv.vo (by omega) hveo) ?_
   rintro r R2 L' hR2 ⟨vo, css, hels, hvo2, rfl⟩
   try simp only [cA, nA]
   refine rj_nil ?_
   refine hK5 _ _ _ ?_
   refine cj_env eN ?_
   refine cj_ret ?_
   refine hret _ _ _ ?_
   refine Ea Tryz.results78 .nil (ndL b (v.sent vo css) (x.answer m false 0) D) (by first | exact Hp.le_refl _ | assumption) ?_
   rw [hN]; exact ⟨rfl, _, hv.sent (y := x.answer m false 0) hR2 ⟨rfl, rfl⟩ hels hvo2, rfl⟩
  ·have f1 : ¬ m.term < x.g.term := by simpa using hc4
   refine cj_seq fun K6 hK6 => ?_
   refine cj_region ?_
   refine Pm ?_
   refine Pa (y_nilCheck rfl) ?_
   refine Pa (Ga Tryz.underlying109 Tryz.sizeOf3) ?_
   first | refine Pa (La o3) ?_ | refine Pa (Ls o3) ?_
   refine Pa (y_eql rfl rfl) ?_
   refine Ps ?_
   refine rj_nil ?_
   refine hK6 _ _ _ ?_
   refine cj_cond rfl (fun hc16 => ?_) (fun hc16 => ?_)
   ·have f2 : x.role = 2 := by simpa using hc16
    have hN : fedN (x, D) m = (true, (x, D)) := by unfold fedN; rw [if_neg f1, if_pos f2]
    refine cj_ret ?_
    refine hret _ _ _ ?_
    refine Ea Tryz.results78 .nil (ndL b v x D) (by first | exact Hp.le_refl _ | assumption) ?_
    rw [hN]; exact ⟨rfl, v, hv, rfl⟩
   ·have f2 : ¬ x.role = 2 := by simpa using hc16
    refine cj_skip ?_
    refine hK2 _ _ _ ?_
    refine cj_seq fun K8 hK8 => ?_
    refine cj_mixg (L := [blk b3 (msgC m ve) 117]) [0, 1, 2, 3, 4, 5, 6] [7, 8, 9, 10] [11, 12, 13] _ sb_ (by kernel_rfl) (by kernel_rfl) (by kernel_rfl) rfl ?_
    refine Wa rfl (fun R1 hR1 G => (y_move rfl)) ?_
    refine Wa rfl (fun R1 hR1 G => (y_move rfl)) ?_
    refine Wa rfl (fun R1 hR1 G => (y_move rfl)) ?_
    refine Wa rfl (fun R1 hR1 G => (Ga Tryz.underlying117 Tryz.sizeOf3)) ?_
    first | refine Wa rfl (fun R1 hR1 G => (La o3)) ?_ | refine Wa rfl (fun R1 hR1 G => (Ls o3)) ?_
    refine Wa rfl (fun R1 hR1 G => (y_nilCheck rfl)) ?_
    refine Wa rfl (fun R1 hR1 G => (Ga Tryz.underlying109 Tryz.sizeOf3)) ?_
    refine fj_nil ?_
    refine xj_rj rfl ?_
    try simp only [cA, nA, List.append_nil]
    refine Sa o3 ?_
    refine rj_xk le_ sb_ ?_
    refine xj_rj rfl ?_
    try simp only [cA, nA, List.append_nil]
    refine Pa (y_nilCheck rfl) ?_
    refine rj_xk le_ sb_ ?_
    refine xj_rj rfl ?_
    try simp only [cA, nA, List.append_nil]
    refine Pa (Ga Tryz.underlying109 Tryz.sizeOf3) ?_
    refine rj_xk le_ sb_ ?_
    refine xj_rj rfl ?_
    try simp only [cA, nA, List.append_nil]
    refine Sa o3 ?_
    refine rj_xk le_ sb_ ?_
    refine xj_nil ?_
    try simp only [cA, nA, List.append_nil]
    refine Pa (y_nilCheck rfl) ?_
    refine Pa (Ga Tryz.underlying109 Tryz.sizeOf3) ?_
    refine Sa o3 ?_
    refine rj_nil ?_
    refine hK8 _ _ _ ?_
    refine cj_env (eL 0 rfl (eL 3 rfl eN)) ?_
    refine cj_seq fun K9 hK9 => ?_
    refine cj_seq fun K10 hK10 => ?_
    refine cj_region ?_
    refine Pa (Ga Tryz.underlying117 Tryz.sizeOf3) ?_
    first | refine Pa (La o3) ?_ | refine Pa (Ls o3) ?_
    refine Pa (y_eql rfl rfl) ?_
    refine rj_nil ?_
    refine hK10 _ _ _ ?_
    refine cj_cond rfl (fun hc35 => ?_) (fun hc35 => ?_)
    ·have f3 : m.kind = 2 := by simpa using hc35
     have hN : fedN (x, D) m = addN (x.follows m, D) m := by unfold fedN; rw [if_neg f1, if_neg f2, if_pos f3]
     refine cj_seq fun K12 hK12 => ?_
     refine cj_region ?_
     refine Pm ?_
     first | refine Pa (Lb m117) ?_ | refine Pa (y_loads_slc m117 rfl fd_ rfl rfl om_) ?_
     refine rj_call (wn0 rfl) rfl Tryz.call98 rfl (add_t b v (x.follows m) D m ve k n hk hfo hfv hm hve hD hn) sp_ (fun ch Rp Lp hRp hpp => ?_) ?_
     · obtain ⟨hF, rfl, v3, hv3, rfl⟩ := hpp
       try simp only [cA, nA]
       refine hpan _ _ _ _ ?_
       refine ej_pan _ (ndL b v3 (addN (x.follows m, D) m).2.1 (addN (x.follows m, D) m).2.2) (by first | exact Hp.le_refl _ | assumption | exact Hp.le_trans ‹_› ‹_›) rfl sb_ ?_
       exact ⟨by rw [hN]; exact hF, rfl, v3, by rw [hN]; exact hv3, by rw [hN]⟩
     rintro r R8 L' hR8 ⟨hF, v3, hv3, rfl⟩
     try simp only [cA, nA]
     refine rj_nil ?_
     refine hK12 _ _ _ ?_
     refine cj_env eN ?_
     refine cj_ret ?_
     refine hret _ _ _ ?_
     refine Ea Tryz.results78 .nil (ndL b v3 (addN (x.follows m, D) m).2.1 (addN (x.follows m, D) m).2.2) (by first | exact Hp.le_refl _ | assumption) ?_
     rw [hN]; exact ⟨hF, v3, hv3, rfl⟩
    ·have f3 : ¬ m.kind = 2 := by simpa using hc35
     have hN : fedN (x, D) m = snapN (x.follows m, D) m := by unfold fedN; rw [if_neg f1, if_neg f2, if_neg f3]
     refine cj_skip ?_
     refine hK9 _ _ _ ?_
     refine cj_seq fun K13 hK13 => ?_
     have hJ10 : ∀ (x9 : ND × NV × DK × Hp), NIn (k + 1) x9.1 ∧ NOk x9.2.2.2 x9.2.1 x9.1 ∧ R.le x9.2.2.2 ∧ fedN (x, D) m = (true, (x9.1.answer m true x9.1.commit, x9.2.2.1)) → EJ ⟨Tryz.prog, 71, σ⟩ K13 [(0, .pointer (some ⟨b.x, 0, none⟩)), (3, .pointer (some ⟨b3, 0, none⟩))] x9.2.2.2 (blk b3 (msgC m ve) 117 :: ndB b x9.2.1 x9.1 :: lgN b x9.2.1 x9.1 :: dkB b.d x9.2.1.u x9.2.2.1 :: dkS x9.2.1.u x9.2.2.1 :: prA x9.2.1 x9.1 :: mpA x9.2.1.vm x9.1.votes :: outA x9.2.1 x9.1 :: F) := by
      rintro ⟨y, v2, D2, R2⟩ ⟨hy, hv2, hR2, hF⟩
      try dsimp only
      dsimp only at hy hv2 hR2 hF
      have hyo := hy.out
      refine hK13 _ _ _ ?_
      refine cj_mixg (L := [blk b3 (msgC m ve) 117, ndB b v2 y]) [0, 1, 2, 3, 4, 5] [] [6] _ sb_ (by kernel_rfl) (by kernel_rfl) (by kernel_rfl) rfl ?_
      refine Wa rfl (fun R1 hR1 G => (y_move rfl)) ?_
      first | refine Wa rfl (fun R1 hR1 G => (Lb m117)) ?_ | refine Wa rfl (fun R1 hR1 G => (y_loads_slc m117 rfl fd_ rfl rfl om_)) ?_
      refine Wa rfl (fun R1 hR1 G => (y_move rfl)) ?_
      refine Wa rfl (fun R1 hR1 G => (y_nilCheck rfl)) ?_
      refine Wa rfl (fun R1 hR1 G => (Ga Tryz.underlying109 Tryz.sizeOf36)) ?_
      first | refine Wa rfl (fun R1 hR1 G => (La o36)) ?_ | refine Wa rfl (fun R1 hR1 G => (Ls o36)) ?_
      refine fj_nil ?_
      refine xj_nil ?_
      try simp only [cA, nA, List.append_nil]
      refine Ra Tryz.call97 (answer_t b v2 y m ve true y.commit hv2.out hv2.vo (by omega) hveo) ?_
      rintro r R6 L' hR6 ⟨vo, css, hels, hvo2, rfl⟩
      have hR26 := Hp.le_trans hR2 hR6
      try simp only [cA, nA]
      refine rj_nil ?_
      refine hend _ _ _ ?_
      apply ej_end Tryz.results78 .nil _ (ndL b (v2.sent vo css) (y.answer m true y.commit) D2) (by first | exact Hp.le_refl _ | assumption) rfl
      case hp => rw [hF]; exact ⟨rfl, _, hv2.sent (y := y.answer m true y.commit) hR6 ⟨rfl, rfl⟩ hels hvo2, rfl⟩
      case hS => exact sb_
     refine cj_seq fun K14 hK14 => ?_
     refine cj_draw (by kernel_rfl) (by kernel_rfl) ?_
     refine Qa (Ga Tryz.underlying117 Tryz.sizeOf36) ?_
     first | refine Qa (La o36) ?_ | refine Qa (Ls o36) ?_
     refine Qa (y_move rfl) ?_
     refine Qa (y_nilCheck rfl) ?_
     refine Qa (Ga Tryz.underlying109 Tryz.sizeOf36) ?_
     first | refine Qa (La o36) ?_ | refine Qa (Ls o36) ?_
     refine Qa (y_gtr rfl rfl) ?_
     refine qj_nil ?_
     refine hK14 _ _ _ ?_
     refine cj_env (eL 0 rfl (eL 3 rfl (eL 45 rfl eN))) ?_
     refine cj_cond rfl (fun hc45 => ?_) (fun hc45 => ?_)
     ·have f4 : m.index > x.commit := by (try simp at hc45); omega
      obtain ⟨ra, hra⟩ : ∃ r, r = x.g.instD D m.index m.logTerm m.state := ⟨_, rfl⟩
      have hS : snapN (x.follows m, D) m = bindN (mustN (x.follows m, D) ra) fun s => (true, ({ s.1 with commit := m.index }.answer m true m.index, s.2)) := by unfold snapN; rw [if_pos (show m.index > (x.follows m).commit from f4), hra]; rfl
      rw [hS] at hN
      refine cj_seq fun K16 hK16 => ?_
      refine cj_mixg (L := [blk b3 (msgC m ve) 117, ndB b v (x.follows m)]) [0, 1, 2, 3, 4, 5, 6, 7, 8, 9, 10] [11] [12] _ sb_ (by kernel_rfl) (by kernel_rfl) (by kernel_rfl) rfl ?_
      refine Wa rfl (fun R1 hR1 G => (y_move rfl)) ?_
      refine Wa rfl (fun R1 hR1 G => (y_move rfl)) ?_
      refine Wa rfl (fun R1 hR1 G => (y_nilCheck rfl)) ?_
      refine Wa rfl (fun R1 hR1 G => (Ga Tryz.underlying109 Tryz.sizeOf55)) ?_
      first | refine Wa rfl (fun R1 hR1 G => (La o55)) ?_ | refine Wa rfl (fun R1 hR1 G => (Ls o55)) ?_
      refine Wa rfl (fun R1 hR1 G => (Ga Tryz.underlying117 Tryz.sizeOf36)) ?_
      first | refine Wa rfl (fun R1 hR1 G => (La o36)) ?_ | refine Wa rfl (fun R1 hR1 G => (Ls o36)) ?_
      refine Wa rfl (fun R1 hR1 G => (Ga Tryz.underlying117 Tryz.sizeOf36)) ?_
      first | refine Wa rfl (fun R1 hR1 G => (La o36)) ?_ | refine Wa rfl (fun R1 hR1 G => (Ls o36)) ?_
      refine Wa rfl (fun R1 hR1 G => (Ga Tryz.underlying117 Tryz.sizeOf9)) ?_
      first | refine Wa rfl (fun R1 hR1 G => (La o9)) ?_ | refine Wa rfl (fun R1 hR1 G => (Ls o9)) ?_
      refine fj_nil ?_
      refine xj_rj rfl ?_
      try simp only [cA, nA, List.append_nil]
      refine Ra Tryz.call99 (lgInstall_t b.l b.d v.va v.u x.g D n m.index m.logTerm m.state hg (by omega) (by unfold u64B; omega) hv.va hm.state (by omega) (by omega) hD) ?_
      rintro r R4 L' hR4 ⟨rfl, u2, va2, hva2, rfl⟩
      rw [← hra] at hva2 ⊢
      try simp only [cA, nA]
      refine rj_xk le_ sb_ ?_
      refine xj_nil ?_
      try simp only [cA, nA, List.append_nil]
      refine rj_call (wn0 rfl) rfl Tryz.call74 rfl (must_t b (v.logd u2 va2) (x.follows m) _) sp_ (fun ch Rp Lp hRp hpp => ?_) ?_
      · obtain ⟨he1, rfl, rfl⟩ := hpp
        try simp only [cA, nA]
        refine hpan _ _ _ _ ?_
        refine ej_pan _ (ndL b (v.logd u2 va2) { (x.follows m) with g := ra.2.1, down := true } ra.2.2) (by first | exact Hp.le_refl _ | assumption | exact Hp.le_trans ‹_› ‹_› | exact Hp.le_trans hR4 hRp) rfl sb_ ?_
        exact ⟨by rw [hN]; simp [bindN, mustN, he1], rfl, v.logd u2 va2, by rw [hN]; simp only [bindN, mustN, if_neg he1]; exact hfv.logd (y := { (x.follows m) with g := ra.2.1, down := true }) (Hp.le_trans hR4 hRp) ⟨rfl, rfl⟩ (hva2.mono hRp), by rw [hN]; simp [bindN, mustN, he1]⟩
      rintro r R5 L' hR5 ⟨he0, rfl⟩
      have hx1 : NIn (k + 1) { (x.follows m) with g := ra.2.1, commit := m.index } := by rw [hra, instD_ok (by rw [← hra]; exact he0)]; exact ((hfo.inst hidx hlt hm.state).comm (by omega)).le (by omega)
      have hR45 := Hp.le_trans hR4 hR5
      have hv1 : NOk R5 (v.logd u2 va2) { (x.follows m) with g := ra.2.1, commit := m.index } := hfv.logd (y := { (x.follows m) with g := ra.2.1, commit := m.index }) hR45 ⟨rfl, rfl⟩ (hva2.mono hR5)
      try simp only [cA, nA]
      refine rj_nil ?_
      refine hK16 _ _ _ ?_
      refine cj_region ?_
      refine Pm ?_
      refine Pa (Ga Tryz.underlying117 Tryz.sizeOf36) ?_
      first | refine Pa (La o36) ?_ | refine Pa (Ls o36) ?_
      refine Pa (y_nilCheck rfl) ?_
      refine Pa (Ga Tryz.underlying109 Tryz.sizeOf36) ?_
      refine Sa o36 ?_
      refine rj_nil ?_
      refine ej_join hJ10 (({ (x.follows m) with g := ra.2.1, commit := m.index }, v.logd u2 va2, ra.2.2, R5)) (⟨hx1, hv1, hR45, by rw [hN]; simp [bindN, mustN, he0]⟩) (eC rfl (eC rfl eN)) rfl sb_
     ·have f4 : ¬ m.index > x.commit := by (try simp at hc45); omega
      have hS : snapN (x.follows m, D) m = (true, ((x.follows m).answer m true x.commit, D)) := by unfold snapN; rw [if_neg (show ¬ m.index > (x.follows m).commit from f4)]; rfl
      rw [hS] at hN
      refine cj_skip ?_
      refine ej_join hJ10 ((x.follows m, v, D, R)) (⟨hfo.le (by omega), hfv, Hp.le_refl _, hN⟩) (eC rfl (eC rfl eN)) rfl sb_
end V
end Go.Proofs.YtenfjpigffjgmaaGreat
set_option linter.unusedSimpArgs false
set_option linter.unusedVariables false
set_option maxRecDepth 100000
namespace Go.Proofs.YtenfjpigffjgmaaGreat
open Go.RowKit
namespace V
set_option maxHeartbeats 4000000
structure MIm (k : Nat) (m : Msg) : Prop where
  term : 0 ≤ m.term ∧ m.term ≤ 2305843009213693952 + k
  index : 0 ≤ m.index ∧ m.index ≤ 100000000000000
  logTerm : 0 ≤ m.logTerm ∧ m.logTerm ≤ 2305843009213693952 + k
  commit : 0 ≤ m.commit ∧ m.commit < 18446744073709551616
  es : m.es.length ≤ 20 ∧ ∀ e ∈ m.es, (0 ≤ e.1 ∧ e.1 ≤ 2305843009213693952 + k) ∧ e.2.length ≤ 100
  state : m.state.length ≤ 1000000
theorem MIm.to {k j n : Nat} {m : Msg} (h : MIm k m) (hf : 0 ≤ m.frm ∧ m.frm < n) (hk : k ≤ j) : MIn j n m := MIn.le (k := k) ⟨hf, h.term, h.index, h.logTerm, h.commit, h.es, h.state⟩ hk
theorem NIn.newTerm {k : Nat} {x : ND} (h : NIn k x) : NIn k x.newTerm :=
  ⟨h.idn, h.term, h.vote, h.base, h.baseT, h.state, h.alln, h.all, h.commit, h.patience, fun hr => absurd (show (0 : Int) = 2 from hr) (by decide), h.peer, h.votes, h.out⟩
theorem NOk.newTerm {R : Hp} {v : NV} {x : ND} (h : NOk R v x) : NOk R v x.newTerm := ⟨h.va, h.out, h.vm, h.vp, h.vo, fun hr => absurd (show (0 : Int) = 1 from hr) (by decide)⟩
theorem DK.ok_le {D : DK} {n m : Nat} (h : D.ok n) (hm : n ≤ m) : D.ok m := ⟨h.1, by have := h.2.1; omega, h.2.2⟩
theorem receive1_t {R : Hp} (b : NB) (v : NV) (x : ND) (D : DK) (m : Msg) (ve : Value) (k n bX bM : Nat) (hk : k ≤ 40) (hx : NIn k x) (hv : NOk R v x) (hm : MIm k m) (hve : FrX entE R m.es ve) (hD : D.ok n) (hn : n ≤ 700000000) :
    Tri Tryz.prog 73 [.pointer (some ⟨bM, 0, none⟩), .pointer (some ⟨bX, 0, none⟩)] R (blk bX [.pointer (some ⟨b.x, 0, none⟩)] 56 :: blk bM (msgC m ve) 117 :: ndL b v x D) (NRet b (receiveN (x, D) m)) (NPan b (receiveN (x, D) m)) := by
  have hg := hx.g (by omega)
  have hmt := hm.term
  refine tri_of Tryz.func73 rfl Tryz.ntmps73 rfl (fun σ F Q hret hend hpan => ?_)
  try simp only [cA, nA]
  refine cj_seq fun K1 hK1 => ?_
  refine cj_seq fun K2 hK2 => ?_
  refine cj_draw (by kernel_rfl) (by kernel_rfl) ?_
  refine Qa (Ga Tryz.underlying117 Tryz.sizeOf3) ?_
  first | refine Qa (La o3) ?_ | refine Qa (Ls o3) ?_
  first | refine Qa (La o56) ?_ | refine Qa (Ls o56) ?_
  refine Qa (y_nilCheck rfl) ?_
  refine Qa (Ga Tryz.underlying109 Tryz.sizeOf3) ?_
  first | refine Qa (La o3) ?_ | refine Qa (Ls o3) ?_
  refine Qa (y_neq rfl rfl) ?_
  refine Qa (y_move rfl) ?_
  refine qj_part 9 rfl (fun hg9 => ?_) (fun hg9 => ?_)
  ·have f0 : ¬ m.to = x.id ∨ m.frm = x.id ∨ m.frm < 0 ∨ m.frm ≥ x.n := .inl (by simpa using hg9)
   refine Qk ?_
   refine Qk ?_
   refine Qk ?_
   refine Qk ?_
   refine Qk ?_
   refine Qk ?_
   refine Qk ?_
   refine Qa (y_pick_t rfl rfl) ?_
   refine Qa (y_move rfl) ?_
   refine Qk ?_
   refine Qk ?_
   refine Qk ?_
   refine Qa (y_pick_t rfl rfl) ?_
   refine Qa (y_move rfl) ?_
   refine Qk ?_
   refine Qk ?_
   refine Qk ?_
   refine Qk ?_
   refine Qk ?_
   refine Qk ?_
   refine Qk ?_
   refine Qa (y_pick_t rfl rfl) ?_
   refine qj_nil ?_
   refine hK2 _ _ _ ?_
   refine cj_env (eL 0 rfl (eL 1 rfl (eL 31 rfl eN))) ?_
   refine cj_cond_t rfl ?_
   refine cj_ret ?_
   refine hret _ _ _ ?_
   refine Ea Tryz.results73 .nil (ndL b v x D) (by first | exact Hp.le_refl _ | assumption) ?_
   rw [show receiveN (x, D) m = (true, (x, D)) by unfold receiveN; rw [if_pos f0]]; exact ⟨rfl, v, hv, rfl⟩
  ·have f1 : m.to = x.id := by simpa using hg9
   refine Qb (Ga Tryz.underlying117 Tryz.sizeOf3) ?_
   first | refine Qb (La o3) ?_ | refine Qb (Ls o3) ?_
   first | refine Qb (La o56) ?_ | refine Qb (Ls o56) ?_
   refine Qb (y_nilCheck rfl) ?_
   refine Qb (Ga Tryz.underlying109 Tryz.sizeOf3) ?_
   first | refine Qb (La o3) ?_ | refine Qb (Ls o3) ?_
   refine Qb (y_eql rfl rfl) ?_
   refine Qa (y_pick_f rfl rfl) ?_
   refine Qa (y_move rfl) ?_
   refine qj_part 18 rfl (fun hg18 => ?_) (fun hg18 => ?_)
   ·first|(have f0 : ¬ m.to = x.id ∨ m.frm = x.id ∨ m.frm < 0 ∨ m.frm ≥ x.n := .inr (.inl (by simpa using hg18)))|skip
    refine Qk ?_
    refine Qk ?_
    refine Qk ?_
    refine Qa (y_pick_t rfl rfl) ?_
    refine Qa (y_move rfl) ?_
    refine Qk ?_
    refine Qk ?_
    refine Qk ?_
    refine Qk ?_
    refine Qk ?_
    refine Qk ?_
    refine Qk ?_
    refine Qa (y_pick_t rfl rfl) ?_
    refine qj_nil ?_
    refine hK2 _ _ _ ?_
    refine cj_env (eL 0 rfl (eL 1 rfl (eL 31 rfl eN))) ?_
    refine cj_cond_t rfl ?_
    refine cj_ret ?_
    refine hret _ _ _ ?_
    refine Ea Tryz.results73 .nil (ndL b v x D) (by first | exact Hp.le_refl _ | assumption) ?_
    rw [show receiveN (x, D) m = (true, (x, D)) by unfold receiveN; rw [if_pos f0]]; exact ⟨rfl, v, hv, rfl⟩
   ·first|(have f2 : ¬ m.frm = x.id := by simpa using hg18)|skip
    refine Qb (Ga Tryz.underlying117 Tryz.sizeOf3) ?_
    first | refine Qb (La o3) ?_ | refine Qb (Ls o3) ?_
    refine Qb (y_lss rfl rfl) ?_
    refine Qa (y_pick_f rfl rfl) ?_
    refine Qa (y_move rfl) ?_
    refine qj_part 23 rfl (fun hg23 => ?_) (fun hg23 => ?_)
    ·first|(have f0 : ¬ m.to = x.id ∨ m.frm = x.id ∨ m.frm < 0 ∨ m.frm ≥ x.n := .inr (.inr (.inl (by simpa using hg23))))|skip
     refine Qk ?_
     refine Qk ?_
     refine Qk ?_
     refine Qk ?_
     refine Qk ?_
     refine Qk ?_
     refine Qk ?_
     refine Qa (y_pick_t rfl rfl) ?_
     refine qj_nil ?_
     refine hK2 _ _ _ ?_
     refine cj_cond_t rfl ?_
     refine cj_ret ?_
     refine hret _ _ _ ?_
     refine Ea Tryz.results73 .nil (ndL b v x D) (by first | exact Hp.le_refl _ | assumption) ?_
     rw [show receiveN (x, D) m = (true, (x, D)) by unfold receiveN; rw [if_pos f0]]; exact ⟨rfl, v, hv, rfl⟩
    ·first|(have f3 : ¬ m.frm < 0 := by simpa using hg23)|skip
     refine Qb (Ga Tryz.underlying117 Tryz.sizeOf3) ?_
     first | refine Qb (La o3) ?_ | refine Qb (Ls o3) ?_
     first | refine Qb (La o56) ?_ | refine Qb (Ls o56) ?_
     refine Qb (y_nilCheck rfl) ?_
     refine Qb (Ga Tryz.underlying109 Tryz.sizeOf3) ?_
     first | refine Qb (La o3) ?_ | refine Qb (Ls o3) ?_
     refine Qb (y_geq rfl rfl) ?_
     refine Qa (y_pick_f rfl rfl) ?_
     refine qj_nil ?_
     refine hK2 _ _ _ ?_
     refine cj_env (eL 0 rfl (eL 1 rfl (eL 31 rfl eN))) ?_
     refine cj_cond rfl (fun hc31 => ?_) (fun hc31 => ?_)
     ·first|(have f0 : ¬ m.to = x.id ∨ m.frm = x.id ∨ m.frm < 0 ∨ m.frm ≥ x.n := .inr (.inr (.inr (by simpa using hc31))))|skip
      refine cj_ret ?_
      refine hret _ _ _ ?_
      refine Ea Tryz.results73 .nil (ndL b v x D) (by first | exact Hp.le_refl _ | assumption) ?_
      rw [show receiveN (x, D) m = (true, (x, D)) by unfold receiveN; rw [if_pos f0]]; exact ⟨rfl, v, hv, rfl⟩
     ·have f4 : ¬ m.frm ≥ x.n := by (try simp at hc31); omega
      have f0 : ¬ (¬ m.to = x.id ∨ m.frm = x.id ∨ m.frm < 0 ∨ m.frm ≥ x.n) := by omega
      have hfr : 0 ≤ m.frm ∧ m.frm < x.n := by omega
      refine cj_skip ?_
      refine hK1 _ _ _ ?_
      refine cj_seq fun K4 hK4 => ?_
      have hJ4 : ∀ (x9 : ND × NV × DK × Hp), NIn (k + 1) x9.1 ∧ NOk x9.2.2.2 x9.2.1 x9.1 ∧ R.le x9.2.2.2 ∧ receiveN (x, D) m = kindN (x9.1, x9.2.2.1) m ∧ x9.1.n = x.n ∧ x9.2.2.1.ok (n + 44) → EJ ⟨Tryz.prog, 78, σ⟩ K4 [(0, .pointer (some ⟨bM, 0, none⟩)), (1, .pointer (some ⟨bX, 0, none⟩))] x9.2.2.2 (blk bX [.pointer (some ⟨b.x, 0, none⟩)] 56 :: blk bM (msgC m ve) 117 :: ndB b x9.2.1 x9.1 :: lgN b x9.2.1 x9.1 :: dkB b.d x9.2.1.u x9.2.2.1 :: dkS x9.2.1.u x9.2.2.1 :: prA x9.2.1 x9.1 :: mpA x9.2.1.vm x9.1.votes :: outA x9.2.1 x9.1 :: F) := by
       rintro ⟨y, v2, D2, R2⟩ ⟨hy, hv2, hR2, hF, hyn, hD2⟩
       try dsimp only
       dsimp only at hy hv2 hR2 hF hyn hD2
       have hmy : MIn (k + 1) y.n m := hm.to (by rw [hyn]; exact hfr) (by omega)
       have hve2 := hve.mono hR2
       refine hK4 _ _ _ ?_
       refine cj_seq fun K5 hK5 => ?_
       refine cj_region ?_
       refine Pa (Ga Tryz.underlying117 Tryz.sizeOf3) ?_
       first | refine Pa (La o3) ?_ | refine Pa (Ls o3) ?_
       refine rj_nil ?_
       refine hK5 _ _ _ ?_
       refine cj_block ?_
       refine cj_seq fun K6 hK6 => ?_
       refine cj_region ?_
       refine Pa (y_eql rfl rfl) ?_
       refine Ps ?_
       refine rj_nil ?_
       refine hK6 _ _ _ ?_
       refine cj_cond rfl (fun hc57 => ?_) (fun hc57 => ?_)
       ·have e0 : m.kind = 0 := by simpa using hc57
        have hK : kindN (y, D2) m = askedN (y, D2) m := by unfold kindN; rw [if_pos e0]
        refine cj_region ?_
        first | refine Pa (La o56) ?_ | refine Pa (Ls o56) ?_
        refine Pa ((Lm (vs := msgC m ve) m117)) ?_
        refine rj_call (wn0 rfl) rfl Tryz.call76 rfl (asked_t b v2 y D2 m ve (k + 1) (n + 44) (by omega) hy hv2 hmy hve2 hD2 (by omega)) sp_ (fun ch Rp Lp hRp hpp => ?_) ?_
        · obtain ⟨hG, rfl, v3, hv3, rfl⟩ := hpp
          try simp only [cA, nA]
          refine hpan _ _ _ _ ?_
          refine ej_pan _ (ndL b v3 (askedN (y, D2) m).2.1 (askedN (y, D2) m).2.2) (by first | exact Hp.le_refl _ | assumption | exact Hp.le_trans ‹_› ‹_› | exact Hp.le_trans hR2 hRp) rfl sb_ ?_
          exact ⟨by rw [hF, hK]; exact hG, rfl, v3, by rw [hF, hK]; exact hv3, by rw [hF, hK]⟩
        rintro r R8 L' hR8 ⟨hG, v3, hv3, rfl⟩
        have hR28 := Hp.le_trans hR2 hR8
        try simp only [cA, nA]
        refine rj_nil ?_
        refine hend _ _ _ ?_
        apply ej_end Tryz.results73 .nil _ (ndL b v3 (askedN (y, D2) m).2.1 (askedN (y, D2) m).2.2) (by first | exact Hp.le_refl _ | assumption) rfl
        case hp => rw [hF, hK]; exact ⟨hG, v3, hv3, rfl⟩
        case hS => exact sb_
       ·have e0 : ¬ m.kind = 0 := by simpa using hc57
        refine cj_seq fun K8 hK8 => ?_
        refine cj_region ?_
        refine Pa (y_eql rfl rfl) ?_
        refine Ps ?_
        refine rj_nil ?_
        refine hK8 _ _ _ ?_
        refine cj_cond rfl (fun hc62 => ?_) (fun hc62 => ?_)
        ·have e1 : m.kind = 1 := by simpa using hc62
         have hK : kindN (y, D2) m = votedN (y, D2) m := by unfold kindN; rw [if_neg e0, if_pos e1]
         refine cj_region ?_
         first | refine Pa (La o56) ?_ | refine Pa (Ls o56) ?_
         refine Pa ((Lm (vs := msgC m ve) m117)) ?_
         refine rj_call (wn0 rfl) rfl Tryz.call77 rfl (voted_t b v2 y D2 m ve (k + 1) (n + 44) (by omega) hy hv2 hmy hve2 hD2 (by omega)) sp_ (fun ch Rp Lp hRp hpp => ?_) ?_
         · obtain ⟨hG, rfl, v3, hv3, rfl⟩ := hpp
           try simp only [cA, nA]
           refine hpan _ _ _ _ ?_
           refine ej_pan _ (ndL b v3 (votedN (y, D2) m).2.1 (votedN (y, D2) m).2.2) (by first | exact Hp.le_refl _ | assumption | exact Hp.le_trans ‹_› ‹_› | exact Hp.le_trans hR2 hRp) rfl sb_ ?_
           exact ⟨by rw [hF, hK]; exact hG, rfl, v3, by rw [hF, hK]; exact hv3, by rw [hF, hK]⟩
         rintro r R8 L' hR8 ⟨hG, v3, hv3, rfl⟩
         have hR28 := Hp.le_trans hR2 hR8
         try simp only [cA, nA]
         refine rj_nil ?_
         refine hend _ _ _ ?_
         apply ej_end Tryz.results73 .nil _ (ndL b v3 (votedN (y, D2) m).2.1 (votedN (y, D2) m).2.2) (by first | exact Hp.le_refl _ | assumption) rfl
         case hp => rw [hF, hK]; exact ⟨hG, v3, hv3, rfl⟩
         case hS => exact sb_
        ·have e1 : ¬ m.kind = 1 := by simpa using hc62
         refine cj_seq fun K10 hK10 => ?_
         refine cj_seq fun K11 hK11 => ?_
         refine cj_region ?_
         refine Pa (y_eql rfl rfl) ?_
         refine Ps ?_
         refine rj_nil ?_
         refine hK11 _ _ _ ?_
         refine cj_cond rfl (fun hc67 => ?_) (fun hc67 => ?_)
         ·first|(have e6 : m.kind = 2 := by simpa using hc67)|(have e7 : m.kind = 4 := by simpa using hc67)|skip
          first|(have e2 : m.kind = 2 ∨ m.kind = 4 := .inl (by simpa using hc67))|(have e2 : m.kind = 2 ∨ m.kind = 4 := .inr (by simpa using hc67))|skip
          first|(have hK : kindN (y, D2) m = fedN (y, D2) m := by unfold kindN; rw [if_neg e0, if_neg e1, if_pos e2])|skip
          refine cj_skip ?_
          refine hK10 _ _ _ ?_
          refine cj_cond rfl (fun hc67 => ?_) (fun hc67 => ?_)
          ·first|(have e6 : m.kind = 2 := by simpa using hc67)|(have e7 : m.kind = 4 := by simpa using hc67)|skip
           first|(have e2 : m.kind = 2 ∨ m.kind = 4 := .inl (by simpa using hc67))|(have e2 : m.kind = 2 ∨ m.kind = 4 := .inr (by simpa using hc67))|skip
           first|(have hK : kindN (y, D2) m = fedN (y, D2) m := by unfold kindN; rw [if_neg e0, if_neg e1, if_pos e2])|skip
           refine cj_region ?_
           first | refine Pa (La o56) ?_ | refine Pa (Ls o56) ?_
           refine Pa ((Lm (vs := msgC m ve) m117)) ?_
           refine rj_call (wn0 rfl) rfl Tryz.call78 rfl (fed_t b v2 y D2 m ve (k + 1) (n + 44) (by omega) hy hv2 hmy hve2 hD2 (by omega)) sp_ (fun ch Rp Lp hRp hpp => ?_) ?_
           · obtain ⟨hG, rfl, v3, hv3, rfl⟩ := hpp
             try simp only [cA, nA]
             refine hpan _ _ _ _ ?_
             refine ej_pan _ (ndL b v3 (fedN (y, D2) m).2.1 (fedN (y, D2) m).2.2) (by first | exact Hp.le_refl _ | assumption | exact Hp.le_trans ‹_› ‹_› | exact Hp.le_trans hR2 hRp) rfl sb_ ?_
             exact ⟨by rw [hF, hK]; exact hG, rfl, v3, by rw [hF, hK]; exact hv3, by rw [hF, hK]⟩
           rintro r R8 L' hR8 ⟨hG, v3, hv3, rfl⟩
           have hR28 := Hp.le_trans hR2 hR8
           try simp only [cA, nA]
           refine rj_nil ?_
           refine hend _ _ _ ?_
           apply ej_end Tryz.results73 .nil _ (ndL b v3 (fedN (y, D2) m).2.1 (fedN (y, D2) m).2.2) (by first | exact Hp.le_refl _ | assumption) rfl
           case hp => rw [hF, hK]; exact ⟨hG, v3, hv3, rfl⟩
           case hS => exact sb_
          ·first|(have e3 : ¬ m.kind = 2 := by simpa using hc67)|(have e4 : ¬ m.kind = 4 := by simpa using hc67)|skip
           refine cj_seq fun K14 hK14 => ?_
           refine cj_region ?_
           refine Pa (y_eql rfl rfl) ?_
           refine Ps ?_
           refine rj_nil ?_
           refine hK14 _ _ _ ?_
           refine cj_cond rfl (fun hc73 => ?_) (fun hc73 => ?_)
           ·have e5 : m.kind = 3 := by simpa using hc73
            have hK : kindN (y, D2) m = heardN (y, D2) m := by unfold kindN; rw [if_neg e0, if_neg e1, if_neg (fun h => by omega), if_pos e5]
            refine cj_region ?_
            first | refine Pa (La o56) ?_ | refine Pa (Ls o56) ?_
            refine Pa ((Lm (vs := msgC m ve) m117)) ?_
            refine rj_call (wn0 rfl) rfl Tryz.call79 rfl (heard_t b v2 y D2 m ve (k + 1) (by omega) hy hv2 hmy hve2) sp_ (fun ch Rp Lp hRp hpp => ?_) ?_
            · obtain ⟨hG, rfl, v3, hv3, rfl⟩ := hpp
              try simp only [cA, nA]
              refine hpan _ _ _ _ ?_
              refine ej_pan _ (ndL b v3 (heardN (y, D2) m).2.1 (heardN (y, D2) m).2.2) (by first | exact Hp.le_refl _ | assumption | exact Hp.le_trans ‹_› ‹_› | exact Hp.le_trans hR2 hRp) rfl sb_ ?_
              exact ⟨by rw [hF, hK]; exact hG, rfl, v3, by rw [hF, hK]; exact hv3, by rw [hF, hK]⟩
            rintro r R8 L' hR8 ⟨hG, v3, hv3, rfl⟩
            have hR28 := Hp.le_trans hR2 hR8
            try simp only [cA, nA]
            refine rj_nil ?_
            refine hend _ _ _ ?_
            apply ej_end Tryz.results73 .nil _ (ndL b v3 (heardN (y, D2) m).2.1 (heardN (y, D2) m).2.2) (by first | exact Hp.le_refl _ | assumption) rfl
            case hp => rw [hF, hK]; exact ⟨hG, v3, hv3, rfl⟩
            case hS => exact sb_
           ·have e5 : ¬ m.kind = 3 := by simpa using hc73
            have hK : kindN (y, D2) m = (true, (y, D2)) := by unfold kindN; rw [if_neg e0, if_neg e1, if_neg (fun h => by omega), if_neg e5]
            refine cj_skip ?_
            refine hend _ _ _ ?_
            apply ej_end Tryz.results73 .nil _ (ndL b v2 y D2) (by first | exact Hp.le_refl _ | assumption) rfl
            case hp => rw [hF, hK]; exact ⟨rfl, v2, hv2, rfl⟩
            case hS => exact sb_
         ·first|(have e3 : ¬ m.kind = 2 := by simpa using hc67)|(have e4 : ¬ m.kind = 4 := by simpa using hc67)|skip
          refine cj_region ?_
          refine Pa (y_eql rfl rfl) ?_
          refine Ps ?_
          refine rj_nil ?_
          refine hK10 _ _ _ ?_
          refine cj_env (eL 0 rfl (eL 1 rfl (eL 56 rfl (eL 67 rfl eN)))) ?_
          refine cj_cond rfl (fun hc67 => ?_) (fun hc67 => ?_)
          ·first|(have e6 : m.kind = 2 := by simpa using hc67)|(have e7 : m.kind = 4 := by simpa using hc67)|skip
           first|(have e2 : m.kind = 2 ∨ m.kind = 4 := .inl (by simpa using hc67))|(have e2 : m.kind = 2 ∨ m.kind = 4 := .inr (by simpa using hc67))|skip
           first|(have hK : kindN (y, D2) m = fedN (y, D2) m := by unfold kindN; rw [if_neg e0, if_neg e1, if_pos e2])|skip
           refine cj_region ?_
           first | refine Pa (La o56) ?_ | refine Pa (Ls o56) ?_
           refine Pa ((Lm (vs := msgC m ve) m117)) ?_
           refine rj_call (wn0 rfl) rfl Tryz.call78 rfl (fed_t b v2 y D2 m ve (k + 1) (n + 44) (by omega) hy hv2 hmy hve2 hD2 (by omega)) sp_ (fun ch Rp Lp hRp hpp => ?_) ?_
           · obtain ⟨hG, rfl, v3, hv3, rfl⟩ := hpp
             try simp only [cA, nA]
             refine hpan _ _ _ _ ?_
             refine ej_pan _ (ndL b v3 (fedN (y, D2) m).2.1 (fedN (y, D2) m).2.2) (by first | exact Hp.le_refl _ | assumption | exact Hp.le_trans ‹_› ‹_› | exact Hp.le_trans hR2 hRp) rfl sb_ ?_
             exact ⟨by rw [hF, hK]; exact hG, rfl, v3, by rw [hF, hK]; exact hv3, by rw [hF, hK]⟩
           rintro r R8 L' hR8 ⟨hG, v3, hv3, rfl⟩
           have hR28 := Hp.le_trans hR2 hR8
           try simp only [cA, nA]
           refine rj_nil ?_
           refine hend _ _ _ ?_
           apply ej_end Tryz.results73 .nil _ (ndL b v3 (fedN (y, D2) m).2.1 (fedN (y, D2) m).2.2) (by first | exact Hp.le_refl _ | assumption) rfl
           case hp => rw [hF, hK]; exact ⟨hG, v3, hv3, rfl⟩
           case hS => exact sb_
          ·first|(have e3 : ¬ m.kind = 2 := by simpa using hc67)|(have e4 : ¬ m.kind = 4 := by simpa using hc67)|skip
           refine cj_seq fun K17 hK17 => ?_
           refine cj_region ?_
           refine Pa (y_eql rfl rfl) ?_
           refine Ps ?_
           refine rj_nil ?_
           refine hK17 _ _ _ ?_
           refine cj_cond rfl (fun hc73 => ?_) (fun hc73 => ?_)
           ·have e5 : m.kind = 3 := by simpa using hc73
            have hK : kindN (y, D2) m = heardN (y, D2) m := by unfold kindN; rw [if_neg e0, if_neg e1, if_neg (fun h => by omega), if_pos e5]
            refine cj_region ?_
            first | refine Pa (La o56) ?_ | refine Pa (Ls o56) ?_
            refine Pa ((Lm (vs := msgC m ve) m117)) ?_
            refine rj_call (wn0 rfl) rfl Tryz.call79 rfl (heard_t b v2 y D2 m ve (k + 1) (by omega) hy hv2 hmy hve2) sp_ (fun ch Rp Lp hRp hpp => ?_) ?_
            · obtain ⟨hG, rfl, v3, hv3, rfl⟩ := hpp
              try simp only [cA, nA]
              refine hpan _ _ _ _ ?_
              refine ej_pan _ (ndL b v3 (heardN (y, D2) m).2.1 (heardN (y, D2) m).2.2) (by first | exact Hp.le_refl _ | assumption | exact Hp.le_trans ‹_› ‹_› | exact Hp.le_trans hR2 hRp) rfl sb_ ?_
              exact ⟨by rw [hF, hK]; exact hG, rfl, v3, by rw [hF, hK]; exact hv3, by rw [hF, hK]⟩
            rintro r R8 L' hR8 ⟨hG, v3, hv3, rfl⟩
            have hR28 := Hp.le_trans hR2 hR8
            try simp only [cA, nA]
            refine rj_nil ?_
            refine hend _ _ _ ?_
            apply ej_end Tryz.results73 .nil _ (ndL b v3 (heardN (y, D2) m).2.1 (heardN (y, D2) m).2.2) (by first | exact Hp.le_refl _ | assumption) rfl
            case hp => rw [hF, hK]; exact ⟨hG, v3, hv3, rfl⟩
            case hS => exact sb_
           ·have e5 : ¬ m.kind = 3 := by simpa using hc73
            have hK : kindN (y, D2) m = (true, (y, D2)) := by unfold kindN; rw [if_neg e0, if_neg e1, if_neg (fun h => by omega), if_neg e5]
            refine cj_skip ?_
            refine hend _ _ _ ?_
            apply ej_end Tryz.results73 .nil _ (ndL b v2 y D2) (by first | exact Hp.le_refl _ | assumption) rfl
            case hp => rw [hF, hK]; exact ⟨rfl, v2, hv2, rfl⟩
            case hS => exact sb_
      refine cj_seq fun K19 hK19 => ?_
      refine cj_draw (by kernel_rfl) (by kernel_rfl) ?_
      refine Qa (Ga Tryz.underlying117 Tryz.sizeOf36) ?_
      first | refine Qa (La o36) ?_ | refine Qa (Ls o36) ?_
      first | refine Qa (La o56) ?_ | refine Qa (Ls o56) ?_
      refine Qa (y_nilCheck rfl) ?_
      refine Qa (Ga Tryz.underlying109 Tryz.sizeOf55) ?_
      first | refine Qa (La o55) ?_ | refine Qa (Ls o55) ?_
      refine Qa (Ca Tryz.call24 (lgTerm_q b.l (some ⟨b.d, 0, none⟩) v.va x.g)) ?_
      refine Qa (y_gtr rfl rfl) ?_
      refine qj_nil ?_
      refine hK19 _ _ _ ?_
      refine cj_cond rfl (fun hc39 => ?_) (fun hc39 => ?_)
      ·have f5 : m.term > x.g.term := by (try simp at hc39); omega
       obtain ⟨ra, hra⟩ : ∃ r, r = x.g.setTermD D m.term (-1) := ⟨_, rfl⟩
       have hN : receiveN (x, D) m = bindN (mustN (x, D) ra) fun s => kindN (s.1.newTerm, s.2) m := by unfold receiveN; rw [if_neg f0, if_pos f5, hra]
       refine cj_seq fun K21 hK21 => ?_
       refine cj_mixg (L := [blk bX [.pointer (some ⟨b.x, 0, none⟩)] 56, blk bM (msgC m ve) 117, ndB b v x]) [0, 1, 2, 3, 4, 5, 6] [7] [8] _ sb_ (by kernel_rfl) (by kernel_rfl) (by kernel_rfl) rfl ?_
       first | refine Wa rfl (fun R1 hR1 G => (La o56)) ?_ | refine Wa rfl (fun R1 hR1 G => (Ls o56)) ?_
       first | refine Wa rfl (fun R1 hR1 G => (La o56)) ?_ | refine Wa rfl (fun R1 hR1 G => (Ls o56)) ?_
       refine Wa rfl (fun R1 hR1 G => (y_nilCheck rfl)) ?_
       refine Wa rfl (fun R1 hR1 G => (Ga Tryz.underlying109 Tryz.sizeOf55)) ?_
       first | refine Wa rfl (fun R1 hR1 G => (La o55)) ?_ | refine Wa rfl (fun R1 hR1 G => (Ls o55)) ?_
       refine Wa rfl (fun R1 hR1 G => (Ga Tryz.underlying117 Tryz.sizeOf36)) ?_
       first | refine Wa rfl (fun R1 hR1 G => (La o36)) ?_ | refine Wa rfl (fun R1 hR1 G => (Ls o36)) ?_
       refine fj_nil ?_
       refine xj_rj rfl ?_
       try simp only [cA, nA, List.append_nil]
       refine Ra Tryz.call75 (lgSetTerm_t b.l b.d v.va v.u x.g D n m.term (-1) hg (by unfold u64B; omega) (by omega) (by omega) hv.va.one hD (by omega)) ?_
       rintro r R4 L' hR4 ⟨rfl, u2, rfl⟩
       rw [← hra]
       have hall : ra.2.1.all = x.g.all := by rw [hra]; exact setD_all
       have hDk : ra.2.2.ok (n + 44) := by rw [hra]; exact setD_dk hD (by unfold u64B; omega) (by omega)
       try simp only [cA, nA]
       refine rj_xk le_ sb_ ?_
       refine xj_nil ?_
       try simp only [cA, nA, List.append_nil]
       refine rj_call (wn0 rfl) rfl Tryz.call74 rfl (must_t b (v.logd u2 v.va) x _) sp_ (fun ch Rp Lp hRp hpp => ?_) ?_
       · obtain ⟨he1, rfl, rfl⟩ := hpp
         try simp only [cA, nA]
         refine hpan _ _ _ _ ?_
         refine ej_pan _ (ndL b (v.logd u2 v.va) { x with g := ra.2.1, down := true } ra.2.2) (by first | exact Hp.le_refl _ | assumption | exact Hp.le_trans ‹_› ‹_› | exact Hp.le_trans hR4 hRp) rfl sb_ ?_
         exact ⟨by rw [hN]; simp [bindN, mustN, he1], rfl, v.logd u2 v.va, by rw [hN]; simp only [bindN, mustN, if_neg he1]; exact hv.logd (y := { x with g := ra.2.1, down := true }) (Hp.le_trans hR4 hRp) ⟨rfl, rfl⟩ (by show FrX entE Rp ra.2.1.all v.va; rw [hall]; exact hv.va.mono (Hp.le_trans hR4 hRp)), by rw [hN]; simp [bindN, mustN, he1]⟩
       rintro r R5 L' hR5 ⟨he0, rfl⟩
       have hx1 : NIn (k + 1) (ND.newTerm { x with g := ra.2.1 }) := by rw [hra, setD_ok (by rw [← hra]; exact he0)]; exact (hx.set (t := m.term) (vt := -1) (by omega) (by omega)).newTerm
       have hR45 := Hp.le_trans hR4 hR5
       have hv1 : NOk R5 (v.logd u2 v.va) (ND.newTerm { x with g := ra.2.1 }) := NOk.newTerm (hv.logd (y := { x with g := ra.2.1 }) hR45 ⟨rfl, rfl⟩ (by show FrX entE R5 ra.2.1.all v.va; rw [hall]; exact hv.va.mono hR45))
       try simp only [cA, nA]
       refine rj_nil ?_
       refine hK21 _ _ _ ?_
       refine cj_env (eL 0 rfl (eL 1 rfl eN)) ?_
       refine cj_region ?_
       first | refine Pa (La o56) ?_ | refine Pa (Ls o56) ?_
       first | refine Pa (La o56) ?_ | refine Pa (Ls o56) ?_
       refine Pa (y_nilCheck rfl) ?_
       refine Pa (Ga Tryz.underlying109 Tryz.sizeOf3) ?_
       refine Sa o3 ?_
       refine Pa (y_nilCheck rfl) ?_
       refine Pa (Ga Tryz.underlying109 Tryz.sizeOf3) ?_
       refine Sa o3 ?_
       refine rj_nil ?_
       refine ej_join hJ4 ((ND.newTerm { x with g := ra.2.1 }, v.logd u2 v.va, ra.2.2, R5)) (⟨hx1, hv1, hR45, by rw [hN]; simp [bindN, mustN, he0], rfl, hDk⟩) (eC rfl (eC rfl eN)) rfl sb_
      ·have f5 : ¬ m.term > x.g.term := by (try simp at hc39); omega
       have hN : receiveN (x, D) m = kindN (x, D) m := by unfold receiveN; rw [if_neg f0, if_neg f5]
       refine cj_skip ?_
       refine ej_join hJ4 ((x, v, D, R)) (⟨hx.le (by omega), hv, Hp.le_refl _, hN, rfl, DK.ok_le hD (by omega)⟩) (eC rfl (eC rfl eN)) rfl sb_
theorem propose1_t {R : Hp} (b : NB) (v : NV) (x : ND) (D : DK) (cmd : Bs) (k n bX bC : Nat) (hk : k ≤ 40) (hx : NIn k x) (hv : NOk R v x) (hr : x.role = 2) (hc : cmd.length ≤ 100) (hD : D.ok n) (hn : n ≤ 700000000) :
    Tri Tryz.prog 63 [.pointer (some ⟨bX, 0, none⟩), .pointer (some ⟨bC, 0, none⟩)] R (blk bX [.pointer (some ⟨b.x, 0, none⟩)] 56 :: blk bC [.string (str cmd)] 9 :: ndL b v x D) (fun r R' L' => (entryN (x, D) cmd).1 = true ∧ ∃ v', NOk R' v' (entryN (x, D) cmd).2.1 ∧ L' = ndL b v' (entryN (x, D) cmd).2.1 (entryN (x, D) cmd).2.2 ++ [blk bX [.pointer (some ⟨b.x, 0, none⟩)] 56, blk bC [.string (str cmd)] 9]) (fun ch R' L' => (entryN (x, D) cmd).1 = false ∧ ch = [lostE] ∧ ∃ v', NOk R' v' (entryN (x, D) cmd).2.1 ∧ L' = ndL b v' (entryN (x, D) cmd).2.1 (entryN (x, D) cmd).2.2 ++ [blk bX [.pointer (some ⟨b.x, 0, none⟩)] 56, blk bC [.string (str cmd)] 9]) := by
  refine tri_of Tryz.func63 rfl Tryz.ntmps63 rfl (fun σ F Q hret hend hpan => ?_)
  try simp only [cA, nA]
  refine cj_region ?_
  first | refine Pa (La o56) ?_ | refine Pa (Ls o56) ?_
  first | refine Pa (La o9) ?_ | refine Pa (Ls o9) ?_
  refine rj_call (wn0 rfl) rfl Tryz.call64 rfl (entry_t b v x D cmd k n (by omega) hx hv (hx.peers hr) hc hD (by omega)) sp_ (fun ch Rp Lp hRp hpp => ?_) ?_
  · obtain ⟨hF, rfl, v2, hv2, rfl⟩ := hpp
    try simp only [cA, nA]
    refine hpan _ _ _ _ ?_
    refine ej_pan _ (ndL b v2 (entryN (x, D) cmd).2.1 (entryN (x, D) cmd).2.2 ++ [blk bX [.pointer (some ⟨b.x, 0, none⟩)] 56, blk bC [.string (str cmd)] 9]) (by first | exact Hp.le_refl _ | assumption | exact Hp.le_trans ‹_› ‹_›) rfl sb_ ?_
    exact ⟨hF, rfl, v2, hv2, rfl⟩
  rintro r R8 L' hR8 ⟨hF, v2, hv2, rfl⟩
  try simp only [cA, nA]
  refine rj_nil ?_
  refine hend _ _ _ ?_
  apply ej_end Tryz.results63 .nil _ (ndL b v2 (entryN (x, D) cmd).2.1 (entryN (x, D) cmd).2.2 ++ [blk bX [.pointer (some ⟨b.x, 0, none⟩)] 56, blk bC [.string (str cmd)] 9]) hR8 rfl
  case hp => exact ⟨hF, v2, hv2, rfl⟩
  case hS => exact sb_
end V
end Go.Proofs.YtenfjpigffjgmaaGreat
set_option linter.unusedSimpArgs false
set_option linter.unusedVariables false
set_option maxRecDepth 100000
namespace Go.Proofs.YtenfjpigffjgmaaGreat
open Go.RowKit
namespace V
set_option maxHeartbeats 4000000
section
variable {c : Cx} {E : Env} {R : Hp} {L : List Asn} {ty : TypeId} {p : String} {af : Array Edge} {g : Option (Nat × Bool)}
theorem y_ineq_nil {d : Option Tmp} {x y : Operand} {t t' u : TypeId} {v : Value} {ms : Array (String × TypeId)} (hT : c.P.underlying t = some (.interface ms)) (e1 : ev E x = some (.iface u v)) (e2 : ev E y = some .nilIface) :
    Yld c E R L ⟨d, .binOp .neq t x y t', ty, p, af, g⟩ (.bool true) := fun a w hf _ => by
  have h : ∀ d : Nat, (Op.equalIn (d + 1) t (.iface u v) .nilIface).run c.P w = .ok false w := fun d => by simp [Op.equalIn, run_underlying hT]
  have h1 : (Op.equalIn Op.maxDepth t (.iface u v) .nilIface).run c.P w = .ok false w := h (Op.maxDepth - 1)
  simp [execOp, hf.ev e1, hf.ev e2, eqGuard, binOp, Op.equal, h1, Oper.quietUpon]
theorem y_ineq_nil0 {d : Option Tmp} {x : Operand} {t t' : TypeId} {ms : Array (String × TypeId)} (hT : c.P.underlying t = some (.interface ms)) (e1 : ev E x = some .nilIface) :
    Yld c E R L ⟨d, .binOp .neq t x (.const .nilIface) t', ty, p, af, g⟩ (.bool false) := fun a w hf _ => by
  have h : ∀ d : Nat, (Op.equalIn (d + 1) t .nilIface .nilIface).run c.P w = .ok true w := fun d => by simp [Op.equalIn, run_underlying hT]
  have h1 : (Op.equalIn Op.maxDepth t .nilIface .nilIface).run c.P w = .ok true w := h (Op.maxDepth - 1)
  simp [execOp, hf.ev e1, hf.ev (x := .const .nilIface) rfl, eqGuard, binOp, Op.equal, h1, Oper.quietUpon]
theorem y_tassert {d : Option Tmp} {x : Operand} {t u : TypeId} {b : Bool} {v r : Value} (hr : ∀ w, (Instr.typeAssert v t u b).run c.P w = .ok r w) (e1 : ev E x = some v) :
    Yld c E R L ⟨d, .typeAssert x t u b, ty, p, af, g⟩ r := fun a w hf _ => by
  simp [execOp, hf.ev e1, hr w, Oper.quietUpon]
theorem cj_wp {x : Code} {Q : Exit → Act → World → Prop} {a : Act} {w : World} (h : CJ c x Q E R L) (hf : Fr c.n E a) (hs : Sat c.σ R L w) : x.wp c.P Q a w := h a w hf hs
end
theorem lost_yes {σ : World} {R : Hp} {L : List Asn} {w : World} (b4 : Nat) {v0 : Value} (hs : Sat σ R (blk b4 [v0] 98 :: L) w) :
    CallsD Tryz.prog 86 ⟨[.pointer (some ⟨b4, 0, none⟩)]⟩ (.panicking [lostE]) w
      (fun e u' w' => (∃ v, e = .returned v) ∧ settle u' = .returning ∧ Sat σ R (blk b4 [.slice none 0 0] 98 :: L) w') := by
  refine callsD_of_wpS Tryz.func86 rfl (fun c0 cs hu => ?_)
  rw [show Tryz.f86.ntmps = 15 from rfl]
  have hf0 := Fr.start (n := 15) (args := [.pointer (some ⟨b4, 0, none⟩)]) rfl
  generalize ({ tmps := _, defers := [] } : Act) = a at hf0 ⊢
  have hrec : recOf (c0 :: cs) = (.iface 156 (.agg ⟨[]⟩), { c0 with mode := .panicking [⟨.iface 156 (.agg ⟨[]⟩), true, false⟩] } :: cs) := by
    simp only [recOf, recoverD, hu, lostE]
  refine wpS_rec hf0 rfl rfl hrec (fun a1 hf1 => ?_)
  clear hf0
  refine wpS_of_wp ?_
  refine cj_wp (c := ⟨Tryz.prog, 15, σ⟩) ?_ hf1 hs
  refine cj_seq fun K1 hK1 => ?_
  refine cj_region ?_
  refine Pm ?_
  refine Pa ((y_ineq_nil Tryz.underlying20 rfl rfl)) ?_
  refine rj_nil ?_
  refine hK1 _ _ _ ?_
  refine cj_cond_t rfl ?_
  refine cj_seq fun K2 hK2 => ?_
  refine cj_seq fun K3 hK3 => ?_
  refine cj_region ?_
  refine Pm ?_
  refine Pa ((y_tassert (r := .tuple ⟨[.agg ⟨[]⟩, .bool true]⟩) (fun w => by kernel_rfl) rfl)) ?_
  refine Pm ?_
  refine Pa (y_extract rfl rfl) ?_
  refine Pa (y_extract rfl rfl) ?_
  refine rj_alloc (wn0 rfl) rfl Tryz.zeroValue156 rfl (fun b2 => ?_)
  refine Sm (vs := []) m156 (by simp) ?_
  refine Ps ?_
  refine rj_nil ?_
  refine hK3 _ _ _ ?_
  refine cj_seq fun K4 hK4 => ?_
  refine cj_region ?_
  refine Pm ?_
  refine Pa (y_not rfl) ?_
  refine rj_nil ?_
  refine hK4 _ _ _ ?_
  refine cj_cond_f rfl ?_
  refine cj_skip ?_
  refine hK2 _ _ _ ?_
  refine cj_region ?_
  refine Sa o98 ?_
  refine rj_nil ?_
  exact fun a w hf hs => ⟨hf.dfs, _, rfl, .tuple ⟨[]⟩, by unfold results; rw [Tryz.results86]; simp, ⟨_, rfl⟩, rfl, hs.sub sb_⟩
theorem lost_no {σ : World} {R : Hp} {L : List Asn} {w : World} (b4 : Nat) (hs : Sat σ R L w) :
    CallsD Tryz.prog 86 ⟨[.pointer (some ⟨b4, 0, none⟩)]⟩ .returning w
      (fun e u' w' => (∃ v, e = .returned v) ∧ settle u' = .returning ∧ Sat σ R L w') := by
  refine callsD_of_wpS Tryz.func86 rfl (fun c0 cs hu => ?_)
  rw [show Tryz.f86.ntmps = 15 from rfl]
  have hf0 := Fr.start (n := 15) (args := [.pointer (some ⟨b4, 0, none⟩)]) rfl
  generalize ({ tmps := _, defers := [] } : Act) = a at hf0 ⊢
  have hrec : recOf (c0 :: cs) = (.nilIface, c0 :: cs) := by
    simp only [recOf, recoverD, hu]
  have hc0 : c0 = { c0 with mode := .returning } := by rw [← hu]
  refine wpS_rec hf0 rfl rfl hrec (fun a1 hf1 => ?_)
  clear hf0
  refine wpS_of_wp ?_
  refine cj_wp (c := ⟨Tryz.prog, 15, σ⟩) ?_ hf1 hs
  refine cj_seq fun K1 hK1 => ?_
  refine cj_region ?_
  refine Pm ?_
  refine Pa ((y_ineq_nil0 Tryz.underlying20 rfl)) ?_
  refine rj_nil ?_
  refine hK1 _ _ _ ?_
  refine cj_cond_f rfl ?_
  refine cj_skip ?_
  exact fun a w hf hs => ⟨hf.dfs, .returning, by rw [← hc0], .tuple ⟨[]⟩, by unfold results; rw [Tryz.results86]; simp, ⟨_, rfl⟩, rfl, hs.sub sb_⟩
theorem run_no {n : Nat} {σ : World} {fn : Func} {R R0 : Hp} {F L' : List Asn} {E : Env} {post : Value → Hp → List Asn → Prop} (b4 : Nat) (v : Value) {a : Act} {w : World} (hr : fn.results = ⟨[.cell 4 98]⟩) (hR : R0.le R)
    (e4 : lk E 4 = some (.pointer (some ⟨b4, 0, none⟩))) (hf : Fr n E a) (hs : Sat σ R (blk b4 [v] 98 :: (L' ++ F)) w) (hp : post v R L') :
    tailQ Tryz.prog fn (EndR σ R0 F post (fun _ _ _ => False)) { target := .fn (.func 86) ⟨[.pointer (some ⟨b4, 0, none⟩)]⟩, args := #[] } .normal a w :=
  ⟨hf.dfs, leaves_onec (by simp) Tryz.call86 (lost_no b4 hs) (fun w' hs' => leaves_ret (c := ⟨Tryz.prog, n, σ⟩) hr (.cons (rv_cell o98 e4 (.head _) rfl) .nil) R L' hR rfl (.drop (.refl _)) hp hf hs')⟩
theorem run_yes {n : Nat} {σ : World} {fn : Func} {R R0 : Hp} {F L' : List Asn} {E : Env} {post : Value → Hp → List Asn → Prop} (b4 : Nat) {v0 : Value} {a : Act} {w : World} (hr : fn.results = ⟨[.cell 4 98]⟩) (hR : R0.le R)
    (e4 : lk E 4 = some (.pointer (some ⟨b4, 0, none⟩))) (hf : Fr n E a) (hs : Sat σ R (blk b4 [v0] 98 :: (L' ++ F)) w) (hp : post (.slice none 0 0) R L') :
    tailQ Tryz.prog fn (EndR σ R0 F post (fun _ _ _ => False)) { target := .fn (.func 86) ⟨[.pointer (some ⟨b4, 0, none⟩)]⟩, args := #[] } (.panic [lostE]) a w :=
  ⟨hf.dfs, leaves_onec (by simp) Tryz.call86 (lost_yes b4 hs) (fun w' hs' => leaves_ret (c := ⟨Tryz.prog, n, σ⟩) hr (.cons (rv_cell o98 e4 (.head _) rfl) .nil) R L' hR rfl (.drop (.refl _)) hp hf hs')⟩
theorem ej_rj {c : Cx} {ops : Array Oper} {Q Q2 : Exit → Act → World → Prop} {l : List Oper} {E : Env} {R : Hp} {L : List Asn} (h : RJ c ops Q l E R L) : EJ c (Exit.then (fun a w => wpList c.P ops Q l a w) Q2 .normal) E R L := h
theorem split_skip (A : Asn) (L F : List Asn) : Split (A :: (L ++ F)) L (A :: F) := by
  induction L with
  | nil => exact .nil _
  | cons B L ih => exact .cons (.tail (.head _)) ih
def runR (x : ND) (D : DK) (F : Bool × NS) : List Msg × NS := if downS (x, D) = true then ([], (x, D)) else if F.1 = true then (F.2.1.out, F.2) else ([], F.2)
theorem runN_eq (x : ND) (D : DK) (f : NS → Bool × NS) : runN (x, D) f = runR x D (f ({ x with out := [] }, D)) := rfl
@[reducible] def NDone (b : NB) (G : List Msg × NS) (r : Value) (R' : Hp) (L' : List Asn) : Prop := ∃ v', FrX msgE R' G.1 r ∧ NOk R' v' G.2.1 ∧ L' = ndI b v' G.2.1 G.2.2
theorem sub_pre (L : List Asn) {M N : List Asn} (h : Sub M N) : Sub (L ++ M) (L ++ N) := by
  induction L with
  | nil => exact h
  | cons A L ih => exact zP (.head _) ih
theorem sub_mid (A : Asn) (L F : List Asn) : Sub (L ++ A :: F) (A :: (L ++ F)) := zP (Find.mid A L F) (.refl _)
theorem rj_subA {c : Cx} {ops : Array Oper} {Q : Exit → Act → World → Prop} {l : List Oper} {E : Env} {R : Hp} {L M : List Asn} (hs : Sub L M) (h : RJ c ops Q l E R M) : RJ c ops Q l E R L := fun a w hf s => h a w hf (s.sub hs)
theorem run_t {R : Hp} (b : NB) (v : NV) (x : ND) (D : DK) (fk : FuncId) (caps : List Value) (Ex Ey : List Asn) (F0 : Bool × NS) (hc : ∀ args w, (callFunc fk args).run Tryz.prog w = .ok (.enter fk args) w) (hv : NOk R v x)
    (hf : ∀ v2, NOk R v2 { x with out := [] } → Tri Tryz.prog fk caps R (ndL b v2 { x with out := [] } D ++ Ex) (fun r R' L' => F0.1 = true ∧ ∃ v', NOk R' v' F0.2.1 ∧ L' = ndL b v' F0.2.1 F0.2.2 ++ Ey) (fun ch R' L' => F0.1 = false ∧ ch = [lostE] ∧ ∃ v', NOk R' v' F0.2.1 ∧ L' = ndL b v' F0.2.1 F0.2.2 ++ Ey)) (hE : ∀ F, Sub (Ex ++ F) (Ey ++ F)) :
    Tri Tryz.prog 62 [.pointer (some ⟨b.x, 0, none⟩), .func (.func fk) ⟨[]⟩ ⟨caps⟩] R (ndI b v x D ++ Ex) (fun r R' L' => ∃ v', FrX msgE R' (runR x D F0).1 r ∧ NOk R' v' (runR x D F0).2.1 ∧ L' = ndI b v' (runR x D F0).2.1 (runR x D F0).2.2 ++ Ey) := by
  have hvN : NOk R (v.sent (.slice none 0 0) []) { x with out := [] } := ⟨hv.va, Els.nil, hv.vm, hv.vp, rfl, hv.map⟩
  refine tri_of_d Tryz.func62 rfl Tryz.ntmps62 rfl (fun σ F Q hret hend hpan hQ => ?_)
  try simp only [cA, nA]
  refine cj_seq fun K1 hK1 => ?_
  refine cj_region ?_
  refine rj_alloc (wn0 rfl) rfl Tryz.zeroValue98 rfl (fun b4 => ?_)
  refine rj_nil ?_
  refine hK1 _ _ _ ?_
  refine cj_seq fun K2 hK2 => ?_
  refine cj_seq fun K3 hK3 => ?_
  refine cj_region ?_
  refine Pm ?_
  refine Pa (Ca Tryz.call37 (ndDown_q b v x D)) ?_
  refine rj_nil ?_
  refine hK3 _ _ _ ?_
  refine cj_cond rfl (fun hc6 => ?_) (fun hc6 => ?_)
  ·have f1 : downS (x, D) = true := hc6
   have hG : runR x D F0 = ([], (x, D)) := by unfold runR; rw [if_pos f1]
   refine cj_seq fun K5 hK5 => ?_
   refine cj_sub (M := blk b4 [.slice none 0 0] 98 :: (ndI b v x D ++ (Ey ++ F))) (zP fd_ (sub_pre (ndI b v x D) (hE F))) ?_
   try simp only [cA, nA]
   refine cj_region ?_
   refine Sa o98 ?_
   refine rj_nil ?_
   refine hK5 _ _ _ ?_
   refine cj_ret ?_
   refine hret _ _ _ ?_
   apply ej_ret Tryz.results62 (.cons (rv_cell o98 rfl fd_ rfl) .nil) _ (ndI b v x D ++ Ey) (Hp.le_refl _) rfl
   case hp => rw [hG]; exact ⟨v, FrX.nil, hv, rfl⟩
   case hS => exact sb_
  ·have f1 : ¬ downS (x, D) = true := by simpa using hc6
   refine cj_skip ?_
   refine hK2 _ _ _ ?_
   refine cj_seq fun K6 hK6 => ?_
   refine cj_region ?_
   refine Pm ?_
   refine Pa (y_nilCheck rfl) ?_
   refine Pa (Ga Tryz.underlying109 Tryz.sizeOf98) ?_
   refine Sa o98 ?_
   refine rj_nil ?_
   refine hK6 _ _ _ ?_
   refine cj_add (A := outA (v.sent (.slice none 0 0) []) { x with out := [] }) (slc_nil _ _) ?_
   refine cj_defer2 hQ rfl rfl ?_
   refine Pm ?_
   refine rj_callf (wn0 rfl) rfl rfl hc rfl (hf (v.sent (.slice none 0 0) []) hvN) (pre := ndL b (v.sent (.slice none 0 0) []) { x with out := [] } D ++ Ex) (F := blk b4 [.slice none 0 0] 98 :: F) ?_ ?_ ?_
   · exact .cons fd_ (.cons fd_ (.cons fd_ (.cons fd_ (.cons fd_ (.cons fd_ (.cons fd_ (split_skip _ _ _)))))))
   · rintro ch Rp Lp hRp ⟨hF1, rfl, v2, hv2, rfl⟩
     have hG : runR x D F0 = ([], F0.2) := by unfold runR; rw [if_neg f1, if_neg (by rw [hF1]; simp)]
     intro a w hf hs
     replace hs := hs.sub (sub_mid _ _ _)
     refine run_yes b4 Tryz.results62 hRp rfl hf (L' := ndI b v2 F0.2.1 F0.2.2 ++ Ey) (hs.sub sb_) ?_
     rw [hG]; exact ⟨v2, FrX.nil, hv2, rfl⟩
   · rintro r R' L' hR' ⟨hF1, v2, hv2, rfl⟩
     have hG : runR x D F0 = (F0.2.1.out, F0.2) := by unfold runR; rw [if_neg f1, if_pos hF1]
     refine rj_subA (sub_mid _ _ _) ?_
     try simp only [cA, nA]
     refine rj_nil ?_
     refine ej_rj ?_
     refine Pm ?_
     refine Pa (y_nilCheck rfl) ?_
     refine Pa (Ga Tryz.underlying109 Tryz.sizeOf98) ?_
     refine Pa (La o98) ?_
     refine rj_store o98 (wn0 rfl) rfl rfl hv2.vo fd_ rfl rfl ?_
     refine rj_freeze (e := 117) (sz := 10) (n := F0.2.1.out.length) (v := v2.vo) (xs := v2.css.flatten) fd_ (fun R9 hR9 hfr hxl => ?_)
     have hfx : FrX msgE R9 F0.2.1.out v2.vo := FrozenS.frx hfr (hv2.out.mono hR9)
     refine rj_nil ?_
     intro a w hf hs
     refine run_no b4 v2.vo Tryz.results62 (Hp.le_trans hR' hR9) rfl hf (L' := ndI b v2 F0.2.1 F0.2.2 ++ Ey) (hs.sub sb_) ?_
     rw [hG]; exact ⟨v2, hfx, hv2.mono hR9, rfl⟩
end V
end Go.Proofs.YtenfjpigffjgmaaGreat
set_option linter.unusedSimpArgs false
set_option linter.unusedVariables false
set_option maxRecDepth 100000
namespace Go.Proofs.YtenfjpigffjgmaaGreat
open Go.RowKit
namespace V
set_option maxHeartbeats 4000000
theorem Tri.pre {P : Program} {f : FuncId} {args : List Value} {R : Hp} {L L' : List Asn} {post : Value → Hp → List Asn → Prop} {pan : List PanicEntry → Hp → List Asn → Prop} (h : Tri P f args R L post pan) (hs : ∀ F, Sub (L' ++ F) (L ++ F)) : Tri P f args R L' post pan :=
  fun σ F w s => h σ F w (s.sub (hs F))
theorem NIn.out0 {k : Nat} {x : ND} (h : NIn k x) : NIn k { x with out := [] } :=
  ⟨h.idn, h.term, h.vote, h.base, h.baseT, h.state, h.alln, h.all, h.commit, h.patience, h.peers, h.peer, h.votes, by show 0 ≤ _; omega⟩
theorem tick_t {R : Hp} (b : NB) (v : NV) (x : ND) (D : DK) (k n : Nat) (hk : k ≤ 40) (hx : NIn k x) (hv : NOk R v x) (hD : D.ok n) (hn : n ≤ 700000000) :
    Tri Tryz.prog 50 [.pointer (some ⟨b.x, 0, none⟩)] R (ndI b v x D) (NDone b (runN (x, D) tickN)) := by
  rw [runN_eq]
  refine tri_of Tryz.func50 rfl Tryz.ntmps50 rfl (fun σ F Q hret hend hpan => ?_)
  try simp only [cA, nA]
  refine cj_seq fun K1 hK1 => cj_region ?_
  refine rj_box (wn0 rfl) rfl rfl rfl (fun bX => ?_)
  refine Ps ?_
  refine rj_nil (hK1 _ _ _ (cj_seq fun K2 hK2 => cj_region ?_))
  first | refine Pa (La o56) ?_ | refine Pa (Ls o56) ?_
  refine Pa (y_makeFunc rfl rfl) ?_
  refine Ra Tryz.call62 (run_t b v x D 68 [.pointer (some ⟨bX, 0, none⟩)] [blk bX [.pointer (some ⟨b.x, 0, none⟩)] 56] [] (tickN ({ x with out := [] }, D)) Tryz.call68 hv (fun v2 hv2 => Tri.pre (tick1_t b v2 { x with out := [] } D k n bX hk hx.out0 hv2 hD (by omega)) (fun F => by (repeat (first|exact zR _|(apply zP;focus (repeat (first|exact zH _|apply zT)))|apply zD|exact zA _ _)))) (fun F => by (repeat (first|exact zR _|(apply zP;focus (repeat (first|exact zH _|apply zT)))|apply zD|exact zA _ _)))) ?_
  rintro r R2 L' hR2 ⟨v2, hr, hv2, rfl⟩
  have hro := hr.one
  try simp only [cA, nA]
  refine Ps ?_
  refine rj_nil (hK2 _ _ _ (cj_ret (hret _ _ _ ?_)))
  apply ej_ret Tryz.results50 (.cons (rv_tmp rfl) .nil) _ (ndI b v2 _ _) hR2 rfl
  case hp => exact ⟨v2, hr, hv2, rfl⟩
  case hS => exact sb_
theorem receive_t {R : Hp} (b : NB) (v : NV) (x : ND) (D : DK) (m : Msg) (ve : Value) (k n : Nat) (hk : k ≤ 40) (hx : NIn k x) (hv : NOk R v x) (hm : MIm k m) (hve : FrX entE R m.es ve) (hD : D.ok n) (hn : n ≤ 700000000) :
    Tri Tryz.prog 53 [.pointer (some ⟨b.x, 0, none⟩), .agg ⟨msgC m ve⟩] R (ndI b v x D) (NDone b (runN (x, D) (fun s => receiveN s m))) := by
  rw [runN_eq]
  have hveo := hve.one
  refine tri_of Tryz.func53 rfl Tryz.ntmps53 rfl (fun σ F Q hret hend hpan => ?_)
  try simp only [cA, nA]
  refine cj_seq fun K1 hK1 => cj_region ?_
  refine rj_box (wn0 rfl) rfl rfl rfl (fun bX => ?_)
  refine rj_box (wn0 rfl) rfl rfl rfl (fun bM => ?_)
  refine Ps ?_
  refine rj_nil (hK1 _ _ _ (cj_seq fun K2 hK2 => cj_region ?_))
  first | refine Pa (La o56) ?_ | refine Pa (Ls o56) ?_
  refine Pa (y_makeFunc rfl rfl) ?_
  refine Ra Tryz.call62 (run_t b v x D 73 [.pointer (some ⟨bM, 0, none⟩), .pointer (some ⟨bX, 0, none⟩)] [blk bX [.pointer (some ⟨b.x, 0, none⟩)] 56, blk bM (msgC m ve) 117] [] (receiveN ({ x with out := [] }, D) m) Tryz.call73 hv (fun v2 hv2 => Tri.pre (receive1_t b v2 { x with out := [] } D m ve k n bX bM hk hx.out0 hv2 hm hve hD hn) (fun F => by (repeat (first|exact zR _|(apply zP;focus (repeat (first|exact zH _|apply zT)))|apply zD|exact zA _ _)))) (fun F => by (repeat (first|exact zR _|(apply zP;focus (repeat (first|exact zH _|apply zT)))|apply zD|exact zA _ _)))) ?_
  rintro r R2 L' hR2 ⟨v2, hr, hv2, rfl⟩
  have hro := hr.one
  try simp only [cA, nA]
  refine Ps ?_
  refine rj_nil (hK2 _ _ _ (cj_ret (hret _ _ _ ?_)))
  apply ej_ret Tryz.results53 (.cons (rv_tmp rfl) .nil) _ (ndI b v2 _ _) hR2 rfl
  case hp => exact ⟨v2, hr, hv2, rfl⟩
  case hS => exact sb_
theorem entry_in {k : Nat} (hk : k ≤ 90) {x : ND} {D : DK} {cmd : Bs} (hx : NIn k x) (hc : cmd.length ≤ 100) (h : (entryN (x, D) cmd).1 = true) : NIn (k + 2) (entryN (x, D) cmd).2.1 := by
  have hterm := hx.term
  unfold entryN bindN mustN at h ⊢
  dsimp only at h ⊢
  by_cases he : (x.g.addD D x.g.last [(x.g.term, cmd)]).1 = 0
  · simp only [if_pos he, ite_true] at h ⊢
    rw [addD_ok he, feedAll_eq]
    have h1 := hx.add (i := x.g.last) (m := [(x.g.term, cmd)]) (fun e he => by simp at he; subst he; exact ⟨⟨by omega, by omega⟩, hc⟩) (by simp)
    have h2 := NIn.count (by omega) h1
    refine h2.sends _ ?_
    rw [List.length_map]
    have h3 := h2.idn.2
    have h4 := othersL_le (ND.count { x with g := x.g.play (.add x.g.last [(x.g.term, cmd)]) }).id (ND.count { x with g := x.g.play (.add x.g.last [(x.g.term, cmd)]) }).n
    show (othersL _ _).length ≤ 20
    omega
  · simp only [if_neg he] at h
    simp at h
def proposeN (s : NS) (cmd : Bs) : (Int × Int × List Msg) × NS :=
  if ¬ s.1.role = 2 then ((0, 0, []), s) else if downS (runN s (fun s => entryN s cmd)).2 = true then ((0, 0, []), (runN s (fun s => entryN s cmd)).2)
  else (((runN s (fun s => entryN s cmd)).2.1.g.last, (runN s (fun s => entryN s cmd)).2.1.g.term, (runN s (fun s => entryN s cmd)).1), (runN s (fun s => entryN s cmd)).2)
theorem runIn {k : Nat} {x : ND} {D : DK} {f : NS → Bool × NS} (hf : (f ({ x with out := [] }, D)).1 = true → NIn k (f ({ x with out := [] }, D)).2.1) (hl : (f ({ x with out := [] }, D)).1 = false → (f ({ x with out := [] }, D)).2.1.down = true) (h : ¬ downS (runN (x, D) f).2 = true) : NIn k (runN (x, D) f).2.1 := by
  rw [runN_eq] at h ⊢
  unfold runR at h ⊢
  by_cases h1 : downS (x, D) = true
  · rw [if_pos h1] at h; exact absurd h1 h
  · rw [if_neg h1] at h ⊢
    by_cases h2 : (f ({ x with out := [] }, D)).1 = true
    · rw [if_pos h2]; exact hf h2
    · rw [if_neg h2] at h
      have := hl (by simpa using h2)
      exact absurd (by unfold downS; rw [this]; rfl) h
theorem must_down {s : NS} {r : Int × LG × DK} (h : (mustN s r).1 = false) : (mustN s r).2.1.down = true := by
  unfold mustN at h ⊢
  split at h
  · cases h
  · rename_i h1; rw [if_neg h1]
theorem bind_down {r : Bool × NS} {k : NS → Bool × NS} (hr : r.1 = false → r.2.1.down = true) (hk : r.1 = true → (k r.2).1 = false → (k r.2).2.1.down = true) (h : (bindN r k).1 = false) : (bindN r k).2.1.down = true := by
  unfold bindN at h ⊢
  by_cases h1 : r.1 = true
  · rw [if_pos h1] at h ⊢; exact hk h1 h
  · rw [if_neg h1] at h ⊢; exact hr h
theorem entry_down {s : NS} {cmd : Bs} (h : (entryN s cmd).1 = false) : (entryN s cmd).2.1.down = true :=
  bind_down must_down (fun _ h => by cases h) h
theorem propose_t {R : Hp} (b : NB) (v : NV) (x : ND) (D : DK) (cmd : Bs) (k n : Nat) (hk : k ≤ 40) (hx : NIn k x) (hv : NOk R v x) (hc : cmd.length ≤ 100) (hD : D.ok n) (hn : n ≤ 700000000) :
    Tri Tryz.prog 43 [.pointer (some ⟨b.x, 0, none⟩), .string (str cmd)] R (ndI b v x D)
      (fun r R' L' => ∃ vl v', r = tupOf [.int .u64 (proposeN (x, D) cmd).1.1, .int .u64 (proposeN (x, D) cmd).1.2.1, vl] ∧ FrX msgE R' (proposeN (x, D) cmd).1.2.2 vl ∧ NOk R' v' (proposeN (x, D) cmd).2.1 ∧ L' = ndI b v' (proposeN (x, D) cmd).2.1 (proposeN (x, D) cmd).2.2) := by
  obtain ⟨G, hG⟩ : ∃ G, G = runN (x, D) (fun s => entryN s cmd) := ⟨_, rfl⟩
  refine tri_of Tryz.func43 rfl Tryz.ntmps43 rfl (fun σ F Q hret hend hpan => ?_)
  try simp only [cA, nA]
  refine cj_seq fun K1 hK1 => cj_region ?_
  refine rj_box (wn0 rfl) rfl rfl rfl (fun bX => ?_)
  refine rj_box (wn0 rfl) rfl rfl rfl (fun bC => ?_)
  refine Ps ?_
  refine Ps ?_
  refine Ps ?_
  refine rj_nil (hK1 _ _ _ (cj_seq fun K2 hK2 => cj_seq fun K3 hK3 => cj_region ?_))
  first | refine Pa (La o56) ?_ | refine Pa (Ls o56) ?_
  refine Pa (Ca Tryz.call38 (ndRole_q b v x)) ?_
  refine Pa (y_neq rfl rfl) ?_
  refine rj_nil (hK3 _ _ _ ?_)
  refine cj_cond rfl (fun hc10 => ?_) (fun hc10 => ?_)
  have f1 : ¬ x.role = 2 := by simpa using hc10
  have hP : proposeN (x, D) cmd = ((0, 0, []), (x, D)) := by unfold proposeN; rw [if_pos f1]
  refine cj_seq fun K5 hK5 => cj_region ?_
  refine Ps ?_
  refine Ps ?_
  refine Ps ?_
  refine rj_nil (hK5 _ _ _ (cj_ret (hret _ _ _ ?_)))
  refine Ea Tryz.results43 (.cons (rv_tmp rfl) (.cons (rv_tmp rfl) (.cons (rv_tmp rfl) .nil))) (ndI b v x D) (by first | exact Hp.le_refl _ | assumption) ?_
  rw [hP]; exact ⟨_, v, rfl, FrX.nil, hv, rfl⟩
  have f1 : x.role = 2 := by simpa using hc10
  refine cj_skip (hK2 _ _ _ (cj_seq fun K6 hK6 => cj_region ?_))
  first | refine Pa (La o56) ?_ | refine Pa (Ls o56) ?_
  refine Pa (y_makeFunc rfl rfl) ?_
  refine Ra Tryz.call62 (run_t b v x D 63 [.pointer (some ⟨bX, 0, none⟩), .pointer (some ⟨bC, 0, none⟩)] [blk bX [.pointer (some ⟨b.x, 0, none⟩)] 56, blk bC [.string (str cmd)] 9] [blk bX [.pointer (some ⟨b.x, 0, none⟩)] 56, blk bC [.string (str cmd)] 9] (entryN ({ x with out := [] }, D) cmd) Tryz.call63 hv (fun v2 hv2 => Tri.pre (propose1_t b v2 { x with out := [] } D cmd k n bX bC hk hx.out0 hv2 f1 hc hD hn) (fun F => by (repeat (first|exact zR _|(apply zP;focus (repeat (first|exact zH _|apply zT)))|apply zD|exact zA _ _)))) (fun F => by (repeat (first|exact zR _|(apply zP;focus (repeat (first|exact zH _|apply zT)))|apply zD|exact zA _ _)))) ?_
  rintro r R2 L' hR2 ⟨v2, hr, hv2, rfl⟩
  have hro := hr.one
  have hGR : runR x D (entryN ({ x with out := [] }, D) cmd) = G := by rw [hG]; rfl
  rw [hGR] at hr hv2 ⊢
  try simp only [cA, nA]
  refine Ps ?_
  refine rj_nil (hK6 _ _ _ (cj_seq fun K7 hK7 => cj_seq fun K8 hK8 => cj_region ?_))
  first | refine Pa (La o56) ?_ | refine Pa (Ls o56) ?_
  refine Pa (Ca Tryz.call37 (ndDown_q b v2 G.2.1 G.2.2)) ?_
  refine rj_nil (hK8 _ _ _ ?_)
  refine cj_cond rfl (fun hc15 => ?_) (fun hc15 => ?_)
  have g1 : downS G.2 = true := hc15
  have hP : proposeN (x, D) cmd = ((0, 0, []), G.2) := by unfold proposeN; rw [if_neg (by simp [f1]), ← hG, if_pos g1]
  refine cj_seq fun K10 hK10 => cj_region ?_
  refine Ps ?_
  refine Ps ?_
  refine Ps ?_
  refine rj_nil (hK10 _ _ _ (cj_ret (hret _ _ _ ?_)))
  refine Ea Tryz.results43 (.cons (rv_tmp rfl) (.cons (rv_tmp rfl) (.cons (rv_tmp rfl) .nil))) (ndI b v2 G.2.1 G.2.2) (by first | exact Hp.le_refl _ | assumption) ?_
  rw [hP]; exact ⟨_, v2, rfl, FrX.nil, hv2, rfl⟩
  have g1 : ¬ downS G.2 = true := by simpa using hc15
  have hP : proposeN (x, D) cmd = ((G.2.1.g.last, G.2.1.g.term, G.1), G.2) := by unfold proposeN; rw [if_neg (by simp [f1]), ← hG, if_neg g1]
  have hGi : NIn (k + 2) G.2.1 := by rw [hG] at g1 ⊢; exact runIn (fun h => entry_in (by omega) hx.out0 hc h) (fun h => entry_down h) g1
  have hgG := hGi.g (by omega)
  refine cj_skip (hK7 _ _ _ (cj_seq fun K11 hK11 => ?_))
  refine cj_draw (by kernel_rfl) (by kernel_rfl) ?_
  first | refine Qa (La o56) ?_ | refine Qa (Ls o56) ?_
  refine Qa (y_nilCheck rfl) ?_
  refine Qa (Ga Tryz.underlying109 Tryz.sizeOf55) ?_
  first | refine Qa (La o55) ?_ | refine Qa (Ls o55) ?_
  refine Qa (Ca Tryz.call60 (lgLast_q b.l (some ⟨b.d, 0, none⟩) v2.va G.2.1.g hgG hv2.va)) ?_
  first | refine Qa (La o56) ?_ | refine Qa (Ls o56) ?_
  refine Qa (y_nilCheck rfl) ?_
  refine Qa (Ga Tryz.underlying109 Tryz.sizeOf55) ?_
  first | refine Qa (La o55) ?_ | refine Qa (Ls o55) ?_
  refine Qa (Ca Tryz.call24 (lgTerm_q b.l (some ⟨b.d, 0, none⟩) v2.va G.2.1.g)) ?_
  refine Qa (y_move rfl) ?_
  refine Qa (y_assign rfl) ?_
  refine Qa (y_assign rfl) ?_
  refine Qa (y_assign rfl) ?_
  refine qj_nil ?_
  refine hK11 _ _ _ ?_
  refine cj_env (eL 4 rfl (eL 5 rfl (eL 6 rfl eN))) ?_
  refine cj_ret (hret _ _ _ ?_)
  refine Ea Tryz.results43 (.cons (rv_tmp rfl) (.cons (rv_tmp rfl) (.cons (rv_tmp rfl) .nil))) (ndI b v2 G.2.1 G.2.2) (by first | exact Hp.le_refl _ | assumption) ?_
  rw [hP]; exact ⟨_, v2, rfl, hr, hv2, rfl⟩
end V
end Go.Proofs.YtenfjpigffjgmaaGreat
set_option linter.unusedSimpArgs false
set_option linter.unusedVariables false
set_option maxRecDepth 100000
namespace Go.Proofs.YtenfjpigffjgmaaGreat
open Go.RowKit
namespace V
set_option maxHeartbeats 4000000
def compactN (s : NS) (i : Int) (t : Bs) : Int × NS :=
  if downS s = true then (3, s) else if i > s.1.commit then (1, s) else ((s.1.g.compD s.2 i t).1, ({ s.1 with g := (s.1.g.compD s.2 i t).2.1 }, (s.1.g.compD s.2 i t).2.2))
def NV.new (u va : Value) : NV := ⟨u, va, .map none, .slice none 0 0, .slice none 0 0, []⟩
theorem start_t {R : Hp} (l d id n : Nat) (u va : Value) (g : LG) (D : DK) (hn : id < n ∧ n ≤ 9) (hva : FrX entE R g.all va) :
    Tri Tryz.prog 57 [.int .i64 (id : Int), .int .i64 (n : Int), .pointer (some ⟨l, 0, none⟩)] R [lgB l (some ⟨d, 0, none⟩) va g, dkB d u D, dkS u D]
      (fun r R' L' => ((g.down || D.down) = true ∧ r = tupOf [.pointer none, .int .i64 3] ∧ L' = [lgB l (some ⟨d, 0, none⟩) va g, dkB d u D, dkS u D]) ∨
        (¬ (g.down || D.down) = true ∧ ∃ bx, r = tupOf [.pointer (some ⟨bx, 0, none⟩), .int .i64 0] ∧ NOk R' (NV.new u va) (ND.start id n g) ∧ L' = ndI ⟨bx, l, d⟩ (NV.new u va) (ND.start id n g) D)) := by
  refine tri_of Tryz.func57 rfl Tryz.ntmps57 rfl (fun σ F Q hret hend hpan => ?_)
  try simp only [cA, nA]
  refine cj_seq fun K1 hK1 => cj_region ?_
  refine Ps ?_
  refine Ps ?_
  refine rj_nil (hK1 _ _ _ (cj_seq fun K2 hK2 => cj_block (cj_seq fun K3 hK3 => cj_region ?_)))
  refine Pm ?_
  refine Pa ((Yld.to (u := .bool false) (y_lss rfl rfl) (by rw [decide_eq_false (by omega)]))) ?_
  refine Pm ?_
  refine Pb (y_move rfl) ?_
  refine Pb ((Yld.to (u := .bool false) (y_gtr rfl rfl) (by rw [decide_eq_false (by omega)]))) ?_
  refine Pa (y_pick_f rfl rfl) ?_
  refine Pm ?_
  refine Pb (y_move rfl) ?_
  refine Pb ((Yld.to (u := .bool false) (y_lss rfl rfl) (by rw [decide_eq_false (by omega)]))) ?_
  refine Pa (y_pick_f rfl rfl) ?_
  refine Pm ?_
  refine Pb (y_move rfl) ?_
  refine Pb (y_move rfl) ?_
  refine Pb ((Yld.to (u := .bool false) (y_geq rfl rfl) (by rw [decide_eq_false (by omega)]))) ?_
  refine Pa (y_pick_f rfl rfl) ?_
  refine Ps ?_
  refine rj_nil (hK3 _ _ _ ?_)
  refine cj_env (eL 0 rfl (eL 1 rfl (eL 2 rfl (eL 11 rfl eN)))) ?_
  refine cj_cond_f rfl (cj_seq fun K4 hK4 => cj_region ?_)
  refine Pm ?_
  refine Pa (Ca Tryz.call59 (lgDown_q l d va u g D)) ?_
  refine Ps ?_
  refine rj_nil (hK4 _ _ _ ?_)
  refine cj_cond rfl (fun hc27 => ?_) (fun hc27 => ?_)
  have f1 : (g.down || D.down) = true := hc27
  refine cj_seq fun K6 hK6 => cj_region ?_
  refine Ps ?_
  refine Ps ?_
  refine rj_nil (hK6 _ _ _ (cj_ret (hret _ _ _ ?_)))
  refine Ea Tryz.results57 (.cons (rv_tmp rfl) (.cons (rv_tmp rfl) .nil)) [lgB l (some ⟨d, 0, none⟩) va g, dkB d u D, dkS u D] le_ ?_
  exact .inl ⟨f1, rfl, rfl⟩
  have f1 : ¬ (g.down || D.down) = true := by simpa using hc27
  refine cj_skip (hK2 _ _ _ (cj_seq fun K7 hK7 => cj_region ?_))
  refine Pm ?_
  refine Pa (Ca Tryz.call25 (lgBase_q l (some ⟨d, 0, none⟩) va g)) ?_
  refine Pm ?_
  refine Pa (y_extract rfl rfl) ?_
  refine Pa (y_extract rfl rfl) ?_
  refine Pa (y_extract rfl rfl) ?_
  refine Ps ?_
  refine Ps ?_
  refine Ps ?_
  refine rj_nil (hK7 _ _ _ (cj_seq fun K8 hK8 => cj_region ?_))
  refine Pm ?_
  refine Pm ?_
  refine Pm ?_
  refine Pm ?_
  refine Pa (y_build (cells := [_, _, _, _, _, _, _, _, _, _, _]) [(0, 1), (1, 1), (2, 1), (3, 1), (4, 1), (5, 1), (6, 1), (7, 1), (8, 1), (9, 1), (10, 1)] Tryz.underlying109 Tryz.zeroValue109 (fun _ => rfl) rfl rfl) ?_
  refine rj_box (wn0 rfl) rfl rfl rfl (fun bx => ?_)
  refine Ps ?_
  refine Ps ?_
  refine rj_add (A := prA (NV.new u va) (ND.start id n g)) (slc_nil _ _) ?_
  refine rj_add (A := mpA (NV.new u va).vm (ND.start id n g).votes) (fun _ => trivial) ?_
  refine rj_nil (hK8 _ _ _ ?_)
  refine cj_env (eL 6 rfl (eL 7 rfl eN)) ?_
  refine cj_ret (hret _ _ _ ?_)
  refine Ea Tryz.results57 (.cons (rv_tmp rfl) (.cons (rv_tmp rfl) .nil)) (ndI ⟨bx, l, d⟩ (NV.new u va) (ND.start id n g) D) le_ ?_
  exact .inr ⟨f1, bx, rfl, ⟨hva, Els.nil, rfl, rfl, rfl, fun h => absurd (show (0 : Int) = 1 from h) (by decide)⟩, rfl⟩
def DKh (D : DK) : Prop := D.down = false ∧ D.bound = false
theorem step_h {D : DK} (h : DKh D) : D.step = (true, D) := by unfold DK.step; simp [h.1, h.2]
theorem put_h {D : DK} (h : DKh D) (s : Bs) : (D.put s).1 = 0 ∧ DKh (D.put s).2 ∧ (D.put s).2.b = D.b ++ s ∧ (D.put s).2.sure = (D.b ++ s).length := by
  have e2 : D.append s = (0, { D with b := D.b ++ s }) := by unfold DK.append; rw [step_h h]; rfl
  have e3 : D.put s = (0, { D with b := D.b ++ s, sure := (D.b ++ s).length }) := by
    unfold DK.put
    rw [e2]
    simp only [ite_true]
    unfold DK.sync
    rw [step_h (D := { D with b := D.b ++ s }) h]; rfl
  rw [e3]
  exact ⟨rfl, h, rfl, rfl⟩
theorem swap_h {D : DK} (h : DKh D) (s : Bs) : (D.swap s).1 = 0 ∧ DKh (D.swap s).2 ∧ (D.swap s).2.b = s ∧ (D.swap s).2.sure = s.length := by
  unfold DK.swap
  rw [step_h h]
  exact ⟨rfl, h, rfl, rfl⟩
theorem addD_h {g : LG} {D : DK} (hg : g.down = false) (h : DKh D) {i : Int} {m : List Ent} (hi : g.base ≤ i ∧ i ≤ g.last) : (g.addD D i m).1 = 0 ∧ (g.addD D i m).2.1 = g.play (.add i m) ∧ (g.addD D i m).2.2 = (D.put (Rec.add i m).bytes).2 := by
  have hp := put_h h (Rec.add i m).bytes
  unfold LG.addD
  rw [if_neg (by simp [hg, h.1]), if_neg (by omega), if_pos hp.1]
  exact ⟨rfl, rfl, rfl⟩
theorem setD_h {g : LG} {D : DK} (hg : g.down = false) (h : DKh D) {t v : Int} (ht : g.term ≤ t) (hv : -1 ≤ v) : (g.setTermD D t v).1 = 0 ∧ (g.setTermD D t v).2.1 = { g with term := t, vote := v } ∧ (g.setTermD D t v).2.2 = (D.put (Rec.term t v).bytes).2 := by
  have hp := put_h h (Rec.term t v).bytes
  unfold LG.setTermD
  rw [if_neg (by simp [hg, h.1]), if_neg (by omega), if_pos hp.1]
  exact ⟨rfl, rfl, rfl⟩
theorem instD_h {g : LG} {D : DK} (hg : g.down = false) (h : DKh D) {i t : Int} {s : Bs} (hi : g.base < i) : (g.instD D i t s).1 = 0 ∧ (g.instD D i t s).2.1 = g.inst i t s ∧ ∃ to, (g.instD D i t s).2.2 = (D.swap (Rec.all to).bytes).2 ∧ to = g.inst i t s := by
  unfold LG.instD LG.inst
  rw [if_neg (by simp [hg, h.1]), if_neg (by omega)]
  by_cases h1 : g.termAt i = some t
  · have h2 : i ≤ g.last := by
      unfold LG.termAt at h1
      rw [if_neg (by omega)] at h1
      unfold LG.at at h1
      split at h1
      · rename_i h3; exact h3.2
      · cases h1
    rw [if_pos h1, if_pos h1]
    unfold LG.compD
    rw [if_neg (by simp [hg, h.1]), if_neg (by omega)]
    unfold LG.swapD
    rw [if_pos (swap_h h _).1]
    exact ⟨rfl, rfl, _, rfl, rfl⟩
  · rw [if_neg h1, if_neg h1]
    unfold LG.swapD
    rw [if_pos (swap_h h _).1]
    exact ⟨rfl, rfl, _, rfl, rfl⟩
theorem LD.mono2 {n m : Nat} {g : LG} {D : DK} (h : LD n g D) (hm : n ≤ m) : LD m g D := by
  obtain ⟨h1, h2, h3, h4, h5, h6, h7⟩ := h
  exact ⟨h1, h2, h3, h4, h5, by omega, h7⟩
def Hs (n : Nat) (r : Bool × NS) (y : ND) : Prop := r.1 = true ∧ r.2.1 = y ∧ LD n y.g r.2.2
theorem LD.h {n : Nat} {g : LG} {D : DK} (h : LD n g D) : DKh D := ⟨h.1, h.2.1⟩
theorem must_add {n k : Nat} {x : ND} {D : DK} (hk : k ≤ 90) (hl : LD n x.g D) (hx : NIn k x) {i : Int} {m : List Ent} (hi : x.g.base ≤ i ∧ i ≤ x.g.last) (hm : ∀ e ∈ m, (0 ≤ e.1 ∧ e.1 ≤ 2305843009213693952 + k) ∧ e.2.length ≤ 100) (hn : m.length ≤ 20) :
    Hs (n + 3000) (mustN (x, D) (x.g.addD D i m)) { x with g := x.g.play (.add i m) } := by
  have hgd : x.g.down = false := hl.2.2.2.2.1
  obtain ⟨h1, h2, h3⟩ := addD_h hgd hl.h (m := m) hi
  have hg2 := (hx.add (i := i) hm hn).g (by omega)
  have hb := hx.base
  have hal := hx.alln
  have hle : x.g.last = x.g.base + x.g.all.length := rfl
  have hen := ents_le (fun e he => (hm e he).2)
  have hmb : ∀ e ∈ m, u64B e.1 ∧ e.2.length ≤ 1000000 := fun e he => by have := hm e he; unfold u64B; omega
  have hln := Rec.len_add (b := i) (by omega) hmb (by omega)
  obtain ⟨p1, p2⟩ := LD.put hl (r := .add i m) (k := 2900) ⟨hi, hmb, by omega⟩ (by omega) (by omega) hg2
  unfold mustN
  rw [if_pos h1, h2, h3]
  obtain ⟨q1, q2, q3, q4, q5, q6, q7⟩ := p2
  exact ⟨rfl, rfl, q1, q2, q3, q4, q5, Nat.le_trans q6 (by omega), q7⟩
theorem must_set {n k : Nat} {x : ND} {D : DK} (hk : k ≤ 90) (hl : LD n x.g D) (hx : NIn k x) {t v : Int} (ht : x.g.term ≤ t ∧ t ≤ 2305843009213693952 + (k + 1)) (hv : -1 ≤ v ∧ v < 9) :
    Hs (n + 3000) (mustN (x, D) (x.g.setTermD D t v)) { x with g := { x.g with term := t, vote := v } } := by
  have hgd : x.g.down = false := hl.2.2.2.2.1
  obtain ⟨h1, h2, h3⟩ := setD_h hgd hl.h ht.1 hv.1
  have hterm := hx.term
  have hg2 := (hx.set (t := t) (vt := v) (by omega) hv).g (by omega)
  have hln := Rec.len_term (t := t) (v := v) (by unfold u64B; omega) (by omega)
  obtain ⟨p1, p2⟩ := LD.put hl (r := .term t v) (k := 2900) ⟨by unfold u64B; omega, hv.1, by omega⟩ (by omega) (by omega) hg2
  unfold mustN
  rw [if_pos h1, h2, h3]
  obtain ⟨q1, q2, q3, q4, q5, q6, q7⟩ := p2
  exact ⟨rfl, rfl, q1, q2, q3, q4, q5, Nat.le_trans q6 (by omega), q7⟩
theorem Hs.bind {n m : Nat} {r : Bool × NS} {y z : ND} {f : NS → Bool × NS} (h : Hs n r y) (hf : ∀ D, LD n y.g D → Hs m (f (y, D)) z) : Hs m (bindN r f) z := by
  obtain ⟨h1, h2, h3⟩ := h
  unfold bindN
  rw [if_pos h1, show r.2 = (y, r.2.2) from by rw [← h2]]
  exact hf _ h3
def ND.entryP (x : ND) (cmd : Bs) : ND := (ND.count { x with g := x.g.play (.add x.g.last [(x.g.term, cmd)]) }).feedAll
def ND.winP (x : ND) : ND := x.wins.entryP []
def ND.standP (x : ND) : ND := if x.n = 1 then (ND.stands { x with g := { x.g with term := x.g.term + 1, vote := x.id } }).winP else (ND.stands { x with g := { x.g with term := x.g.term + 1, vote := x.id } }).askAll
def ND.tickP (x : ND) : ND :=
  if x.role = 2 then if x.patience + 1 ≥ 3 then ND.feedAll { x with patience := 0 } else { x with patience := x.patience + 1 }
  else if x.patience + 1 ≥ limitI x.id x.g.term then ND.standP { x with patience := x.patience + 1 } else { x with patience := x.patience + 1 }
def ND.askedP (x : ND) (m : Msg) : ND := if x.grants m = true then ND.send { x with g := { x.g with term := x.g.term, vote := m.frm }, patience := 0 } (ND.voteMsg m true) else x.send (ND.voteMsg m false)
def ND.votedP (x : ND) (m : Msg) : ND :=
  if ¬ x.role = 1 ∨ ¬ m.term = x.g.term ∨ m.ok = false then x
  else if 2 * ((setAdd x.votes m.frm).length : Int) > x.n then ND.winP { x with votes := setAdd x.votes m.frm } else { x with votes := setAdd x.votes m.frm }
def ND.restP (x : ND) (m : Msg) (c : Int × List Ent) : ND := match ND.fits x.g c.2 (c.1 + 1) with
  | none => (x.commits m (c.1 + c.2.length)).answer m true (c.1 + c.2.length)
  | some (i, l) => if i ≤ x.commit then x else (ND.commits { x with g := x.g.play (.add (i - 1) l) } m (c.1 + c.2.length)).answer m true (c.1 + c.2.length)
def ND.addP (x : ND) (m : Msg) : ND :=
  if m.index < x.g.base ∧ (m.es.length : Int) < x.g.base - m.index then x.answer m true x.g.base
  else if ¬ m.index < x.g.base ∧ ¬ x.g.termAt m.index = some m.logTerm then x.answer m false (min x.g.last (max m.index 1 - 1))
  else x.restP m (x.cutM m)
def ND.snapP (x : ND) (m : Msg) : ND := if m.index > x.commit then ND.answer { x with g := x.g.inst m.index m.logTerm m.state, commit := m.index } m true m.index else x.answer m true x.commit
def ND.fedP (x : ND) (m : Msg) : ND := if m.term < x.g.term then x.answer m false 0 else if x.role = 2 then x else if m.kind = 2 then (x.follows m).addP m else (x.follows m).snapP m
def ND.heardP (x : ND) (m : Msg) : ND := (heardN (x, DK.new) m).2.1
def ND.kindP (x : ND) (m : Msg) : ND := if m.kind = 0 then x.askedP m else if m.kind = 1 then x.votedP m else if m.kind = 2 ∨ m.kind = 4 then x.fedP m else if m.kind = 3 then x.heardP m else x
def ND.receiveP (x : ND) (m : Msg) : ND :=
  if ¬ m.to = x.id ∨ m.frm = x.id ∨ m.frm < 0 ∨ m.frm ≥ x.n then x
  else if m.term > x.g.term then (ND.newTerm { x with g := { x.g with term := m.term, vote := -1 } }).kindP m else x.kindP m
theorem Hs.ret {n m : Nat} {y : ND} {D : DK} {g : LG} (h : LD n g D) (hg : y.g = g) (hm : n ≤ m) : Hs m (true, (y, D)) y := ⟨rfl, rfl, by rw [hg]; exact LD.mono2 h hm⟩
theorem feedAll_g (x : ND) : x.feedAll.g = x.g := by rw [feedAll_eq]; rfl
theorem askAll_g (x : ND) : x.askAll.g = x.g := by unfold ND.askAll; rw [asks_eq]; rfl
theorem count_g (x : ND) : x.count.g = x.g := (count_out x).2.1
theorem entry_h {n k : Nat} {x : ND} {D : DK} {cmd : Bs} (hk : k ≤ 90) (hl : LD n x.g D) (hx : NIn k x) (hc : cmd.length ≤ 100) : Hs (n + 3000) (entryN (x, D) cmd) (x.entryP cmd) := by
  have ht := hx.term
  have hle : x.g.last = x.g.base + x.g.all.length := rfl
  exact Hs.bind (must_add (i := x.g.last) (m := [(x.g.term, cmd)]) hk hl hx ⟨by omega, Int.le_refl _⟩ (fun e he => by simp at he; subst he; exact ⟨⟨by omega, by omega⟩, hc⟩) (by simp)) (fun D' h => Hs.ret h (by rw [feedAll_g, count_g]) (Nat.le_refl _))
theorem win_h {n k : Nat} {x : ND} {D : DK} (hk : k ≤ 90) (hl : LD n x.g D) (hx : NIn k x) : Hs (n + 3000) (winN (x, D)) x.winP :=
  entry_h (x := x.wins) hk hl (NIn.wins (by omega) hx) (by simp)
theorem stand_h {n k : Nat} {x : ND} {D : DK} (hk : k ≤ 80) (hl : LD n x.g D) (hx : NIn k x) : Hs (n + 6000) (standN (x, D)) x.standP := by
  have ht := hx.term
  have hid := hx.idn
  refine Hs.bind (must_set (by omega) hl hx (t := x.g.term + 1) (v := x.id) (by omega) (by omega)) (fun D' h => ?_)
  have h1 := (hx.set (t := x.g.term + 1) (vt := x.id) (by omega) (by omega)).stands
  unfold ND.standP
  dsimp only
  by_cases hn : x.n = 1
  · rw [if_pos hn, if_pos hn]
    exact win_h (k := k + 1) (by omega) h h1
  · rw [if_neg hn, if_neg hn]
    exact Hs.ret h (askAll_g _) (by omega)
theorem tick_h {n k : Nat} {x : ND} {D : DK} (hk : k ≤ 70) (hl : LD n x.g D) (hx : NIn k x) : Hs (n + 6000) (tickN (x, D)) x.tickP := by
  have hp := hx.patience
  unfold tickN ND.tickP
  dsimp only
  by_cases h1 : x.role = 2
  · rw [if_pos h1, if_pos h1]
    by_cases h2 : x.patience + 1 ≥ 3
    · rw [if_pos h2, if_pos h2]; exact Hs.ret hl (feedAll_g _) (by omega)
    · rw [if_neg h2, if_neg h2]; exact Hs.ret hl rfl (by omega)
  · rw [if_neg h1, if_neg h1]
    by_cases h2 : x.patience + 1 ≥ limitI x.id x.g.term
    · rw [if_pos h2, if_pos h2]
      exact stand_h (k := k + 1) (x := { x with patience := x.patience + 1 }) (by omega) hl ((hx.le (show k ≤ k + 1 by omega)).pat (by omega))
    · rw [if_neg h2, if_neg h2]; exact Hs.ret hl rfl (by omega)
theorem asked_h {n k : Nat} {x : ND} {D : DK} {m : Msg} (hk : k ≤ 70) (hl : LD n x.g D) (hx : NIn k x) (hm : MIn k x.n m) : Hs (n + 3000) (askedN (x, D) m) (x.askedP m) := by
  have hf := hm.frm
  have hid := hx.idn
  have ht := hx.term
  unfold askedN ND.askedP
  dsimp only
  by_cases h1 : x.grants m = true
  · rw [if_pos h1, if_pos h1]
    exact Hs.bind (must_set (by omega) hl hx (t := x.g.term) (v := m.frm) (by omega) (by omega)) (fun D' h => Hs.ret h rfl (Nat.le_refl _))
  · rw [if_neg h1, if_neg h1]; exact Hs.ret hl rfl (by omega)
theorem voted_h {n k : Nat} {x : ND} {D : DK} {m : Msg} (hk : k ≤ 70) (hl : LD n x.g D) (hx : NIn k x) (hm : MIn k x.n m) : Hs (n + 3000) (votedN (x, D) m) (x.votedP m) := by
  unfold votedN ND.votedP
  dsimp only
  by_cases h1 : ¬ x.role = 1 ∨ ¬ m.term = x.g.term ∨ m.ok = false
  · rw [if_pos h1, if_pos h1]; exact Hs.ret hl rfl (by omega)
  · rw [if_neg h1, if_neg h1]
    by_cases h2 : 2 * ((setAdd x.votes m.frm).length : Int) > x.n
    · rw [if_pos h2, if_pos h2]
      exact win_h (k := k) (x := { x with votes := setAdd x.votes m.frm }) (by omega) hl (hx.vote1 hm.frm)
    · rw [if_neg h2, if_neg h2]; exact Hs.ret hl rfl (by omega)
theorem fits_at {g : LG} : ∀ {l : List Ent} {i j : Int} {l2 : List Ent}, ND.fits g l i = some (j, l2) → i ≤ j ∧ (∃ c : Nat, l2 = l.drop c ∧ j = i + c) ∧ (j = i ∨ (∃ e, g.at (j - 1) = some e))
  | [], i, j, l2, h => by cases h
  | e :: l, i, j, l2, h => by
    by_cases h1 : (g.at i).map (·.1) = some e.1
    · rw [fits_yes h1] at h
      obtain ⟨a, ⟨c, hc1, hc2⟩, d⟩ := fits_at h
      refine ⟨by omega, ⟨c + 1, by simpa using hc1, by omega⟩, .inr ?_⟩
      rcases d with d | d
      · subst d
        cases h2 : g.at i with
        | none => rw [h2] at h1; cases h1
        | some e2 => exact ⟨e2, by rw [show i + 1 - 1 = i by omega]; exact h2⟩
      · exact d
    · rw [fits_no h1] at h
      cases h
      exact ⟨Int.le_refl _, ⟨0, by simp, by omega⟩, .inl rfl⟩
theorem at_last {g : LG} {i : Int} {e : Ent} (h : g.at i = some e) : g.base < i ∧ i ≤ g.last := by
  unfold LG.at at h
  split at h
  · assumption
  · cases h
theorem termAt_last {g : LG} {i t : Int} (h : g.termAt i = some t) : g.base ≤ i ∧ i ≤ g.last := by
  unfold LG.termAt at h
  split at h
  · rename_i h1; unfold LG.last; omega
  · cases h2 : g.at i with
    | none => rw [h2] at h; cases h
    | some e => have := at_last h2; omega
theorem rest_h {n k : Nat} {x : ND} {D : DK} {m : Msg} (hk : k ≤ 70) (hl : LD n x.g D) (hx : NIn k x) (hm : MIn k x.n m) (hc : x.g.base ≤ (x.cutM m).1 ∧ (x.cutM m).1 ≤ x.g.last) : Hs (n + 3000) (restN x D m (x.cutM m)) (x.restP m (x.cutM m)) := by
  obtain ⟨hb1, hb2, hb3⟩ := cutM_b hx hm
  unfold restN ND.restP
  cases hfi : ND.fits x.g (x.cutM m).2 ((x.cutM m).1 + 1) with
  | none => exact Hs.ret hl rfl (by omega)
  | some p =>
    obtain ⟨i, l⟩ := p
    obtain ⟨a1, ⟨c, hc1, hc2⟩, a3⟩ := fits_at hfi
    dsimp only
    by_cases h1 : i ≤ x.commit
    · rw [if_pos h1, if_pos h1]; exact Hs.ret hl rfl (by omega)
    · rw [if_neg h1, if_neg h1]
      have hi : x.g.base ≤ i - 1 ∧ i - 1 ≤ x.g.last := by
        rcases a3 with a3 | ⟨e, a3⟩
        · omega
        · have := at_last a3; omega
      exact Hs.bind (must_add (i := i - 1) (m := l) (by omega) hl hx hi (fun e he => hb3 e (by rw [hc1] at he; exact List.mem_of_mem_drop he)) (by rw [hc1]; simp; omega)) (fun D' h => Hs.ret h rfl (Nat.le_refl _))
theorem add_h {n k : Nat} {x : ND} {D : DK} {m : Msg} (hk : k ≤ 70) (hl : LD n x.g D) (hx : NIn k x) (hm : MIn k x.n m) : Hs (n + 3000) (addN (x, D) m) (x.addP m) := by
  unfold ND.addP
  by_cases h1 : m.index < x.g.base ∧ (m.es.length : Int) < x.g.base - m.index
  · unfold addN
    rw [if_pos h1, if_pos h1]; exact Hs.ret hl rfl (by omega)
  · by_cases h2 : ¬ m.index < x.g.base ∧ ¬ x.g.termAt m.index = some m.logTerm
    · unfold addN
      rw [if_neg h1, if_neg h1, if_pos h2, if_pos h2]; exact Hs.ret hl rfl (by omega)
    · rw [addN_eq h1 h2, if_neg h1, if_neg h2]
      refine rest_h hk hl hx hm ?_
      unfold ND.cutM
      by_cases h3 : m.index < x.g.base
      · rw [if_pos h3]; unfold LG.last; dsimp only; omega
      · rw [if_neg h3]
        have h4 : x.g.termAt m.index = some m.logTerm := by
          by_cases h4 : x.g.termAt m.index = some m.logTerm
          · exact h4
          · exact absurd ⟨h3, h4⟩ h2
        exact termAt_last h4
theorem LD.swap {n : Nat} {g to : LG} {D : DK} (h : LD n g D) (ht : to.ok) (hd : to.down = false) (hw : (wr (Rec.all to).nd).length ≤ 16777216) (hn : 17000000 ≤ n) : LD n to (D.swap (Rec.all to).bytes).2 := by
  obtain ⟨h1, h2, h3, h4, h5, h6, rs, h7, h8⟩ := h
  have e : D.swap (Rec.all to).bytes = (0, { D with b := (Rec.all to).bytes, sure := (Rec.all to).bytes.length }) := by
    unfold DK.swap; rw [step_h ⟨h1, h2⟩]; rfl
  rw [e]
  have hp : LG.new.play (.all to) = to := by
    show { to with down := false } = to
    cases to; simp at hd; subst hd; rfl
  refine ⟨h1, h2, rfl, h4, hd, ?_, [Rec.all to], by simp [recsB], .cons LG.new_ok ht hw ?_⟩
  · show (Rec.all to).bytes.length ≤ n
    unfold Rec.bytes; rw [List.length_append, be4_len]; omega
  · rw [hp]; exact .nil _ ht
theorem inst_len {k : Nat} {x : ND} (hk : k ≤ 90) (hx : NIn k x) : (wr (Rec.all x.g).nd).length ≤ 16777216 := by
  have h1 := Rec.len_all (hx.g (by omega))
  have h2 := ents_le (fun e he => (hx.all e he).2)
  have h3 := hx.alln
  have h4 := hx.state
  omega
theorem snap_h {n k : Nat} {x : ND} {D : DK} {m : Msg} (hn : 17000000 ≤ n) (hk : k ≤ 70) (hl : LD n x.g D) (hx : NIn k x) (hm : MIn k x.n m) (hb : x.g.base ≤ x.commit) : Hs (n + 3000) (snapN (x, D) m) (x.snapP m) := by
  unfold snapN ND.snapP
  dsimp only
  by_cases h1 : m.index > x.commit
  · rw [if_pos h1, if_pos h1]
    have hgd : x.g.down = false := hl.2.2.2.2.1
    obtain ⟨a1, a2, to, a3, a4⟩ := instD_h hgd hl.h (i := m.index) (t := m.logTerm) (s := m.state) (by omega)
    have hy := hx.inst hm.index hm.logTerm hm.state
    have hto : to.ok := by rw [a4]; exact hy.g (by omega)
    have htd : to.down = false := by rw [a4]; unfold LG.inst; split <;> exact hgd
    have hL := LD.swap hl hto htd (by rw [a4]; exact inst_len (x := { x with g := x.g.inst m.index m.logTerm m.state }) (by omega) hy) hn
    refine Hs.bind (y := { x with g := x.g.inst m.index m.logTerm m.state }) (n := n) ?_ (fun D' h => Hs.ret h rfl (by omega))
    unfold mustN
    rw [if_pos a1, a2, a3]
    exact ⟨rfl, rfl, by rw [← a4]; exact hL⟩
  · rw [if_neg h1, if_neg h1]; exact Hs.ret hl rfl (by omega)
theorem fed_h {n k : Nat} {x : ND} {D : DK} {m : Msg} (hn : 17000000 ≤ n) (hk : k ≤ 70) (hl : LD n x.g D) (hx : NIn k x) (hm : MIn k x.n m) (hb : x.g.base ≤ x.commit) : Hs (n + 3000) (fedN (x, D) m) (x.fedP m) := by
  unfold fedN ND.fedP
  dsimp only
  by_cases h1 : m.term < x.g.term
  · rw [if_pos h1, if_pos h1]; exact Hs.ret hl rfl (by omega)
  · rw [if_neg h1, if_neg h1]
    by_cases h2 : x.role = 2
    · rw [if_pos h2, if_pos h2]; exact Hs.ret hl rfl (by omega)
    · rw [if_neg h2, if_neg h2]
      by_cases h3 : m.kind = 2
      · rw [if_pos h3, if_pos h3]; exact add_h (x := x.follows m) hk hl (hx.follows m) hm
      · rw [if_neg h3, if_neg h3]; exact snap_h (x := x.follows m) hn hk hl (hx.follows m) hm hb
theorem heard_h {n : Nat} {x : ND} {D : DK} {m : Msg} (hl : LD n x.g D) : Hs n (heardN (x, D) m) (x.heardP m) := by
  unfold ND.heardP heardN
  dsimp only
  by_cases h1 : ¬ x.role = 2 ∨ ¬ m.term = x.g.term
  · rw [if_pos h1, if_pos h1]; exact ⟨rfl, rfl, hl⟩
  · rw [if_neg h1, if_neg h1]
    by_cases h2 : m.ok = false
    · rw [if_pos h2, if_pos h2]; exact ⟨rfl, rfl, hl⟩
    · rw [if_neg h2, if_neg h2]
      split
      · exact ⟨rfl, rfl, by show LD n (ND.count _).g _; rw [count_g]; exact hl⟩
      · exact ⟨rfl, rfl, by show LD n (ND.count _).g _; rw [count_g]; exact hl⟩
theorem kind_h {n k : Nat} {x : ND} {D : DK} {m : Msg} (hn : 17000000 ≤ n) (hk : k ≤ 70) (hl : LD n x.g D) (hx : NIn k x) (hm : MIn k x.n m) (hb : x.g.base ≤ x.commit) : Hs (n + 3000) (kindN (x, D) m) (x.kindP m) := by
  unfold kindN ND.kindP
  by_cases h0 : m.kind = 0
  · rw [if_pos h0, if_pos h0]; exact asked_h hk hl hx hm
  · rw [if_neg h0, if_neg h0]
    by_cases h1 : m.kind = 1
    · rw [if_pos h1, if_pos h1]; exact voted_h hk hl hx hm
    · rw [if_neg h1, if_neg h1]
      by_cases h2 : m.kind = 2 ∨ m.kind = 4
      · rw [if_pos h2, if_pos h2]; exact fed_h hn hk hl hx hm hb
      · rw [if_neg h2, if_neg h2]
        by_cases h3 : m.kind = 3
        · rw [if_pos h3, if_pos h3]
          obtain ⟨a, b, c⟩ := heard_h (m := m) hl
          exact ⟨a, b, LD.mono2 c (by omega)⟩
        · rw [if_neg h3, if_neg h3]; exact Hs.ret hl rfl (by omega)
theorem receive_h {n k : Nat} {x : ND} {D : DK} {m : Msg} (hn : 17000000 ≤ n) (hk : k ≤ 60) (hl : LD n x.g D) (hx : NIn k x) (hm : MIm k m) (hb : x.g.base ≤ x.commit) : Hs (n + 6000) (receiveN (x, D) m) (x.receiveP m) := by
  unfold receiveN ND.receiveP
  dsimp only
  have hmt := hm.term
  by_cases h1 : ¬ m.to = x.id ∨ m.frm = x.id ∨ m.frm < 0 ∨ m.frm ≥ x.n
  · rw [if_pos h1, if_pos h1]; exact Hs.ret hl rfl (by omega)
  · rw [if_neg h1, if_neg h1]
    have hf : 0 ≤ m.frm ∧ m.frm < x.n := by omega
    by_cases h2 : m.term > x.g.term
    · rw [if_pos h2, if_pos h2]
      refine Hs.bind (must_set (by omega) hl hx (t := m.term) (v := -1) (by omega) (by omega)) (fun D' h => ?_)
      exact kind_h (k := k + 1) (n := n + 3000) (x := ND.newTerm { x with g := { x.g with term := m.term, vote := -1 } }) (by omega) (by omega) h ((hx.set (t := m.term) (vt := -1) (by omega) (by omega)).newTerm) (hm.to hf (by omega)) hb
    · rw [if_neg h2, if_neg h2]
      obtain ⟨a, b, c⟩ := kind_h (m := m) hn (by omega) hl hx (hm.to hf (Nat.le_refl _)) hb
      exact ⟨a, b, LD.mono2 c (by omega)⟩
structure LIn (T I : Int) (A : Nat) (x : ND) : Prop where
  idn : x.id < x.n ∧ x.n ≤ 9
  down : x.down = false
  term : 0 ≤ x.g.term ∧ x.g.term ≤ T
  vote : -1 ≤ x.g.vote ∧ x.g.vote < 9
  base : 0 ≤ x.g.base
  baseT : 0 ≤ x.g.baseT ∧ x.g.baseT ≤ T
  last : x.g.last ≤ I
  state : x.g.state.length ≤ 1000000
  alln : x.g.all.length ≤ A
  all : ∀ e ∈ x.g.all, (0 ≤ e.1 ∧ e.1 ≤ T) ∧ e.2.length ≤ 100
  commit : x.g.base ≤ x.commit ∧ x.commit ≤ x.g.last
  patience : 0 ≤ x.patience ∧ x.patience ≤ 30
  peers : x.role = 2 → x.peers.length = x.n
  peer : ∀ p ∈ x.peers, (1 ≤ p.1 ∧ p.1 ≤ I + 1) ∧ (0 ≤ p.2 ∧ p.2 ≤ I)
  pl : x.role = 2 → ∀ p ∈ x.peers, p.2 ≤ x.g.last
  votes : x.votes.Nodup ∧ ∀ i ∈ x.votes, 0 ≤ i ∧ i < (x.n : Int)
theorem LIn.mono {T T' I I' : Int} {A A' : Nat} {x : ND} (h : LIn T I A x) (hT : T ≤ T') (hI : I ≤ I') (hA : A ≤ A') : LIn T' I' A' x :=
  ⟨h.idn, h.down, ⟨h.term.1, Int.le_trans h.term.2 hT⟩, h.vote, h.base, ⟨h.baseT.1, Int.le_trans h.baseT.2 hT⟩, Int.le_trans h.last hI, h.state, Nat.le_trans h.alln hA, fun e he => ⟨⟨(h.all e he).1.1, Int.le_trans (h.all e he).1.2 hT⟩, (h.all e he).2⟩, h.commit, h.patience, h.peers, fun p hp => ⟨⟨(h.peer p hp).1.1, by have := (h.peer p hp).1.2; omega⟩, ⟨(h.peer p hp).2.1, Int.le_trans (h.peer p hp).2.2 hI⟩⟩, h.pl, h.votes⟩
theorem LIn.nin {T I : Int} {A : Nat} {x : ND} (h : LIn T I A x) (k : Nat) (hT : T ≤ 2305843009213693952) (hI : I ≤ 100000000000000) (hA : A ≤ 80000) (ho : x.out.length ≤ 20 * k) : NIn k x :=
  ⟨h.idn, ⟨h.term.1, by have := h.term.2; omega⟩, h.vote, ⟨h.base, by have := h.last; have := h.commit; omega⟩, ⟨h.baseT.1, by have := h.baseT.2; omega⟩, h.state, by have := h.alln; omega, fun e he => ⟨⟨(h.all e he).1.1, by have := (h.all e he).1.2; omega⟩, (h.all e he).2⟩, by have := h.base; have := h.last; have := h.commit; omega, by have := h.patience; omega, h.peers, fun p hp => by have := h.peer p hp; omega, h.votes, ho⟩
structure TR (x y : ND) : Prop where
  id : y.id = x.id
  n : y.n = x.n
  com : x.commit ≤ y.commit
  base : x.g.base ≤ y.g.base
  at_ : ∀ i, y.g.base < i → i ≤ x.commit → y.g.at i = x.g.at i
  vr : x.g.term < y.g.term ∨ (x.g.term = y.g.term ∧ (x.g.vote = -1 ∨ x.g.vote = y.g.vote))
theorem TR.same {x y : ND} (hg : y.g = x.g) (h1 : y.id = x.id) (h2 : y.n = x.n) (h3 : x.commit ≤ y.commit) : TR x y :=
  ⟨h1, h2, h3, by rw [hg]; exact Int.le_refl _, fun i _ _ => by rw [hg], .inr ⟨by rw [hg], .inr (by rw [hg])⟩⟩
theorem TR.rfl {x : ND} : TR x x := TR.same (Eq.refl _) (Eq.refl _) (Eq.refl _) (Int.le_refl _)
theorem TR.trans {x y z : ND} (h : TR x y) (k : TR y z) : TR x z :=
  ⟨k.id.trans h.id, k.n.trans h.n, Int.le_trans h.com k.com, Int.le_trans h.base k.base, fun i hi hc => by
    have h1 := k.base
    have h2 := h.com
    rw [k.at_ i hi (by omega), h.at_ i (by omega) hc], by
    have h1 := h.vr
    have h2 := k.vr
    omega⟩
structure LT (T I : Int) (A : Nat) (x y : ND) : Prop where
  inn : LIn T I A y
  tr : TR x y
theorem LT.rfl {T I : Int} {A : Nat} {x : ND} (h : LIn T I A x) : LT T I A x x := ⟨h, TR.rfl⟩
theorem LT.trans {T I T' I' : Int} {A A' : Nat} {x y z : ND} (h : LT T I A x y) (k : LT T' I' A' y z) : LT T' I' A' x z := ⟨k.inn, h.tr.trans k.tr⟩
theorem LT.mono {T T' I I' : Int} {A A' : Nat} {x y : ND} (h : LT T I A x y) (hT : T ≤ T') (hI : I ≤ I') (hA : A ≤ A') : LT T' I' A' x y := ⟨h.inn.mono hT hI hA, h.tr⟩
theorem LIn.sends {T I : Int} {A : Nat} {x : ND} (h : LIn T I A x) (l : List Msg) : LIn T I A { x with out := l } :=
  ⟨h.idn, h.down, h.term, h.vote, h.base, h.baseT, h.last, h.state, h.alln, h.all, h.commit, h.patience, h.peers, h.peer, h.pl, h.votes⟩
theorem LT.sent {T I : Int} {A : Nat} {x y : ND} (h : LT T I A x y) (l : List Msg) : LT T I A x { y with out := l } :=
  ⟨h.inn.sends l, h.tr.trans (TR.same (Eq.refl _) (Eq.refl _) (Eq.refl _) (Int.le_refl _))⟩
theorem LT.out {T I : Int} {A : Nat} {x y : ND} {l : List Msg} (h : LT T I A { x with out := l } y) : LT T I A x y := ⟨h.inn, TR.trans (y := { x with out := l }) (TR.same (Eq.refl _) (Eq.refl _) (Eq.refl _) (Int.le_refl _)) h.tr⟩
theorem play_last {g : LG} {i : Int} {m : List Ent} (hi : g.base ≤ i ∧ i ≤ g.last) : (g.play (.add i m)).last = i + m.length := by
  unfold LG.play LG.last at *
  simp; omega
theorem at_in {g : LG} {i : Int} (h : g.base < i ∧ i ≤ g.last) : g.at i = g.all[(i - g.base - 1).toNat]? := by unfold LG.at; rw [if_pos h]
theorem at_out {g : LG} {i : Int} (h : ¬ (g.base < i ∧ i ≤ g.last)) : g.at i = none := by unfold LG.at; rw [if_neg h]
theorem play_at {g : LG} {i j : Int} {m : List Ent} (hi : g.base ≤ i ∧ i ≤ g.last) (hj : j ≤ i) : (g.play (.add i m)).at j = g.at j := by
  have h1 := play_last (m := m) hi
  have hb : (g.play (.add i m)).base = g.base := rfl
  by_cases h2 : g.base < j
  · rw [at_in (g := g) (by omega), at_in (by omega), hb]
    show (g.all.take (i - g.base).toNat ++ m)[_]? = _
    unfold LG.last at hi
    rw [List.getElem?_append_left (by simp; omega), List.getElem?_take_of_lt (by omega)]
  · rw [at_out (g := g) (by omega), at_out (by omega)]
theorem LIn.add {T I : Int} {A : Nat} {x : ND} (h : LIn T I A x) {i : Int} {m : List Ent} (hi : x.commit ≤ i ∧ i ≤ x.g.last) (hr : x.role = 2 → i = x.g.last) (hm : ∀ e ∈ m, (0 ≤ e.1 ∧ e.1 ≤ T) ∧ e.2.length ≤ 100) : LT T (I + m.length) (A + m.length) x { x with g := x.g.play (.add i m) } := by
  have hc := h.commit
  have hI := h.last
  have hA := h.alln
  have hl := play_last (g := x.g) (i := i) (m := m) (by omega)
  refine ⟨⟨h.idn, h.down, h.term, h.vote, h.base, h.baseT, by show (x.g.play (.add i m)).last ≤ _; rw [hl]; omega, h.state, ?_, ?_, ⟨hc.1, by show _ ≤ (x.g.play (.add i m)).last; rw [hl]; show x.commit ≤ _; omega⟩, h.patience, h.peers, fun p hp => by have := h.peer p hp; omega, fun hr2 p hp => ?_, h.votes⟩, ?_⟩
  · show (x.g.all.take _ ++ m).length ≤ _
    simp; omega
  · intro e he
    rcases List.mem_append.1 (show e ∈ x.g.all.take _ ++ m from he) with he | he
    · exact h.all e (List.mem_of_mem_take he)
    · exact hm e he
  · show _ ≤ (x.g.play (.add i m)).last
    have h1 := h.pl hr2 p hp
    have h2 := hr hr2
    rw [hl]; omega
  · exact ⟨Eq.refl _, Eq.refl _, Int.le_refl _, Int.le_refl _, fun j _ hj => play_at (by omega) (by omega), .inr ⟨Eq.refl _, .inr (Eq.refl _)⟩⟩
theorem LIn.set {T I : Int} {A : Nat} {x : ND} (h : LIn T I A x) {t v : Int} (ht : 0 ≤ t ∧ t ≤ T) (hv : -1 ≤ v ∧ v < 9) (hvr : x.g.term < t ∨ (x.g.term = t ∧ (x.g.vote = -1 ∨ x.g.vote = v))) : LT T I A x { x with g := { x.g with term := t, vote := v } } :=
  ⟨⟨h.idn, h.down, ht, hv, h.base, h.baseT, h.last, h.state, h.alln, h.all, h.commit, h.patience, h.peers, h.peer, h.pl, h.votes⟩, ⟨Eq.refl _, Eq.refl _, Int.le_refl _, Int.le_refl _, fun _ _ _ => Eq.refl _, hvr⟩⟩
theorem mid_last {x : ND} (hid : x.id < x.n) (h : ∀ p ∈ x.peers, p.2 ≤ x.g.last) (h0 : 0 ≤ x.g.last) : x.mid ≤ x.g.last := by
  have hm := mid_mem hid
  unfold ND.reach at hm
  rcases List.mem_cons.1 hm with hm | hm
  · omega
  · obtain ⟨i, _, hi⟩ := List.mem_map.1 hm
    rw [← hi]
    unfold ND.mat
    by_cases h1 : i < x.peers.length
    · exact h _ (by rw [List.getD_eq_getElem?_getD, List.getElem?_eq_getElem h1]; simp)
    · rw [List.getD_eq_getElem?_getD, List.getElem?_eq_none (by omega)]; exact h0
theorem LIn.count {T I : Int} {A : Nat} {x : ND} (h : LIn T I A x) (hr : x.role = 2) : LT T I A x x.count := by
  have h0 := h.base
  have hc := h.commit
  have hm := mid_last h.idn.1 (h.pl hr) (by omega)
  unfold ND.count
  split
  · rename_i h1
    exact ⟨⟨h.idn, h.down, h.term, h.vote, h.base, h.baseT, h.last, h.state, h.alln, h.all, ⟨by show x.g.base ≤ x.mid; omega, hm⟩, h.patience, h.peers, h.peer, h.pl, h.votes⟩, TR.same (Eq.refl _) (Eq.refl _) (Eq.refl _) (by show x.commit ≤ x.mid; omega)⟩
  · exact LT.rfl h
theorem LIn.entryP {T I : Int} {A : Nat} {x : ND} {cmd : Bs} (h : LIn T I A x) (hr : x.role = 2) (hc : cmd.length ≤ 100) : LT T (I + 1) (A + 1) x (x.entryP cmd) := by
  have h1 := h.add (i := x.g.last) (m := [(x.g.term, cmd)]) ⟨h.commit.2, Int.le_refl _⟩ (fun _ => Eq.refl _) (fun e he => by simp at he; subst he; exact ⟨h.term, hc⟩)
  have h2 := h1.trans (LIn.count h1.inn hr)
  unfold ND.entryP
  rw [feedAll_eq]
  exact h2.sent _
theorem LIn.wins {T I : Int} {A : Nat} {x : ND} (h : LIn T I A x) : LIn T I A x.wins := by
  have h0 := h.base
  have hc := h.commit
  have hl := h.last
  refine ⟨h.idn, h.down, h.term, h.vote, h.base, h.baseT, h.last, h.state, h.alln, h.all, h.commit, ⟨by show (0 : Int) ≤ 0; omega, by show (0 : Int) ≤ 30; omega⟩, fun _ => by simp [ND.wins], ?_, ?_, h.votes⟩
  · intro p hp
    obtain ⟨_, rfl⟩ := List.mem_replicate.1 (show p ∈ List.replicate x.n (x.g.last + 1, 0) from hp)
    dsimp only; omega
  · intro _ p hp
    obtain ⟨_, rfl⟩ := List.mem_replicate.1 (show p ∈ List.replicate x.n (x.g.last + 1, 0) from hp)
    show 0 ≤ x.g.last; omega
theorem LIn.winP {T I : Int} {A : Nat} {x : ND} (h : LIn T I A x) : LT T (I + 1) (A + 1) x x.winP := by
  have h1 := LIn.entryP (cmd := []) h.wins (Eq.refl _) (by simp)
  exact ⟨h1.inn, TR.trans (TR.same (y := x.wins) (Eq.refl _) (Eq.refl _) (Eq.refl _) (Int.le_refl _)) h1.tr⟩
theorem LIn.stands {T I : Int} {A : Nat} {x : ND} (h : LIn T I A x) : LIn T I A x.stands := by
  have hid := h.idn
  refine ⟨h.idn, h.down, h.term, h.vote, h.base, h.baseT, h.last, h.state, h.alln, h.all, h.commit, ⟨by show (0 : Int) ≤ 0; omega, by show (0 : Int) ≤ 30; omega⟩, fun hr => absurd (show (1 : Int) = 2 from hr) (by decide), h.peer, fun hr => absurd (show (1 : Int) = 2 from hr) (by decide), by simp [ND.stands], fun i hi => ?_⟩
  have : i = (x.id : Int) := by simpa [ND.stands] using hi
  show 0 ≤ i ∧ i < (x.n : Int)
  omega
theorem LIn.standP {T I : Int} {A : Nat} {x : ND} (h : LIn T I A x) : LT (T + 1) (I + 1) (A + 1) x x.standP := by
  have hid := h.idn
  have ht := h.term
  have h1 := (h.mono (show T ≤ T + 1 by omega) (Int.le_refl _) (Nat.le_refl _)).set (t := x.g.term + 1) (v := x.id) (by omega) (by omega) (.inl (by omega))
  have h2 := h1.inn.stands
  have h3 : TR x (ND.stands { x with g := { x.g with term := x.g.term + 1, vote := x.id } }) := h1.tr.trans (TR.same (Eq.refl _) (Eq.refl _) (Eq.refl _) (Int.le_refl _))
  unfold ND.standP
  by_cases hn : x.n = 1
  · rw [if_pos hn]
    have h4 := LIn.winP h2
    exact ⟨h4.inn, h3.trans h4.tr⟩
  · rw [if_neg hn]
    unfold ND.askAll
    rw [asks_eq]
    exact LT.mono (LT.sent ⟨h2, h3⟩ _) (Int.le_refl _) (by omega) (by omega)
theorem LIn.pat {T I : Int} {A : Nat} {x : ND} (h : LIn T I A x) {p : Int} (hp : 0 ≤ p ∧ p ≤ 30) : LT T I A x { x with patience := p } :=
  ⟨⟨h.idn, h.down, h.term, h.vote, h.base, h.baseT, h.last, h.state, h.alln, h.all, h.commit, hp, h.peers, h.peer, h.pl, h.votes⟩, TR.same (Eq.refl _) (Eq.refl _) (Eq.refl _) (Int.le_refl _)⟩
theorem limit_b (i : Nat) (t : Int) : 10 ≤ limitI i t ∧ limitI i t ≤ 20 := by
  unfold limitI; omega
theorem LIn.tickP {T I : Int} {A : Nat} {x : ND} (h : LIn T I A x) : LT (T + 1) (I + 1) (A + 1) x x.tickP := by
  have hp := h.patience
  have hlm := limit_b x.id x.g.term
  unfold ND.tickP
  by_cases h1 : x.role = 2
  · rw [if_pos h1]
    by_cases h2 : x.patience + 1 ≥ 3
    · rw [if_pos h2, feedAll_eq]
      exact LT.mono ((h.pat (by omega)).sent _) (by omega) (by omega) (by omega)
    · rw [if_neg h2]
      exact LT.mono (h.pat (by omega)) (by omega) (by omega) (by omega)
  · rw [if_neg h1]
    by_cases h2 : x.patience + 1 ≥ limitI x.id x.g.term
    · rw [if_pos h2]
      have h3 := h.pat (p := 0) (by omega)
      have h4 := LIn.standP h3.inn
      have e : ND.standP { x with patience := x.patience + 1 } = ND.standP { x with patience := 0 } := Eq.refl _
      rw [e]
      exact h3.trans h4
    · rw [if_neg h2]
      exact LT.mono (h.pat (by omega)) (by omega) (by omega) (by omega)
structure MLn (T I : Int) (m : Msg) : Prop where
  term : 0 ≤ m.term ∧ m.term ≤ T
  index : 0 ≤ m.index ∧ m.index ≤ I
  logTerm : 0 ≤ m.logTerm ∧ m.logTerm ≤ T
  commit : 0 ≤ m.commit
  es : m.es.length ≤ 20 ∧ ∀ e ∈ m.es, (0 ≤ e.1 ∧ e.1 ≤ T) ∧ e.2.length ≤ 100
  state : m.state.length ≤ 1000000
theorem LIn.answer {T I : Int} {A : Nat} {x y : ND} (h : LT T I A x y) (m : Msg) (ok : Bool) (i : Int) : LT T I A x (y.answer m ok i) := h.sent _
theorem LIn.askedP {T I : Int} {A : Nat} {x : ND} {m : Msg} (h : LIn T I A x) (hm : 0 ≤ m.frm ∧ m.frm < x.n) : LT T I A x (x.askedP m) := by
  have hid := h.idn
  unfold ND.askedP
  by_cases h1 : x.grants m = true
  · rw [if_pos h1]
    have h1' := h1
    unfold ND.grants at h1'
    simp only [Bool.and_eq_true, Bool.or_eq_true, decide_eq_true_eq] at h1'
    obtain ⟨⟨⟨_, _⟩, hv⟩, _⟩ := h1'
    have h2 := h.set (t := x.g.term) (v := m.frm) h.term (by omega) (.inr ⟨Eq.refl _, hv⟩)
    have h3 := h2.trans (h2.inn.pat (p := 0) (by omega))
    exact h3.sent _
  · rw [if_neg h1]
    exact (LT.rfl h).sent _
theorem LIn.vote1 {T I : Int} {A : Nat} {x : ND} (h : LIn T I A x) {i : Int} (hi : 0 ≤ i ∧ i < (x.n : Int)) : LIn T I A { x with votes := setAdd x.votes i } :=
  ⟨h.idn, h.down, h.term, h.vote, h.base, h.baseT, h.last, h.state, h.alln, h.all, h.commit, h.patience, h.peers, h.peer, h.pl, setAdd_ok h.votes.1 i, fun j hj => by rcases setAdd_mem hj with hj | hj; exact h.votes.2 j hj; subst hj; exact hi⟩
theorem LIn.votedP {T I : Int} {A : Nat} {x : ND} {m : Msg} (h : LIn T I A x) (hm : 0 ≤ m.frm ∧ m.frm < x.n) : LT T (I + 1) (A + 1) x (x.votedP m) := by
  unfold ND.votedP
  have h1 : LT T I A x { x with votes := setAdd x.votes m.frm } := ⟨h.vote1 hm, TR.same (Eq.refl _) (Eq.refl _) (Eq.refl _) (Int.le_refl _)⟩
  split
  · exact LT.mono (LT.rfl h) (by omega) (by omega) (by omega)
  · split
    · have h2 := LIn.winP h1.inn
      exact h1.trans h2
    · exact LT.mono h1 (by omega) (by omega) (by omega)
theorem LIn.commits {T I : Int} {A : Nat} {x y : ND} (h : LT T I A x y) (m : Msg) {last : Int} (hl : last ≤ y.g.last) : LT T I A x (y.commits m last) := by
  have hc := h.inn.commit
  refine ⟨⟨h.inn.idn, h.inn.down, h.inn.term, h.inn.vote, h.inn.base, h.inn.baseT, h.inn.last, h.inn.state, h.inn.alln, h.inn.all, ⟨?_, ?_⟩, h.inn.patience, h.inn.peers, h.inn.peer, h.inn.pl, h.inn.votes⟩, h.tr.trans (TR.same (Eq.refl _) (Eq.refl _) (Eq.refl _) ?_)⟩
  · show y.g.base ≤ max y.commit (min m.commit last); omega
  · show max y.commit (min m.commit last) ≤ y.g.last; omega
  · show y.commit ≤ max y.commit (min m.commit last); omega
theorem fits_none {g : LG} : ∀ {l : List Ent} {i : Int}, ND.fits g l i = none → l = [] ∨ i + l.length - 1 ≤ g.last
  | [], _, _ => .inl (Eq.refl _)
  | e :: l, i, h => by
    by_cases h1 : (g.at i).map (·.1) = some e.1
    · rw [fits_yes h1] at h
      right
      cases h2 : g.at i with
      | none => rw [h2] at h1; cases h1
      | some e2 =>
        have h3 := at_last h2
        rcases fits_none h with h4 | h4
        · subst h4; simp; omega
        · simp; omega
    · rw [fits_no h1] at h; cases h
theorem LIn.restP {T I : Int} {A : Nat} {x : ND} {m : Msg} (h : LIn T I A x) (hr : ¬ x.role = 2) (hm : MLn T I m) (hc : x.g.base ≤ (x.cutM m).1 ∧ (x.cutM m).1 ≤ x.g.last) : LT T (I + 20) (A + 20) x (x.restP m (x.cutM m)) := by
  have hb3 : (x.cutM m).2.length ≤ 20 ∧ ∀ e ∈ (x.cutM m).2, (0 ≤ e.1 ∧ e.1 ≤ T) ∧ e.2.length ≤ 100 := by
    have := hm.es
    unfold ND.cutM
    split
    · exact ⟨by simp; omega, fun e he => this.2 e (List.mem_of_mem_drop he)⟩
    · exact this
  unfold ND.restP
  cases hfi : ND.fits x.g (x.cutM m).2 ((x.cutM m).1 + 1) with
  | none =>
    have hl : (x.cutM m).1 + (x.cutM m).2.length ≤ x.g.last := by
      rcases fits_none hfi with h1 | h1
      · rw [h1]; simp; omega
      · omega
    exact LT.mono ((LIn.commits (LT.rfl h) m hl).sent _) (by omega) (by omega) (by omega)
  | some p =>
    obtain ⟨i, l⟩ := p
    obtain ⟨a1, ⟨c, hc1, hc2⟩, a3⟩ := fits_at hfi
    dsimp only
    by_cases h1 : i ≤ x.commit
    · rw [if_pos h1]; exact LT.mono (LT.rfl h) (by omega) (by omega) (by omega)
    · rw [if_neg h1]
      have hi : x.commit ≤ i - 1 ∧ i - 1 ≤ x.g.last := by
        rcases a3 with a3 | ⟨e, a3⟩
        · omega
        · have := at_last a3; omega
      have hll : l.length ≤ 20 := by rw [hc1]; simp; omega
      have h2 := h.add (i := i - 1) (m := l) hi (fun hr2 => absurd hr2 hr) (fun e he => hb3.2 e (by rw [hc1] at he; exact List.mem_of_mem_drop he))
      have hpl := play_last (g := x.g) (i := i - 1) (m := l) (by have := h.commit; omega)
      have hle : (x.cutM m).1 + (x.cutM m).2.length ≤ (x.g.play (.add (i - 1) l)).last := by
        rw [hpl, hc1]
        have hcl : c < (x.cutM m).2.length := by
          by_cases hcl : c < (x.cutM m).2.length
          · exact hcl
          · have : l = [] := by rw [hc1]; exact List.drop_eq_nil_of_le (by omega)
            exfalso
            have key : ∀ {l : List Ent} {i j : Int} {l2 : List Ent}, ND.fits x.g l i = some (j, l2) → l2 ≠ [] := by
              intro l
              induction l with
              | nil => intro i j l2 h; cases h
              | cons e l ih =>
                intro i j l2 h
                by_cases h1 : (x.g.at i).map (·.1) = some e.1
                · rw [fits_yes h1] at h; exact ih h
                · rw [fits_no h1] at h; cases h; simp
            exact key hfi this
        simp; omega
      exact LT.mono ((LIn.commits h2 m (last := (x.cutM m).1 + (x.cutM m).2.length) hle).sent _) (by omega) (by omega) (by omega)
theorem LIn.addP {T I : Int} {A : Nat} {x : ND} {m : Msg} (h : LIn T I A x) (hr : ¬ x.role = 2) (hm : MLn T I m) : LT T (I + 20) (A + 20) x (x.addP m) := by
  unfold ND.addP
  by_cases h1 : m.index < x.g.base ∧ (m.es.length : Int) < x.g.base - m.index
  · rw [if_pos h1]; exact LT.mono ((LT.rfl h).sent _) (by omega) (by omega) (by omega)
  · by_cases h2 : ¬ m.index < x.g.base ∧ ¬ x.g.termAt m.index = some m.logTerm
    · rw [if_neg h1, if_pos h2]; exact LT.mono ((LT.rfl h).sent _) (by omega) (by omega) (by omega)
    · rw [if_neg h1, if_neg h2]
      refine h.restP hr hm ?_
      unfold ND.cutM
      by_cases h3 : m.index < x.g.base
      · rw [if_pos h3]; have := h.commit; dsimp only; omega
      · rw [if_neg h3]
        have h4 : x.g.termAt m.index = some m.logTerm := by
          by_cases h4 : x.g.termAt m.index = some m.logTerm
          · exact h4
          · exact absurd ⟨h3, h4⟩ h2
        exact termAt_last h4
theorem inst_last {g : LG} {i t : Int} {s : Bs} (hi : g.base ≤ i) : (g.inst i t s).base = i ∧ i ≤ (g.inst i t s).last ∧ (g.inst i t s).last ≤ max i g.last ∧ (g.inst i t s).all.length ≤ g.all.length ∧ (∀ e ∈ (g.inst i t s).all, e ∈ g.all) ∧ (g.inst i t s).term = g.term ∧ (g.inst i t s).vote = g.vote ∧ (g.inst i t s).state = s := by
  unfold LG.inst
  split
  · rename_i h
    have h1 := termAt_last h
    unfold LG.comp LG.last at *
    dsimp only
    exact ⟨rfl, by omega, by simp; omega, by simp, fun e he => List.mem_of_mem_drop he, rfl, rfl, rfl⟩
  · unfold LG.base0 LG.last
    dsimp only
    exact ⟨rfl, by simp, by simp; omega, by simp, fun e he => by simp at he, rfl, rfl, rfl⟩
theorem inst_baseT {g : LG} {i t T : Int} {s : Bs} (h0 : 0 ≤ T) (hb : 0 ≤ g.baseT ∧ g.baseT ≤ T) (ha : ∀ e ∈ g.all, (0 ≤ e.1 ∧ e.1 ≤ T) ∧ e.2.length ≤ 100) (ht : 0 ≤ t ∧ t ≤ T) : 0 ≤ (g.inst i t s).baseT ∧ (g.inst i t s).baseT ≤ T := by
  unfold LG.inst
  split
  · rename_i h
    unfold LG.comp
    dsimp only
    rw [h]; exact ht
  · exact ht
theorem LIn.snapP {T I : Int} {A : Nat} {x : ND} {m : Msg} (h : LIn T I A x) (hr : ¬ x.role = 2) (hm : MLn T I m) : LT T I A x (x.snapP m) := by
  have hb := h.base
  have hcm := h.commit
  have hl := h.last
  have hal := h.alln
  have hix := hm.index
  have ht := h.term
  unfold ND.snapP
  by_cases h1 : m.index > x.commit
  · rw [if_pos h1]
    obtain ⟨e1, e2, e3, e4, e5, e6, e7, e8⟩ := inst_last (g := x.g) (i := m.index) (t := m.logTerm) (s := m.state) (by omega)
    refine LT.sent (x := x) (y := { x with g := x.g.inst m.index m.logTerm m.state, commit := m.index }) ⟨⟨h.idn, h.down, by rw [e6]; exact h.term, by rw [e7]; exact h.vote, by rw [e1]; omega, inst_baseT (by omega) h.baseT h.all hm.logTerm, by show (x.g.inst m.index m.logTerm m.state).last ≤ I; omega, by rw [e8]; exact hm.state, Nat.le_trans e4 h.alln, fun e he => h.all e (e5 e he), ⟨by show (x.g.inst m.index m.logTerm m.state).base ≤ m.index; omega, e2⟩, h.patience, h.peers, h.peer, fun hr2 => absurd hr2 hr, h.votes⟩, ⟨Eq.refl _, Eq.refl _, by show x.commit ≤ m.index; omega, by rw [e1]; omega, fun i h2 h3 => by rw [e1] at h2; omega, .inr ⟨e6.symm, .inr e7.symm⟩⟩⟩ _
  · rw [if_neg h1]
    exact (LT.rfl h).sent _
theorem LIn.follows {T I : Int} {A : Nat} {x : ND} {m : Msg} (h : LIn T I A x) : LT T I A x (x.follows m) :=
  ⟨⟨h.idn, h.down, h.term, h.vote, h.base, h.baseT, h.last, h.state, h.alln, h.all, h.commit, ⟨by show (0 : Int) ≤ 0; omega, by show (0 : Int) ≤ 30; omega⟩, fun hr => absurd (show (0 : Int) = 2 from hr) (by decide), h.peer, fun hr => absurd (show (0 : Int) = 2 from hr) (by decide), h.votes⟩, TR.same (Eq.refl _) (Eq.refl _) (Eq.refl _) (Int.le_refl _)⟩
theorem LIn.fedP {T I : Int} {A : Nat} {x : ND} {m : Msg} (h : LIn T I A x) (hm : MLn T I m) : LT T (I + 20) (A + 20) x (x.fedP m) := by
  have hf := LIn.follows (m := m) h
  have h0 : ¬ (x.follows m).role = 2 := fun hr => absurd (show (0 : Int) = 2 from hr) (by decide)
  unfold ND.fedP
  split
  · exact LT.mono ((LT.rfl h).sent _) (by omega) (by omega) (by omega)
  · split
    · exact LT.mono (LT.rfl h) (by omega) (by omega) (by omega)
    · split
      · exact hf.trans (hf.inn.addP h0 hm)
      · exact LT.mono (hf.trans (hf.inn.snapP h0 hm)) (by omega) (by omega) (by omega)
theorem LIn.setPeer {T I : Int} {A : Nat} {x : ND} (h : LIn T I A x) (to : Nat) {p : Int × Int} (hp : (1 ≤ p.1 ∧ p.1 ≤ I + 1) ∧ (0 ≤ p.2 ∧ p.2 ≤ x.g.last)) : LT T I A x (x.setPeer to p) := by
  have hl := h.last
  refine ⟨⟨h.idn, h.down, h.term, h.vote, h.base, h.baseT, h.last, h.state, h.alln, h.all, h.commit, h.patience, fun hr => by have := h.peers hr; unfold ND.setPeer; simpa using this, fun q hq => ?_, fun hr q hq => ?_, h.votes⟩, TR.same (Eq.refl _) (Eq.refl _) (Eq.refl _) (Int.le_refl _)⟩
  · rcases List.mem_or_eq_of_mem_set (show q ∈ x.peers.set to p from hq) with hq | rfl
    · exact h.peer q hq
    · omega
  · rcases List.mem_or_eq_of_mem_set (show q ∈ x.peers.set to p from hq) with hq | rfl
    · exact h.pl hr q hq
    · exact hp.2.2
theorem LIn.peerb {T I : Int} {A : Nat} {x : ND} (h : LIn T I A x) (hr : x.role = 2) (i : Nat) : (0 ≤ x.nxt i ∧ x.nxt i ≤ I + 1) ∧ (0 ≤ x.mat i ∧ x.mat i ≤ x.g.last) := by
  have h0 := h.base
  have hc := h.commit
  have hl := h.last
  unfold ND.nxt ND.mat
  by_cases h1 : i < x.peers.length
  · have hm : x.peers.getD i (0, 0) ∈ x.peers := by rw [List.getD_eq_getElem?_getD, List.getElem?_eq_getElem h1]; simp
    have h2 := h.peer _ hm
    have h3 := h.pl hr _ hm
    omega
  · rw [List.getD_eq_getElem?_getD, List.getElem?_eq_none (by omega)]
    simp; omega
theorem LIn.heardP {T I : Int} {A : Nat} {x : ND} {m : Msg} (h : LIn T I A x) (hm : MLn T I m) : LT T I A x (x.heardP m) := by
  have hix := hm.index
  have h0 := h.base
  have hcm := h.commit
  have hl := h.last
  unfold ND.heardP heardN
  dsimp only
  by_cases h1 : ¬ x.role = 2 ∨ ¬ m.term = x.g.term
  · rw [if_pos h1]; exact LT.rfl h
  · have hr : x.role = 2 := by
      by_cases hr : x.role = 2
      · exact hr
      · exact absurd (.inl hr) h1
    have hp := h.peerb hr m.frm.toNat
    rw [if_neg h1]
    by_cases h2 : m.ok = false
    · rw [if_pos h2]
      exact (h.setPeer m.frm.toNat (p := (max (min (x.nxt m.frm.toNat - 1) (m.index + 1)) (x.mat m.frm.toNat + 1), x.mat m.frm.toNat)) (by dsimp only; omega)).sent _
    · rw [if_neg h2]
      have h3 := h.setPeer m.frm.toNat (p := (max (x.mat m.frm.toNat) (min m.index x.g.last) + 1, max (x.mat m.frm.toNat) (min m.index x.g.last))) (by dsimp only; omega)
      have h4 := h3.trans (LIn.count h3.inn hr)
      split
      · exact h4.sent _
      · exact h4
theorem LIn.kindP {T I : Int} {A : Nat} {x : ND} {m : Msg} (h : LIn T I A x) (hm : MLn T I m) (hf : 0 ≤ m.frm ∧ m.frm < x.n) : LT T (I + 20) (A + 20) x (x.kindP m) := by
  unfold ND.kindP
  split
  · exact LT.mono (h.askedP hf) (by omega) (by omega) (by omega)
  · split
    · exact LT.mono (h.votedP hf) (by omega) (by omega) (by omega)
    · split
      · exact h.fedP hm
      · split
        · exact LT.mono (h.heardP hm) (by omega) (by omega) (by omega)
        · exact LT.mono (LT.rfl h) (by omega) (by omega) (by omega)
theorem LIn.newTerm {T I : Int} {A : Nat} {x : ND} (h : LIn T I A x) : LIn T I A x.newTerm :=
  ⟨h.idn, h.down, h.term, h.vote, h.base, h.baseT, h.last, h.state, h.alln, h.all, h.commit, h.patience, fun hr => absurd (show (0 : Int) = 2 from hr) (by decide), h.peer, fun hr => absurd (show (0 : Int) = 2 from hr) (by decide), h.votes⟩
theorem LIn.receiveP {T I : Int} {A : Nat} {x : ND} {m : Msg} (h : LIn T I A x) (hm : MLn T I m) : LT T (I + 20) (A + 20) x (x.receiveP m) := by
  have ht := h.term
  unfold ND.receiveP
  by_cases h1 : ¬ m.to = x.id ∨ m.frm = x.id ∨ m.frm < 0 ∨ m.frm ≥ x.n
  · rw [if_pos h1]; exact LT.mono (LT.rfl h) (by omega) (by omega) (by omega)
  · rw [if_neg h1]
    have hf : 0 ≤ m.frm ∧ m.frm < x.n := by omega
    by_cases h2 : m.term > x.g.term
    · rw [if_pos h2]
      have h3 := h.set (t := m.term) (v := -1) hm.term (by omega) (.inl (by omega))
      have h4 : LT T I A x (ND.newTerm { x with g := { x.g with term := m.term, vote := -1 } }) := ⟨h3.inn.newTerm, h3.tr.trans (TR.same (Eq.refl _) (Eq.refl _) (Eq.refl _) (Int.le_refl _))⟩
      exact h4.trans (h4.inn.kindP hm hf)
    · rw [if_neg h2]; exact h.kindP hm hf
theorem comp_at {g : LG} {i j : Int} {s : Bs} (hi : g.base ≤ i ∧ i ≤ g.last) (hj : i < j) : (g.comp i s).at j = g.at j := by
  have hl : (g.comp i s).last = g.last := by unfold LG.comp LG.last at *; simp; omega
  have hb : (g.comp i s).base = i := rfl
  by_cases h1 : j ≤ g.last
  · rw [at_in (g := g) (by omega), at_in (by omega), hb]
    show (g.all.drop (i - g.base).toNat)[_]? = _
    rw [List.getElem?_drop]
    congr 1; omega
  · rw [at_out (g := g) (by omega), at_out (by omega)]
theorem LIn.comp {T I : Int} {A : Nat} {x : ND} (h : LIn T I A x) {i : Int} {s : Bs} (hi : x.g.base ≤ i ∧ i ≤ x.commit) (hs : s.length ≤ 1000000) : LT T I A x { x with g := x.g.comp i s } := by
  have hb := h.base
  have hc := h.commit
  have hl : (x.g.comp i s).last = x.g.last := by unfold LG.comp LG.last at *; simp; omega
  have ht := h.term
  refine ⟨⟨h.idn, h.down, h.term, h.vote, by show 0 ≤ i; omega, ?_, by rw [hl]; exact h.last, hs, by have := h.alln; show (x.g.all.drop _).length ≤ A; simp; omega, fun e he => h.all e (List.mem_of_mem_drop he), ⟨by show i ≤ x.commit; omega, by rw [hl]; exact h.commit.2⟩, h.patience, h.peers, h.peer, fun hr p hp => by rw [hl]; exact h.pl hr p hp, h.votes⟩, ⟨Eq.refl _, Eq.refl _, Int.le_refl _, by show x.g.base ≤ i; omega, fun j hj hjc => comp_at (by omega) hj, .inr ⟨Eq.refl _, .inr (Eq.refl _)⟩⟩⟩
  show 0 ≤ (x.g.termAt i).getD 0 ∧ (x.g.termAt i).getD 0 ≤ T
  unfold LG.termAt
  split
  · exact h.baseT
  · cases h1 : x.g.at i with
    | none => simp; omega
    | some e => exact (h.all e (LG.at_mem h1)).1
theorem LIn.start {id n : Nat} {g : LG} {T I : Int} {A : Nat} (hid : id < n ∧ n ≤ 9) (hT : 0 ≤ g.term ∧ g.term ≤ T) (hv : -1 ≤ g.vote ∧ g.vote < 9) (hb : 0 ≤ g.base) (hbT : 0 ≤ g.baseT ∧ g.baseT ≤ T) (hl : g.last ≤ I) (hs : g.state.length ≤ 1000000) (hA : g.all.length ≤ A) (ha : ∀ e ∈ g.all, (0 ≤ e.1 ∧ e.1 ≤ T) ∧ e.2.length ≤ 100) : LIn T I A (ND.start id n g) :=
  ⟨hid, rfl, hT, hv, hb, hbT, hl, hs, hA, ha, ⟨Int.le_refl _, by show g.base ≤ g.last; unfold LG.last; omega⟩, by show (0 : Int) ≤ 0 ∧ (0 : Int) ≤ 30; omega, fun hr => absurd (show (0 : Int) = 2 from hr) (by decide), fun p hp => by simp [ND.start] at hp, fun hr => absurd (show (0 : Int) = 2 from hr) (by decide), by simp [ND.start], fun i hi => by simp [ND.start] at hi⟩
def SD (n : Nat) (g : LG) (D : DK) : Prop := D.down = false ∧ D.sure = D.b.length ∧ (-9223372036854775808 ≤ D.fuel ∧ D.fuel ≤ 9223372036854775807 ∧ (D.bound = true → 0 ≤ D.fuel)) ∧ g.down = false ∧ D.b.length ≤ n ∧ ∃ rs, D.b = recsB rs ∧ Plays LG.new rs g
theorem SD.okD {n : Nat} {g : LG} {D : DK} (h : SD n g D) : D.ok n := by
  obtain ⟨h1, h2, h3, h4, h5, _⟩ := h
  exact ⟨by omega, h5, h3⟩
theorem SD.mono {n m : Nat} {g : LG} {D : DK} (h : SD n g D) (hm : n ≤ m) : SD m g D := by
  obtain ⟨h1, h2, h3, h4, h5, h6⟩ := h
  exact ⟨h1, h2, h3, h4, by omega, h6⟩
theorem SD.new : SD 0 LG.new DK.new := ⟨rfl, rfl, by decide, rfl, Nat.le_refl _, [], rfl, .nil _ LG.new_ok⟩
def FD (n : Nat) (P : LG → Prop) (D : DK) : Prop := D.ok n ∧ D.down = true ∧ ∀ keep : Int, ∃ rs p g, (D.crash keep).b = recsB rs ++ p ∧ torn p ∧ Plays LG.new rs g ∧ g.down = false ∧ P g
theorem FD.imp {n m : Nat} {P Q : LG → Prop} {D : DK} (h : FD n P D) (hm : n ≤ m) (hP : ∀ g, P g → Q g) : FD m Q D := by
  obtain ⟨⟨a1, a2, a3⟩, h2, h3⟩ := h
  refine ⟨⟨a1, by omega, a3⟩, h2, fun keep => ?_⟩
  obtain ⟨rs, p, g, b1, b2, b3, b4, b5⟩ := h3 keep
  exact ⟨rs, p, g, b1, b2, b3, b4, hP g b5⟩
theorem step_c {D : DK} (hd : D.down = false) (hf : -9223372036854775808 ≤ D.fuel ∧ D.fuel ≤ 9223372036854775807 ∧ (D.bound = true → 0 ≤ D.fuel)) :
    (D.step.1 = true ∧ ∃ f, D.step.2 = { D with fuel := f } ∧ (-9223372036854775808 ≤ f ∧ f ≤ 9223372036854775807 ∧ (D.bound = true → 0 ≤ f))) ∨ (D.step.1 = false ∧ D.step.2 = { D with down := true }) := by
  unfold DK.step
  rw [if_neg (by simp [hd])]
  by_cases hb : D.bound = true
  · rw [if_pos hb]
    have h0 := hf.2.2 hb
    by_cases h1 : D.fuel = 0
    · rw [if_pos h1]; exact .inr ⟨rfl, rfl⟩
    · rw [if_neg h1]; exact .inl ⟨rfl, _, rfl, by omega, by omega, fun _ => by omega⟩
  · rw [if_neg hb]; exact .inl ⟨rfl, D.fuel, rfl, hf⟩
theorem crash_all {D : DK} (h : D.sure = D.b.length) (keep : Int) : (D.crash keep).b = D.b := by
  unfold DK.crash DK.keeps
  dsimp only
  exact List.take_of_length_le (by omega)
theorem SD.fd {n : Nat} {g : LG} {D : DK} {P : LG → Prop} (h : SD n g D) (hP : P g) : FD n P { D with down := true } := by
  have hk := h.okD
  obtain ⟨h1, h2, h3, h4, h5, rs, h6, h7⟩ := h
  refine ⟨hk, rfl, fun keep => ⟨rs, [], g, ?_, torn_nil, h7, h4, hP⟩⟩
  rw [crash_all (D := { D with down := true }) h2]
  simpa using h6
theorem put_x {n : Nat} {g : LG} {D : DK} {r : Rec} {k : Nat} (h : SD n g D) (hm : r.may g) (hl : (wr r.nd).length ≤ k) (hk : k ≤ 16777216) (ho : (g.play r).ok) {P : LG → Prop} (hP0 : P g) (hP1 : P (g.play r)) :
    ((D.put r.bytes).1 = 0 ∧ SD (n + 4 + k) (g.play r) (D.put r.bytes).2) ∨ (¬ (D.put r.bytes).1 = 0 ∧ FD (n + 4 + k) P (D.put r.bytes).2) := by
  have h' := h
  obtain ⟨h1, h2, h3, h4, h5, rs, h6, h7⟩ := h
  have hbl : r.bytes.length ≤ 4 + k := by unfold Rec.bytes; rw [List.length_append, be4_len]; omega
  rcases step_c h1 h3 with ⟨e1, f, e2, hf⟩ | ⟨e1, e2⟩
  · unfold DK.put DK.append
    rw [if_pos e1]
    simp only [ite_true]
    rw [e2]
    unfold DK.sync
    rcases step_c (D := { { D with fuel := f } with b := D.b ++ r.bytes }) h1 hf with ⟨e3, f2, e4, hf2⟩ | ⟨e3, e4⟩
    · rw [if_pos e3, e4]
      refine .inl ⟨rfl, h1, rfl, hf2, by rw [play_down]; exact h4, ?_, rs ++ [r], by rw [recsB_snoc, ← h6], h7.snoc hm (by omega) ho⟩
      show (D.b ++ r.bytes).length ≤ _
      rw [List.length_append]; omega
    · rw [if_neg (by simp [e3]), e4]
      refine .inr ⟨(by show ¬ (3 : Int) = 0; decide), ⟨?_, ?_, hf⟩, rfl, fun keep => ?_⟩
      · show D.sure ≤ (D.b ++ r.bytes).length
        rw [List.length_append]; omega
      · show (D.b ++ r.bytes).length ≤ _
        rw [List.length_append]; omega
      · have ec : (DK.crash { { { D with fuel := f } with b := D.b ++ r.bytes } with down := true } keep).b = D.b ++ r.bytes.take (min keep.toNat r.bytes.length) := by
          unfold DK.crash DK.keeps
          dsimp only
          rw [h2, show (D.b ++ r.bytes).length - D.b.length = r.bytes.length by simp, List.take_length_add_append]
        have ec2 := ec
        by_cases hc : min keep.toNat r.bytes.length < r.bytes.length
        · exact ⟨rs, _, g, by rw [← h6]; exact ec, torn_pre (by omega) hc, h7, h4, hP0⟩
        · refine ⟨rs ++ [r], [], g.play r, ?_, torn_nil, h7.snoc hm (by omega) ho, by rw [play_down]; exact h4, hP1⟩
          rw [recsB_snoc, ← h6, List.append_nil]
          rw [List.take_of_length_le (by omega)] at ec2
          exact ec2
  · have ea : D.append r.bytes = (3, { D with down := true }) := by unfold DK.append; rw [if_neg (by simp [e1]), e2]
    have ep : D.put r.bytes = (3, { D with down := true }) := by unfold DK.put; rw [ea]; rfl
    rw [ep]
    exact .inr ⟨(by show ¬ (3 : Int) = 0; decide), (h'.fd hP0).imp (by omega) (fun _ h => h)⟩
theorem swap_x {n : Nat} {g to : LG} {D : DK} (h : SD n g D) (ht : to.ok) (htd : to.down = false) (hw : (wr (Rec.all to).nd).length ≤ 16777216) (hn : 17000000 ≤ n) {P : LG → Prop} (hP0 : P g) :
    ((D.swap (Rec.all to).bytes).1 = 0 ∧ SD n to (D.swap (Rec.all to).bytes).2) ∨ (¬ (D.swap (Rec.all to).bytes).1 = 0 ∧ FD n P (D.swap (Rec.all to).bytes).2) := by
  have h' := h
  obtain ⟨h1, h2, h3, h4, h5, rs, h6, h7⟩ := h
  unfold DK.swap
  rcases step_c h1 h3 with ⟨e1, f, e2, hf⟩ | ⟨e1, e2⟩
  · rw [if_pos e1, e2]
    have hp : LG.new.play (.all to) = to := by
      show { to with down := false } = to
      cases to; simp at htd; subst htd; rfl
    refine .inl ⟨rfl, h1, rfl, hf, htd, ?_, [Rec.all to], by simp [recsB], .cons LG.new_ok ht hw ?_⟩
    · show (Rec.all to).bytes.length ≤ n
      unfold Rec.bytes; rw [List.length_append, be4_len]; omega
    · rw [hp]; exact .nil _ ht
  · rw [if_neg (by simp [e1]), e2]
    exact .inr ⟨(by show ¬ (3 : Int) = 0; decide), h'.fd hP0⟩
theorem open_x {n : Nat} {P : LG → Prop} {D : DK} (hk : D.ok n) (h : ∀ keep : Int, ∃ rs p g, (D.crash keep).b = recsB rs ++ p ∧ torn p ∧ Plays LG.new rs g ∧ g.down = false ∧ P g) (keep : Int) :
    ∃ rs p g, (D.crash keep).ok n ∧ (D.crash keep).b = recsB rs ++ p ∧ torn p ∧ Plays LG.new rs g ∧ P g ∧ ((D.crash keep).open rs p).1 = 0 ∧ SD n g ((D.crash keep).open rs p).2 := by
  obtain ⟨rs, p, g, h1, h2, h3, h4, h5⟩ := h keep
  obtain ⟨k1, k2, k3, k4, k5⟩ := hk
  have hkl : D.keeps keep ≤ D.b.length := by unfold DK.keeps; omega
  have hbl : (D.crash keep).b.length = D.keeps keep := by unfold DK.crash; simp; omega
  have hcd : (D.crash keep).down = false := rfl
  have hcb : (D.crash keep).bound = false := rfl
  have hcf : (D.crash keep).fuel = D.fuel := rfl
  have hcs : (D.crash keep).sure = D.keeps keep := rfl
  have hok : (D.crash keep).ok n := ⟨by rw [hcs, hbl]; exact Nat.le_refl _, by rw [hbl]; omega, by rw [hcf]; exact k3, by rw [hcf]; exact k4, fun h => by rw [hcb] at h; cases h⟩
  refine ⟨rs, p, g, hok, h1, h2, h3, h5, ?_⟩
  unfold DK.open
  rw [if_neg (by simp [hcd])]
  by_cases hp : p = []
  · rw [if_pos hp]
    exact ⟨rfl, hcd, by rw [hcs, hbl], ⟨by rw [hcf]; exact k3, by rw [hcf]; exact k4, fun h => by rw [hcb] at h; cases h⟩, h4, by rw [hbl]; omega, rs, by rw [h1, hp]; simp, h3⟩
  · rw [if_neg hp]
    have hs : (D.crash keep).step = (true, D.crash keep) := by unfold DK.step; rw [if_neg (by rw [hcd]; decide), if_neg (by rw [hcb]; decide)]
    unfold DK.swap
    rw [hs, if_pos rfl]
    refine ⟨rfl, hcd, rfl, ⟨by show _ ≤ (D.crash keep).fuel; rw [hcf]; exact k3, by show (D.crash keep).fuel ≤ _; rw [hcf]; exact k4, fun h => by rw [show ({ (D.crash keep) with b := recsB rs, sure := (recsB rs).length } : DK).bound = false from hcb] at h; cases h⟩, h4, ?_, rs, rfl, h3⟩
    show (recsB rs).length ≤ n
    have : (D.crash keep).b.length = (recsB rs).length + p.length := by rw [h1, List.length_append]
    omega
theorem SD.crash_any {n : Nat} {g : LG} {D : DK} (h : SD n g D) {P : LG → Prop} (hP : P g) : ∀ keep : Int, ∃ rs p g, (D.crash keep).b = recsB rs ++ p ∧ torn p ∧ Plays LG.new rs g ∧ g.down = false ∧ P g := fun keep => by
  obtain ⟨h1, h2, h3, h4, h5, rs, h6, h7⟩ := h
  exact ⟨rs, [], g, by rw [crash_all h2, h6]; simp, torn_nil, h7, h4, hP⟩
def Fx (n : Nat) (P : LG → Prop) (r : Bool × NS) (y : ND) : Prop := (r.1 = true ∧ r.2.1 = y ∧ SD n y.g r.2.2) ∨ (r.1 = false ∧ r.2.1.down = true ∧ FD n P r.2.2)
theorem Fx.bind {n m : Nat} {P : LG → Prop} {r : Bool × NS} {y z : ND} {f : NS → Bool × NS} (h : Fx n P r y) (hm : n ≤ m) (hf : ∀ D, SD n y.g D → Fx m P (f (y, D)) z) : Fx m P (bindN r f) z := by
  unfold bindN
  rcases h with ⟨h1, h2, h3⟩ | ⟨h1, h2, h3⟩
  · rw [if_pos h1, show r.2 = (y, r.2.2) from by rw [← h2]]
    exact hf _ h3
  · rw [if_neg (by simp [h1])]
    exact .inr ⟨h1, h2, h3.imp hm (fun _ h => h)⟩
theorem Fx.ret {n m : Nat} {P : LG → Prop} {y : ND} {D : DK} {g : LG} (h : SD n g D) (hg : y.g = g) (hm : n ≤ m) : Fx m P (true, (y, D)) y := .inl ⟨rfl, rfl, by rw [hg]; exact h.mono hm⟩
theorem Fx.mono {n m : Nat} {P : LG → Prop} {r : Bool × NS} {y : ND} (h : Fx n P r y) (hm : n ≤ m) : Fx m P r y := by
  rcases h with ⟨h1, h2, h3⟩ | ⟨h1, h2, h3⟩
  · exact .inl ⟨h1, h2, h3.mono hm⟩
  · exact .inr ⟨h1, h2, h3.imp hm (fun _ h => h)⟩
theorem must_add_x {n k : Nat} {x : ND} {D : DK} {P : LG → Prop} (hk : k ≤ 90) (hl : SD n x.g D) (hx : NIn k x) {i : Int} {m : List Ent} (hi : x.g.base ≤ i ∧ i ≤ x.g.last) (hm : ∀ e ∈ m, (0 ≤ e.1 ∧ e.1 ≤ 2305843009213693952 + k) ∧ e.2.length ≤ 100) (hn : m.length ≤ 20) (hP0 : P x.g) (hP1 : P (x.g.play (.add i m))) :
    Fx (n + 3000) P (mustN (x, D) (x.g.addD D i m)) { x with g := x.g.play (.add i m) } := by
  have hg2 := (hx.add (i := i) hm hn).g (by omega)
  have hb := hx.base
  have hal := hx.alln
  have hle : x.g.last = x.g.base + x.g.all.length := rfl
  have hen := ents_le (fun e he => (hm e he).2)
  have hmb : ∀ e ∈ m, u64B e.1 ∧ e.2.length ≤ 1000000 := fun e he => by have := hm e he; unfold u64B; omega
  have hln := Rec.len_add (b := i) (by omega) hmb (by omega)
  have hgd : ¬ (x.g.down || D.down) = true := by simp [hl.1, hl.2.2.2.1]
  unfold LG.addD
  rw [if_neg hgd, if_neg (by omega)]
  rcases put_x hl (r := .add i m) (k := 2900) ⟨hi, hmb, by omega⟩ (by omega) (by omega) hg2 hP0 hP1 with ⟨p1, p2⟩ | ⟨p1, p2⟩
  · rw [if_pos p1]
    unfold mustN
    rw [if_pos rfl]
    exact .inl ⟨rfl, rfl, p2.mono (by omega)⟩
  · rw [if_neg p1]
    unfold mustN
    rw [if_neg p1]
    exact .inr ⟨rfl, rfl, p2.imp (by omega) (fun _ h => h)⟩
theorem must_set_x {n k : Nat} {x : ND} {D : DK} {P : LG → Prop} (hk : k ≤ 90) (hl : SD n x.g D) (hx : NIn k x) {t v : Int} (ht : x.g.term ≤ t ∧ t ≤ 2305843009213693952 + (k + 1)) (hv : -1 ≤ v ∧ v < 9) (hP0 : P x.g) (hP1 : P { x.g with term := t, vote := v }) :
    Fx (n + 3000) P (mustN (x, D) (x.g.setTermD D t v)) { x with g := { x.g with term := t, vote := v } } := by
  have hterm := hx.term
  have hg2 := (hx.set (t := t) (vt := v) (by omega) hv).g (by omega)
  have hln := Rec.len_term (t := t) (v := v) (by unfold u64B; omega) (by omega)
  have hgd : ¬ (x.g.down || D.down) = true := by simp [hl.1, hl.2.2.2.1]
  unfold LG.setTermD
  rw [if_neg hgd, if_neg (by omega)]
  rcases put_x hl (r := .term t v) (k := 2900) ⟨by unfold u64B; omega, hv.1, by omega⟩ (by omega) (by omega) hg2 hP0 hP1 with ⟨p1, p2⟩ | ⟨p1, p2⟩
  · rw [if_pos p1]
    unfold mustN
    rw [if_pos rfl]
    exact .inl ⟨rfl, rfl, p2.mono (by omega)⟩
  · rw [if_neg p1]
    unfold mustN
    rw [if_neg p1]
    exact .inr ⟨rfl, rfl, p2.imp (by omega) (fun _ h => h)⟩
theorem must_swap_x {n : Nat} {x : ND} {D : DK} {P : LG → Prop} {to : LG} (hl : SD n x.g D) (ht : to.ok) (htd : to.down = false) (hw : (wr (Rec.all to).nd).length ≤ 16777216) (hn : 17000000 ≤ n) (hP0 : P x.g) : Fx n P (mustN (x, D) (x.g.swapD D to)) { x with g := to } := by
  unfold LG.swapD
  rcases swap_x hl ht htd hw hn hP0 with ⟨p1, p2⟩ | ⟨p1, p2⟩
  · rw [if_pos p1]
    unfold mustN
    rw [if_pos rfl]
    exact .inl ⟨rfl, rfl, p2⟩
  · rw [if_neg p1]
    unfold mustN
    rw [if_neg p1]
    exact .inr ⟨rfl, rfl, p2⟩
theorem must_inst_x {n k : Nat} {x : ND} {D : DK} {P : LG → Prop} (hk : k ≤ 90) (hl : SD n x.g D) {i t : Int} {s : Bs} (hi : x.g.base < i) (hy : NIn k { x with g := x.g.inst i t s }) (hn : 17000000 ≤ n) (hP0 : P x.g) : Fx n P (mustN (x, D) (x.g.instD D i t s)) { x with g := x.g.inst i t s } := by
  have hgd : ¬ (x.g.down || D.down) = true := by simp [hl.1, hl.2.2.2.1]
  have hok := hy.g (by omega)
  have hd : (x.g.inst i t s).down = false := by unfold LG.inst; split <;> exact hl.2.2.2.1
  have hw := inst_len (x := { x with g := x.g.inst i t s }) hk hy
  have e : x.g.instD D i t s = x.g.swapD D (x.g.inst i t s) := by
    unfold LG.instD LG.inst
    rw [if_neg hgd, if_neg (by omega)]
    by_cases h1 : x.g.termAt i = some t
    · have h2 := termAt_last h1
      rw [if_pos h1, if_pos h1]
      unfold LG.compD
      rw [if_neg hgd, if_neg (by omega)]
    · rw [if_neg h1, if_neg h1]
  rw [e]
  exact must_swap_x hl hok hd hw hn hP0
theorem entry_x {n k : Nat} {x : ND} {D : DK} {P : LG → Prop} {cmd : Bs} (hk : k ≤ 90) (hl : SD n x.g D) (hx : NIn k x) (hc : cmd.length ≤ 100) (hP0 : P x.g) (hP1 : P (x.entryP cmd).g) : Fx (n + 3000) P (entryN (x, D) cmd) (x.entryP cmd) := by
  have ht := hx.term
  have hle : x.g.last = x.g.base + x.g.all.length := rfl
  have hP2 : P (x.g.play (.add x.g.last [(x.g.term, cmd)])) := by
    have : (x.entryP cmd).g = x.g.play (.add x.g.last [(x.g.term, cmd)]) := by unfold ND.entryP; rw [feedAll_g, count_g]
    rw [this] at hP1; exact hP1
  exact Fx.bind (must_add_x (i := x.g.last) (m := [(x.g.term, cmd)]) hk hl hx ⟨by omega, Int.le_refl _⟩ (fun e he => by simp at he; subst he; exact ⟨⟨by omega, by omega⟩, hc⟩) (by simp) hP0 hP2) (Nat.le_refl _) (fun D' h => Fx.ret h (by rw [feedAll_g, count_g]) (Nat.le_refl _))
theorem win_x {n k : Nat} {x : ND} {D : DK} {P : LG → Prop} (hk : k ≤ 90) (hl : SD n x.g D) (hx : NIn k x) (hP0 : P x.g) (hP1 : P x.winP.g) : Fx (n + 3000) P (winN (x, D)) x.winP :=
  entry_x (x := x.wins) hk hl (NIn.wins (by omega) hx) (by simp) hP0 hP1
theorem stand_x {n k : Nat} {x : ND} {D : DK} {P : LG → Prop} (hk : k ≤ 80) (hl : SD n x.g D) (hx : NIn k x) (hP0 : P x.g) (hP1 : P { x.g with term := x.g.term + 1, vote := x.id }) (hP2 : P x.standP.g) : Fx (n + 6000) P (standN (x, D)) x.standP := by
  have ht := hx.term
  have hid := hx.idn
  refine Fx.bind (must_set_x (by omega) hl hx (t := x.g.term + 1) (v := x.id) (by omega) (by omega) hP0 hP1) (by omega) (fun D' h => ?_)
  have h1 := (hx.set (t := x.g.term + 1) (vt := x.id) (by omega) (by omega)).stands
  unfold ND.standP at hP2 ⊢
  dsimp only
  by_cases hn : x.n = 1
  · rw [if_pos hn] at hP2
    rw [if_pos hn, if_pos hn]
    exact win_x (k := k + 1) (by omega) h h1 hP1 hP2
  · rw [if_neg hn, if_neg hn]
    exact Fx.ret h (askAll_g _) (by omega)
theorem tick_x {n k : Nat} {x : ND} {D : DK} {P : LG → Prop} (hk : k ≤ 70) (hl : SD n x.g D) (hx : NIn k x) (hP0 : P x.g) (hP1 : P { x.g with term := x.g.term + 1, vote := x.id }) (hP2 : P x.tickP.g) : Fx (n + 6000) P (tickN (x, D)) x.tickP := by
  have hp := hx.patience
  unfold ND.tickP at hP2
  unfold tickN ND.tickP
  dsimp only
  by_cases h1 : x.role = 2
  · rw [if_pos h1, if_pos h1]
    by_cases h2 : x.patience + 1 ≥ 3
    · rw [if_pos h2, if_pos h2]; exact Fx.ret hl (feedAll_g _) (by omega)
    · rw [if_neg h2, if_neg h2]; exact Fx.ret hl rfl (by omega)
  · rw [if_neg h1] at hP2
    rw [if_neg h1, if_neg h1]
    by_cases h2 : x.patience + 1 ≥ limitI x.id x.g.term
    · rw [if_pos h2] at hP2
      rw [if_pos h2, if_pos h2]
      exact stand_x (k := k + 1) (x := { x with patience := x.patience + 1 }) (by omega) hl ((hx.le (show k ≤ k + 1 by omega)).pat (by omega)) hP0 hP1 hP2
    · rw [if_neg h2, if_neg h2]; exact Fx.ret hl rfl (by omega)
theorem asked_x {n k : Nat} {x : ND} {D : DK} {m : Msg} {P : LG → Prop} (hk : k ≤ 70) (hl : SD n x.g D) (hx : NIn k x) (hm : MIn k x.n m) (hP0 : P x.g) (hP1 : P (x.askedP m).g) : Fx (n + 3000) P (askedN (x, D) m) (x.askedP m) := by
  have hf := hm.frm
  have hid := hx.idn
  have ht := hx.term
  unfold ND.askedP at hP1
  unfold askedN ND.askedP
  dsimp only
  by_cases h1 : x.grants m = true
  · rw [if_pos h1] at hP1
    rw [if_pos h1, if_pos h1]
    exact Fx.bind (must_set_x (by omega) hl hx (t := x.g.term) (v := m.frm) (by omega) (by omega) hP0 hP1) (Nat.le_refl _) (fun D' h => Fx.ret h rfl (Nat.le_refl _))
  · rw [if_neg h1, if_neg h1]; exact Fx.ret hl rfl (by omega)
theorem voted_x {n k : Nat} {x : ND} {D : DK} {m : Msg} {P : LG → Prop} (hk : k ≤ 70) (hl : SD n x.g D) (hx : NIn k x) (hm : MIn k x.n m) (hP0 : P x.g) (hP1 : P (x.votedP m).g) : Fx (n + 3000) P (votedN (x, D) m) (x.votedP m) := by
  unfold ND.votedP at hP1
  unfold votedN ND.votedP
  dsimp only
  by_cases h1 : ¬ x.role = 1 ∨ ¬ m.term = x.g.term ∨ m.ok = false
  · rw [if_pos h1, if_pos h1]; exact Fx.ret hl rfl (by omega)
  · rw [if_neg h1] at hP1
    rw [if_neg h1, if_neg h1]
    by_cases h2 : 2 * ((setAdd x.votes m.frm).length : Int) > x.n
    · rw [if_pos h2] at hP1
      rw [if_pos h2, if_pos h2]
      exact win_x (k := k) (x := { x with votes := setAdd x.votes m.frm }) (by omega) hl (hx.vote1 hm.frm) hP0 hP1
    · rw [if_neg h2, if_neg h2]; exact Fx.ret hl rfl (by omega)
theorem rest_x {n k : Nat} {x : ND} {D : DK} {m : Msg} {P : LG → Prop} (hk : k ≤ 70) (hl : SD n x.g D) (hx : NIn k x) (hm : MIn k x.n m) (hc : x.g.base ≤ (x.cutM m).1 ∧ (x.cutM m).1 ≤ x.g.last) (hP0 : P x.g) (hP1 : P (x.restP m (x.cutM m)).g) : Fx (n + 3000) P (restN x D m (x.cutM m)) (x.restP m (x.cutM m)) := by
  obtain ⟨hb1, hb2, hb3⟩ := cutM_b hx hm
  unfold ND.restP at hP1
  unfold restN ND.restP
  cases hfi : ND.fits x.g (x.cutM m).2 ((x.cutM m).1 + 1) with
  | none => exact Fx.ret hl rfl (by omega)
  | some p =>
    obtain ⟨i, l⟩ := p
    obtain ⟨a1, ⟨c, hc1, hc2⟩, a3⟩ := fits_at hfi
    rw [hfi] at hP1
    dsimp only at hP1 ⊢
    by_cases h1 : i ≤ x.commit
    · rw [if_pos h1, if_pos h1]; exact Fx.ret hl rfl (by omega)
    · rw [if_neg h1] at hP1
      rw [if_neg h1, if_neg h1]
      have hi : x.g.base ≤ i - 1 ∧ i - 1 ≤ x.g.last := by
        rcases a3 with a3 | ⟨e, a3⟩
        · omega
        · have := at_last a3; omega
      exact Fx.bind (must_add_x (i := i - 1) (m := l) (by omega) hl hx hi (fun e he => hb3 e (by rw [hc1] at he; exact List.mem_of_mem_drop he)) (by rw [hc1]; simp; omega) hP0 hP1) (Nat.le_refl _) (fun D' h => Fx.ret h rfl (Nat.le_refl _))
theorem add_x {n k : Nat} {x : ND} {D : DK} {m : Msg} {P : LG → Prop} (hk : k ≤ 70) (hl : SD n x.g D) (hx : NIn k x) (hm : MIn k x.n m) (hP0 : P x.g) (hP1 : P (x.addP m).g) : Fx (n + 3000) P (addN (x, D) m) (x.addP m) := by
  unfold ND.addP at hP1
  unfold ND.addP
  by_cases h1 : m.index < x.g.base ∧ (m.es.length : Int) < x.g.base - m.index
  · unfold addN
    rw [if_pos h1, if_pos h1]; exact Fx.ret hl rfl (by omega)
  · by_cases h2 : ¬ m.index < x.g.base ∧ ¬ x.g.termAt m.index = some m.logTerm
    · unfold addN
      rw [if_neg h1, if_neg h1, if_pos h2, if_pos h2]; exact Fx.ret hl rfl (by omega)
    · rw [if_neg h1, if_neg h2] at hP1
      rw [addN_eq h1 h2, if_neg h1, if_neg h2]
      refine rest_x hk hl hx hm ?_ hP0 hP1
      unfold ND.cutM
      by_cases h3 : m.index < x.g.base
      · rw [if_pos h3]; unfold LG.last; dsimp only; omega
      · rw [if_neg h3]
        have h4 : x.g.termAt m.index = some m.logTerm := by
          by_cases h4 : x.g.termAt m.index = some m.logTerm
          · exact h4
          · exact absurd ⟨h3, h4⟩ h2
        exact termAt_last h4
theorem snap_x {n k : Nat} {x : ND} {D : DK} {m : Msg} {P : LG → Prop} (hn : 17000000 ≤ n) (hk : k ≤ 70) (hl : SD n x.g D) (hx : NIn k x) (hm : MIn k x.n m) (hb : x.g.base ≤ x.commit) (hP0 : P x.g) : Fx (n + 3000) P (snapN (x, D) m) (x.snapP m) := by
  unfold snapN ND.snapP
  dsimp only
  by_cases h1 : m.index > x.commit
  · rw [if_pos h1, if_pos h1]
    have hy := hx.inst hm.index hm.logTerm hm.state
    exact Fx.bind (must_inst_x (k := k) (by omega) hl (i := m.index) (t := m.logTerm) (s := m.state) (by omega) hy hn hP0) (by omega) (fun D' h => Fx.ret h rfl (by omega))
  · rw [if_neg h1, if_neg h1]; exact Fx.ret hl rfl (by omega)
theorem fed_x {n k : Nat} {x : ND} {D : DK} {m : Msg} {P : LG → Prop} (hn : 17000000 ≤ n) (hk : k ≤ 70) (hl : SD n x.g D) (hx : NIn k x) (hm : MIn k x.n m) (hb : x.g.base ≤ x.commit) (hP0 : P x.g) (hP1 : P (x.fedP m).g) : Fx (n + 3000) P (fedN (x, D) m) (x.fedP m) := by
  unfold ND.fedP at hP1
  unfold fedN ND.fedP
  dsimp only
  by_cases h1 : m.term < x.g.term
  · rw [if_pos h1, if_pos h1]; exact Fx.ret hl rfl (by omega)
  · rw [if_neg h1] at hP1
    rw [if_neg h1, if_neg h1]
    by_cases h2 : x.role = 2
    · rw [if_pos h2, if_pos h2]; exact Fx.ret hl rfl (by omega)
    · rw [if_neg h2] at hP1
      rw [if_neg h2, if_neg h2]
      by_cases h3 : m.kind = 2
      · rw [if_pos h3] at hP1
        rw [if_pos h3, if_pos h3]; exact add_x (x := x.follows m) hk hl (hx.follows m) hm hP0 hP1
      · rw [if_neg h3, if_neg h3]; exact snap_x (x := x.follows m) hn hk hl (hx.follows m) hm hb hP0
theorem heard_x {n : Nat} {x : ND} {D : DK} {m : Msg} {P : LG → Prop} (hl : SD n x.g D) : Fx n P (heardN (x, D) m) (x.heardP m) := by
  unfold ND.heardP heardN
  dsimp only
  by_cases h1 : ¬ x.role = 2 ∨ ¬ m.term = x.g.term
  · rw [if_pos h1, if_pos h1]; exact .inl ⟨rfl, rfl, hl⟩
  · rw [if_neg h1, if_neg h1]
    by_cases h2 : m.ok = false
    · rw [if_pos h2, if_pos h2]; exact .inl ⟨rfl, rfl, hl⟩
    · rw [if_neg h2, if_neg h2]
      split
      · exact .inl ⟨rfl, rfl, by show SD n (ND.count _).g _; rw [count_g]; exact hl⟩
      · exact .inl ⟨rfl, rfl, by show SD n (ND.count _).g _; rw [count_g]; exact hl⟩
theorem kind_x {n k : Nat} {x : ND} {D : DK} {m : Msg} {P : LG → Prop} (hn : 17000000 ≤ n) (hk : k ≤ 70) (hl : SD n x.g D) (hx : NIn k x) (hm : MIn k x.n m) (hb : x.g.base ≤ x.commit) (hP0 : P x.g) (hP1 : P (x.kindP m).g) : Fx (n + 3000) P (kindN (x, D) m) (x.kindP m) := by
  unfold ND.kindP at hP1
  unfold kindN ND.kindP
  by_cases h0 : m.kind = 0
  · rw [if_pos h0] at hP1
    rw [if_pos h0, if_pos h0]; exact asked_x hk hl hx hm hP0 hP1
  · rw [if_neg h0] at hP1
    rw [if_neg h0, if_neg h0]
    by_cases h1 : m.kind = 1
    · rw [if_pos h1] at hP1
      rw [if_pos h1, if_pos h1]; exact voted_x hk hl hx hm hP0 hP1
    · rw [if_neg h1] at hP1
      rw [if_neg h1, if_neg h1]
      by_cases h2 : m.kind = 2 ∨ m.kind = 4
      · rw [if_pos h2] at hP1
        rw [if_pos h2, if_pos h2]; exact fed_x hn hk hl hx hm hb hP0 hP1
      · rw [if_neg h2, if_neg h2]
        by_cases h3 : m.kind = 3
        · rw [if_pos h3, if_pos h3]
          exact (heard_x hl).mono (by omega)
        · rw [if_neg h3, if_neg h3]; exact Fx.ret hl rfl (by omega)
theorem receive_x {n k : Nat} {x : ND} {D : DK} {m : Msg} {P : LG → Prop} (hn : 17000000 ≤ n) (hk : k ≤ 60) (hl : SD n x.g D) (hx : NIn k x) (hm : MIm k m) (hb : x.g.base ≤ x.commit) (hP0 : P x.g) (hP1 : m.term > x.g.term → P { x.g with term := m.term, vote := -1 }) (hP2 : P (x.receiveP m).g) : Fx (n + 6000) P (receiveN (x, D) m) (x.receiveP m) := by
  have hmt := hm.term
  unfold ND.receiveP at hP2
  unfold receiveN ND.receiveP
  dsimp only
  by_cases h1 : ¬ m.to = x.id ∨ m.frm = x.id ∨ m.frm < 0 ∨ m.frm ≥ x.n
  · rw [if_pos h1, if_pos h1]; exact Fx.ret hl rfl (by omega)
  · rw [if_neg h1] at hP2
    rw [if_neg h1, if_neg h1]
    have hf : 0 ≤ m.frm ∧ m.frm < x.n := by omega
    by_cases h2 : m.term > x.g.term
    · rw [if_pos h2] at hP2
      rw [if_pos h2, if_pos h2]
      refine Fx.bind (must_set_x (by omega) hl hx (t := m.term) (v := -1) (by omega) (by omega) hP0 (hP1 h2)) (by omega) (fun D' h => ?_)
      exact kind_x (k := k + 1) (n := n + 3000) (x := ND.newTerm { x with g := { x.g with term := m.term, vote := -1 } }) (by omega) (by omega) h ((hx.set (t := m.term) (vt := -1) (by omega) (by omega)).newTerm) (hm.to hf (by omega)) hb (hP1 h2) hP2
    · rw [if_neg h2] at hP2
      rw [if_neg h2, if_neg h2]
      exact (kind_x (m := m) hn (by omega) hl hx (hm.to hf (Nat.le_refl _)) hb hP0 hP2).mono (by omega)
end V
end Go.Proofs.YtenfjpigffjgmaaGreat
set_option linter.unusedSimpArgs false
set_option linter.unusedVariables false
set_option maxRecDepth 100000
namespace Go.Proofs.YtenfjpigffjgmaaGreat
open Go.RowKit
namespace V
set_option maxHeartbeats 4000000
def ND.q (x : ND) : ND := { x with out := [] }
def BB (T I : Int) (A : Nat) : Prop := T ≤ 2305843009213693952 ∧ I ≤ 100000000000000 ∧ A ≤ 80000
theorem q_eq {x : ND} (h : x.out = []) : x.q = x := by
  unfold ND.q; cases x; simp at h; subst h; rfl
theorem LIn.q {T I : Int} {A : Nat} {x : ND} (h : LIn T I A x) : LIn T I A x.q := h.sends []
theorem LIn.nin0 {T I : Int} {A : Nat} {x : ND} (h : LIn T I A x) (hB : BB T I A) (ho : x.out = []) : NIn 0 x := h.nin 0 hB.1 hB.2.1 hB.2.2 (by rw [ho]; exact Nat.zero_le _)
theorem NOk.q {R : Hp} {v : NV} {x : ND} (h : NOk R v x) : NOk R { v with css := [] } x.q := ⟨h.va, Els.nil, h.vm, h.vp, h.vo, h.map⟩
theorem downS_h {n : Nat} {x : ND} {D : DK} (hd : x.down = false) (h : LD n x.g D) : ¬ downS (x, D) = true := by
  obtain ⟨h1, _, _, _, h5, _⟩ := h
  unfold downS; simp [hd, h1, h5]
theorem run_h {n m : Nat} {x y : ND} {D : DK} {f : NS → Bool × NS} (hd : x.down = false) (hl : LD m x.g D) (ho : x.out = []) (h : Hs n (f (x, D)) y) : (runN (x, D) f).1 = y.out ∧ (runN (x, D) f).2.1 = y ∧ LD n y.g (runN (x, D) f).2.2 := by
  obtain ⟨h1, h2, h3⟩ := h
  rw [runN_eq]
  unfold runR
  rw [if_neg (downS_h hd hl), show ({ x with out := [] } : ND) = x from q_eq ho, if_pos h1]
  exact ⟨by rw [h2], h2, h3⟩
theorem MLn.im {T I : Int} {m : Msg} (h : MLn T I m) (hT : T ≤ 2305843009213693952) (hI : I ≤ 100000000000000) (hc : m.commit < 18446744073709551616) : MIm 0 m :=
  ⟨by have := h.term; omega, by have := h.index; omega, by have := h.logTerm; omega, ⟨h.commit, hc⟩, ⟨h.es.1, fun e he => by have := h.es.2 e he; omega⟩, h.state⟩
end V
end Go.Proofs.YtenfjpigffjgmaaGreat
set_option linter.unusedSimpArgs false
set_option linter.unusedVariables false
set_option maxRecDepth 100000
namespace Go.Proofs.YtenfjpigffjgmaaGreat
open Go.RowKit
namespace V
set_option maxHeartbeats 4000000
abbrev One1 := Int × Msg
def oneC (x : One1) (ve : Value) : List Value := .int .u64 x.1 :: msgC x.2 ve
def oneE : Elt One1 where
  P := fun R x cs => ∃ ve, cs = oneC x ve ∧ FrX entE R x.2.es ve
  sz := 11
  mono := fun hR ⟨ve, h, k⟩ => ⟨ve, h, k.mono hR⟩
  len := fun ⟨ve, h, k⟩ => by subst h; rfl
  one := fun ⟨ve, h, k⟩ u hu => by
    subst h
    rcases List.mem_cons.1 hu with rfl | hu
    · rfl
    · exact msgE.one ⟨ve, rfl, k⟩ u hu
theorem src_tail {c : Cx} {R : Hp} {L M : List Asn} {tx e' e : TypeId} {sz m k b o j cap : Nat} {fz : Nat × Nat} {l news : List Value} (hk : c.P.underlying tx = some (.slice e')) (f : Find (rowA b l e fz) L M) (hl : news.length = m * sz) (hc : ∀ (jj : Nat) u, news[jj]? = some u → l[o + j * sz + jj]? = some u) (h1 : ∀ u ∈ news, u.oneCell' = true)
    (hcap : m = 0 ∨ cap ≠ j) : SrcJ c R L tx sz (.slice (partAddr (some ⟨b, o, none⟩) j cap sz) m k) m news := by
  by_cases h : cap = j
  · have h0 : m = 0 := hcap.resolve_right (by simp [h])
    subst h0
    have hn : news = [] := by simpa using hl
    subst hn
    intro w hs
    unfold partAddr
    rw [if_pos h]
    exact Src.ofSlice w hk ⟨b, o, none⟩ 0 k [] (by simp) (fun j u hj => by simp at hj) (by simp)
  · have e1 : partAddr (some ⟨b, o, none⟩) j cap sz = some ⟨b, o + j * sz, none⟩ := by unfold partAddr; rw [if_neg h]; simp [add_mk]
    rw [e1]
    exact src_row hk f hl hc h1
theorem cutl {pre xs post : List Value} {a b : Nat} (hab : a ≤ b) (hb : b ≤ xs.length) : (pre ++ (xs ++ post)).take (pre.length + a) ++ xs.drop b ++ (pre ++ (xs ++ post)).drop (pre.length + a + (xs.length - b)) = pre ++ ((xs.take a ++ xs.drop b) ++ (xs.drop (a + (xs.length - b)) ++ post)) := by
  have e1 : (pre ++ (xs ++ post)).take (pre.length + a) = pre ++ xs.take a := by
    rw [List.take_append, List.take_of_length_le (by omega), Nat.add_sub_cancel_left, List.take_append_of_le_length (by omega)]
  have e2 : (pre ++ (xs ++ post)).drop (pre.length + a + (xs.length - b)) = xs.drop (a + (xs.length - b)) ++ post := by
    rw [Nat.add_assoc, ← List.drop_drop, List.drop_left, List.drop_append_of_le_length (by omega)]
  rw [e1, e2]
  simp
theorem cutz {pre X Y Z post : List Value} (h : Z.length = Y.length) : (pre ++ (X ++ (Y ++ post))).take (pre.length + X.length) ++ Z ++ (pre ++ (X ++ (Y ++ post))).drop (pre.length + X.length + Z.length) = pre ++ (X ++ (Z ++ post)) := by
  have e : pre ++ (X ++ (Y ++ post)) = (pre ++ X) ++ (Y ++ post) := by simp
  have hl : pre.length + X.length = (pre ++ X).length := by simp
  rw [e, hl, List.take_left, ← List.drop_drop, List.drop_left, h, List.drop_left]
  simp
def msgZ : List Value := [.int .u64 0, .int .i64 0, .int .i64 0, .int .i64 0, .int .u64 0, .int .u64 0, .int .u64 0, .int .u64 0, .bool false, .slice none 0 0, .string (str [])]
theorem del_t {R : Hp} (v : Value) (n : Nat) (xs : List Value) (i : Nat) (hi : i < n) (h1 : ∀ u ∈ xs, u.oneCell' = true) :
    Tri Tryz.prog 66 [v, .int .i64 (i : Int), .int .i64 ((i + 1 : Nat) : Int)] R [slc 138 11 v n xs]
      (fun r R' L' => R = R' ∧ r.oneCell' = true ∧ L' = [slc 138 11 r (n - 1) (xs.take (i * 11) ++ xs.drop ((i + 1) * 11))]) := by
  refine tri_of Tryz.func66 rfl Tryz.ntmps66 rfl (fun σ F Q hret hend hpan => ?_)
  try simp only [cA, nA]
  refine cj_open (e := 138) (sz := 11) (n := n) (v := v) (xs := xs) fd_ (by omega) (fun g cap fz pre post hv hxl hf hnc hcm hcs => ?_)
  subst hv
  have hcm2 : cap ≤ 9223372036854775807 := by simp only [maxLen] at hcm; omega
  have hxd : (xs.drop ((i + 1) * 11)).length = (n - (i + 1)) * 11 := by rw [List.length_drop, hxl]; omega
  refine cj_seq fun K1 hK1 => cj_region ?_
  refine Ps ?_
  refine rj_nil (hK1 _ _ _ (cj_seq fun K2 hK2 => cj_region ?_))
  refine Pm ?_
  refine Pm ?_
  refine Pm ?_
  refine Pm ?_
  first | refine Pa (y_len_sl Tryz.underlying113 rfl) ?_ | refine Pa (y_len_slc Tryz.underlying113 rfl fd_) ?_
  refine Pa ((y_slice_max (l := i) (h := i + 1) (m := n) Tryz.underlying113 Tryz.sizeOf138 rfl rfl rfl rfl (by omega))) ?_
  refine rj_nil (hK2 _ _ _ (cj_seq fun K3 hK3 => cj_seq fun K4 hK4 => cj_region ?_))
  refine Pm ?_
  refine Pm ?_
  refine Pa (y_eql rfl rfl) ?_
  refine rj_nil (hK4 _ _ _ ?_)
  refine cj_cond rfl (fun hc16 => ?_) (fun hc16 => ?_)
  · exfalso; simp at hc16; omega
  try simp only [dT, dF, nT, nF, tF, fT] at hc16
  refine cj_skip (hK3 _ _ _ (cj_seq fun K6 hK6 => cj_region ?_))
  refine Pm ?_
  first | refine Pa (y_len_sl Tryz.underlying113 rfl) ?_ | refine Pa (y_len_slc Tryz.underlying113 rfl fd_) ?_
  refine Ps ?_
  refine rj_nil (hK6 _ _ _ (cj_seq fun K7 hK7 => ?_))
  refine cj_mixg (L := [rowA g (pre ++ (xs ++ post)) 138 fz]) [0, 1, 2, 3, 4, 5] [] [6, 7] _ sb_ (by kernel_rfl) (by kernel_rfl) (by kernel_rfl) rfl ?_
  refine Wa rfl (fun R1 hR1 G => (y_move rfl)) ?_
  refine Wa rfl (fun R1 hR1 G => (y_move rfl)) ?_
  refine Wa rfl (fun R1 hR1 G => (Yld.to (y_slice_sl (l := 0) (h := i) Tryz.underlying113 Tryz.sizeOf138 rfl rfl ⟨_, rfl⟩ (by omega)) (show _ = Value.slice (some ⟨g, pre.length, none⟩) i cap by simp [partAddr]; intro h; simp [add_mk]))) ?_
  refine Wa rfl (fun R1 hR1 G => (y_move rfl)) ?_
  refine Wa rfl (fun R1 hR1 G => (y_move rfl)) ?_
  refine Wa rfl (fun R1 hR1 G => (y_slice_sl (l := i + 1) (h := n) Tryz.underlying113 Tryz.sizeOf138 rfl ⟨_, rfl⟩ rfl (by omega))) ?_
  refine fj_nil ?_
  refine xj_nil ?_
  try simp only [cA, nA, List.append_nil]
  refine rj_append_room (ys := pre ++ ((xs.take (i * 11) ++ xs.drop ((i + 1) * 11)) ++ (xs.drop (i * 11 + (xs.length - (i + 1) * 11)) ++ post))) (sz := 11) (by_ := 112) (m := n - (i + 1)) (news := xs.drop ((i + 1) * 11)) ⟨Tryz.underlying113, _, _, rfl, rfl, rfl, rfl, rfl⟩ (wn0 rfl) rfl rfl rfl fd_ hf (src_tail (l := pre ++ (xs ++ post)) Tryz.underlying113 fd_ hxd (fun jj u hj => by rw [List.getElem?_drop] at hj; rw [Nat.add_assoc, List.getElem?_append_right (by omega), Nat.add_sub_cancel_left, List.getElem?_append_left (List.getElem?_eq_some_iff.1 hj).1]; exact hj) (fun u hu => h1 u (List.mem_of_mem_drop hu)) (by omega)) (by omega) (by simp [hxl]; omega) (by rw [show (n - (i + 1)) * 11 = xs.length - (i + 1) * 11 by omega]; exact cutl (xs := xs) (by omega) (by omega)) ?_
  refine rj_eq 26 rfl (v' := .slice (some ⟨g, pre.length, none⟩) (n - 1) cap) (by congr 1; omega) ?_
  refine Ps ?_
  refine rj_nil (hK7 _ _ _ ?_)
  refine cj_env (eL 0 rfl (eL 7 rfl eN)) ?_
  refine cj_seq fun K8 hK8 => cj_region ?_
  refine Pm ?_
  refine Pm ?_
  first | refine Pa (y_len_sl Tryz.underlying113 rfl) ?_ | refine Pa (y_len_slc Tryz.underlying113 rfl fd_) ?_
  refine Pm ?_
  refine Pa ((Yld.to (y_slice_sl (l := n - 1) (h := n) Tryz.underlying113 Tryz.sizeOf138 rfl ⟨_, rfl⟩ ⟨_, rfl⟩ (by omega)) (show _ = Value.slice (some ⟨g, pre.length + (n - 1) * 11, none⟩) 1 (cap - (n - 1)) by unfold partAddr; rw [if_neg (by omega)]; simp [add_mk]; omega))) ?_
  refine rj_clear (ys := pre ++ ((xs.take (i * 11) ++ xs.drop ((i + 1) * 11)) ++ (msgZ ++ post))) (z := _) (news := msgZ) Tryz.underlying113 Tryz.zeroValue138 (by kernel_rfl) (by decide) (by decide) (wn0 rfl) rfl fd_ (by intro o ho; exact hf o (by simp at ho ⊢; omega)) (by simp [hxl, msgZ]; omega) (by rw [show pre.length + (n - 1) * 11 = pre.length + (xs.take (i * 11) ++ xs.drop ((i + 1) * 11)).length by simp [hxl]; omega]; exact cutz (by simp [hxl, msgZ]; omega)) ?_
  refine rj_nil (hK8 _ _ _ (cj_seq fun K9 hK9 => cj_region ?_))
  refine rj_turn (A := rowA g (pre ++ ((xs.take (i * 11) ++ xs.drop ((i + 1) * 11)) ++ (msgZ ++ post))) 138 fz) (B := slc 138 11 (.slice (some ⟨g, pre.length, none⟩) (n - 1) cap) (n - 1) (xs.take (i * 11) ++ xs.drop ((i + 1) * 11))) fd_ (slc_close (by simp [hxl]; omega) (by intro o ho; exact hf o (by simp [hxl, msgZ] at ho ⊢; omega)) (by omega) hcm (by simp [hxl, msgZ] at hcs ⊢; omega)) ?_
  refine Pm ?_
  refine Ps ?_
  refine rj_nil (hK9 _ _ _ (cj_ret (hret _ _ _ ?_)))
  refine Ea Tryz.results66 (.cons (rv_tmp rfl) .nil) [slc 138 11 (.slice (some ⟨g, pre.length, none⟩) (n - 1) cap) (n - 1) (xs.take (i * 11) ++ xs.drop ((i + 1) * 11))] le_ ?_
  exact ⟨rfl, rfl, rfl⟩
end V
end Go.Proofs.YtenfjpigffjgmaaGreat
set_option linter.unusedSimpArgs false
set_option linter.unusedVariables false
set_option maxRecDepth 100000
namespace Go.Proofs.YtenfjpigffjgmaaGreat
open Go.RowKit
namespace V
set_option maxHeartbeats 4000000
theorem flatt_snoc (css : List (List Value)) (cy : List Value) : css.flatten ++ cy = (css ++ [cy]).flatten := by simp
theorem cloneE_t {R : Hp} (v : Value) (l : List Ent) (hl : FrX entE R l v) (hn : l.length ≤ 1000000) : Tri Tryz.prog 101 [v] R []
    (fun r R' L' => R = R' ∧ r.oneCell' = true ∧ ∃ css, Els entE R l css ∧ L' = [slc 93 2 r l.length css.flatten]) := by
  obtain ⟨css, he, hfr⟩ := hl
  obtain ⟨q, cap, rfl, h1, h2, h3⟩ := id hfr
  have hq0 : q.isNone = true → l = [] := fun h => by
    rcases h3 with h0 | ⟨b, off, rfl, _⟩
    · exact List.eq_nil_of_length_eq_zero h0
    · cases h
  refine tri_of Tryz.func101 rfl Tryz.ntmps101 rfl (fun σ F Q hret hend hpan => ?_)
  try simp only [cA, nA]
  refine cj_seq fun K1 hK1 => cj_region ?_
  refine Ps ?_
  refine rj_nil (hK1 _ _ _ (cj_seq fun K2 hK2 => cj_seq fun K3 hK3 => cj_region ?_))
  refine Pm ?_
  refine Pa (y_sleql Tryz.underlying76 rfl rfl) ?_
  refine rj_nil (hK3 _ _ _ ?_)
  refine cj_cond rfl (fun hc4 => ?_) (fun hc4 => ?_)
  obtain rfl := hq0 hc4
  refine cj_add (A := slc 93 2 (.slice none 0 0) 0 []) (slc_nil _ _) ?_
  have hcss : css = [] := List.eq_nil_of_length_eq_zero he.1
  subst hcss
  refine cj_seq fun K5 hK5 => cj_region ?_
  refine Ps ?_
  refine rj_nil (hK5 _ _ _ (cj_ret (hret _ _ _ ?_)))
  refine Ea Tryz.results101 (.cons (rv_tmp rfl) .nil) [slc 93 2 (.slice none 0 0) 0 []] le_ ?_
  exact ⟨rfl, rfl, [], he, rfl⟩
  try simp only [dT, dF, nT, nF, tF, fT] at hc4
  refine cj_skip (hK2 _ _ _ (cj_seq fun K6 hK6 => cj_region ?_))
  refine rj_buildSlice (sz := 2) (wn0 rfl) rfl Tryz.underlying76 Tryz.sizeOf93 Tryz.zeroValue93 rfl rfl rfl (by decide) (by decide) (fun b5 => ?_)
  refine Pm ?_
  refine rj_append (sz := 2) (by_ := 24) ⟨Tryz.underlying76, _, _, rfl, rfl, rfl, rfl, rfl⟩ (wn0 rfl) rfl rfl rfl fd_ (FrX.src (T := entE) Tryz.underlying76 he hfr) rfl om_ (by simp only [maxLen]; omega) (fun v7 ho7 hh7 => ?_)
  rw [Nat.zero_add, List.nil_append]
  refine Ps ?_
  refine rj_nil (hK6 _ _ _ (cj_ret (hret _ _ _ ?_)))
  refine Ea Tryz.results101 (.cons (rv_tmp rfl) .nil) [slc 93 2 v7 l.length css.flatten] le_ ?_
  exact ⟨rfl, by assumption, css, he, rfl⟩
theorem own_t {R : Hp} (m : Msg) (ve : Value) (hve : FrX entE R m.es ve) (hn : m.es.length ≤ 1000000) : Tri Tryz.prog 89 [.agg ⟨msgC m ve⟩] R []
    (fun r R' L' => L' = [] ∧ ∃ ve', r = .agg ⟨msgC m ve'⟩ ∧ FrX entE R' m.es ve') := by
  unfold msgC
  have hveo := hve.one
  refine tri_of Tryz.func89 rfl Tryz.ntmps89 rfl (fun σ F Q hret hend hpan => ?_)
  try simp only [cA, nA]
  refine cj_seq fun K1 hK1 => cj_region ?_
  refine rj_box (wn0 rfl) rfl rfl rfl (fun b1 => ?_)
  refine rj_alloc (wn0 rfl) rfl Tryz.zeroValue117 rfl (fun b2 => ?_)
  refine rj_nil (hK1 _ _ _ (cj_seq fun K2 hK2 => cj_region ?_))
  refine Pa (Ga Tryz.underlying117 Tryz.sizeOf76) ?_
  first | refine Pa (La o76) ?_ | refine Pa (Ls o76) ?_
  refine Ra Tryz.call101 (cloneE_t ve m.es hve hn) ?_
  rintro r R1 L' hR1 ⟨rfl, hro, css, he, rfl⟩
  refine rj_freeze (e := 93) (sz := 2) (n := m.es.length) (v := r) (xs := css.flatten) fd_ (fun R2 hR2 hfr hxl => ?_)
  have hfx := FrozenS.frx hfr (he.mono hR2)
  try simp only [cA, nA]
  refine Pa (Ga Tryz.underlying117 Tryz.sizeOf76) ?_
  refine Sa o76 ?_
  refine rj_nil (hK2 _ _ _ (cj_seq fun K3 hK3 => cj_region ?_))
  first | refine Pa (Lb m117) ?_ | refine Pa (y_loads_slc m117 rfl fd_ rfl rfl om_) ?_
  refine rj_stores m117 rfl (wn0 rfl) rfl rfl (msgE.one (R := R2) (x := m) ⟨r, rfl, hfx⟩) fd_ (by exact Nat.le_refl 10) rfl ?_
  refine rj_nil (hK3 _ _ _ (cj_ret (hret _ _ _ ?_)))
  refine Ea Tryz.results89 (.cons (rv_cells m117 rfl fd_ rfl rfl) .nil) [] le_ ?_
  exact ⟨rfl, r, rfl, hfx⟩
def numb (k : Int) : List Msg → List One1
  | [] => []
  | m :: l => (k + 1, m) :: numb (k + 1) l
theorem numb_len : ∀ (l : List Msg) (k : Int), (numb k l).length = l.length
  | [], _ => rfl
  | m :: l, k => by rw [numb, List.length_cons, numb_len l, List.length_cons]
theorem numb_take : ∀ (l : List Msg) (k : Int) (i : Nat) (m : Msg), l[i]? = some m → numb k (l.take (i + 1)) = numb k (l.take i) ++ [(k + ((i + 1 : Nat) : Int), m)]
  | [], _, i, m, h => by simp at h
  | x :: l, k, 0, m, h => by simp at h; subst h; simp [numb]
  | x :: l, k, i + 1, m, h => by
    rw [List.take_succ_cons, List.take_succ_cons, numb, numb, numb_take l (k + 1) i m (by simpa using h)]
    simp only [List.cons_append, List.cons.injEq, Prod.mk.injEq, and_true, true_and, List.append_cancel_left_eq]
    push_cast
    omega
@[reducible] def netB (b : Nat) (v : Value) (last : Int) : Asn := blk b [v, .int .u64 last] 115
@[reducible] def netS (v : Value) (st : List One1) (css : List (List Value)) : Asn := slc 138 11 v st.length css.flatten
theorem netNew_t {R : Hp} : Tri Tryz.prog 46 [] R [] (fun r R' L' => R = R' ∧ ∃ b, r = .pointer (some ⟨b, 0, none⟩) ∧ L' = [netB b (.slice none 0 0) 0, netS (.slice none 0 0) [] []]) := by
  refine tri_of Tryz.func46 rfl Tryz.ntmps46 rfl (fun σ F Q hret hend hpan => ?_)
  try simp only [cA, nA]
  refine cj_env eN ?_
  refine cj_seq fun K1 hK1 => cj_region ?_
  refine Ps ?_
  refine rj_nil (hK1 _ _ _ (cj_seq fun K2 hK2 => cj_region ?_))
  refine rj_add (A := netS (.slice none 0 0) [] []) (slc_nil _ _) ?_
  refine Pa (y_build (cells := [_, _]) [(0, 1), (1, 1)] Tryz.underlying115 Tryz.zeroValue115 (fun _ => rfl) rfl rfl) ?_
  refine rj_box (wn0 rfl) rfl rfl rfl (fun b => ?_)
  refine Ps ?_
  refine rj_nil (hK2 _ _ _ (cj_ret (hret _ _ _ ?_)))
  refine Ea Tryz.results46 (.cons (rv_tmp rfl) .nil) [netB b (.slice none 0 0) 0, netS (.slice none 0 0) [] []] le_ ?_
  exact ⟨rfl, b, rfl, rfl⟩
def smallM (m : Msg) : Prop := m.es.length ≤ 1000000
theorem netPut_t {R : Hp} (b : Nat) (v : Value) (last : Int) (st : List One1) (css : List (List Value)) (hk : Els oneE R st css) (vl : Value) (ms : List Msg) (hms : FrX msgE R ms vl) (hsm : ∀ m ∈ ms, smallM m)
    (hl : 0 ≤ last ∧ last + ms.length ≤ 1000000) (hst : st.length + ms.length ≤ 1000000) :
    Tri Tryz.prog 65 [.pointer (some ⟨b, 0, none⟩), vl] R [netB b v last, netS v st css]
      (fun r R' L' => ∃ v' css', Els oneE R' (st ++ numb last ms) css' ∧ L' = [netB b v' (last + ms.length), netS v' (st ++ numb last ms) css']) := by
  obtain ⟨q, cap, rfl, hcap, hcm⟩ := hms.shape
  refine tri_of Tryz.func65 rfl Tryz.ntmps65 rfl (fun σ F Q hret hend hpan => ?_)
  try simp only [cA, nA]
  refine cj_pure (A := netS v st css) fd_ slc_one (fun hvo => ?_)
  refine cj_seq fun K1 hK1 => cj_seq fun K2 hK2 => cj_region ?_
  refine Pm ?_
  refine Pa (y_peql Tryz.underlying66 rfl rfl) ?_
  refine rj_nil (hK2 _ _ _ (cj_cond_f rfl (cj_skip (hK1 _ _ _ (cj_seq fun K3 hK3 => cj_region ?_)))))
  refine Pm ?_
  first | refine Pa (y_len_sl Tryz.underlying98 rfl) ?_ | refine Pa (y_len_slc Tryz.underlying98 rfl fd_) ?_
  refine Pm ?_
  refine rj_nil (hK3 _ _ _ (cj_block ?_))
  rw [show last = last + ((0 : Nat) : Int) by simp, show st = st ++ numb last (ms.take 0) by simp [numb]]
  refine cj_env (E' := (fun (x : Nat × Value × List (List Value) × Hp) => [(0, .pointer (some ⟨b, 0, none⟩)), (8, .slice q ms.length cap), (9, .int .i64 (ms.length : Int)), (10, .int .i64 (x.1 : Int))]) (0, v, css, R)) (eC rfl (eC rfl (eC rfl (eC rfl eN)))) ?_
  refine cj_sub (M := (fun (x : Nat × Value × List (List Value) × Hp) => netB b x.2.1 (last + x.1) :: netS x.2.1 (st ++ numb last (ms.take x.1)) x.2.2.1 :: F) (0, v, css, R)) sb_ ?_
  refine cj_loop (fun (x : Nat × Value × List (List Value) × Hp) => [(0, .pointer (some ⟨b, 0, none⟩)), (8, .slice q ms.length cap), (9, .int .i64 (ms.length : Int)), (10, .int .i64 (x.1 : Int))]) (fun (x : Nat × Value × List (List Value) × Hp) => x.2.2.2) (fun (x : Nat × Value × List (List Value) × Hp) => netB b x.2.1 (last + x.1) :: netS x.2.1 (st ++ numb last (ms.take x.1)) x.2.2.1 :: F) (fun (x : Nat × Value × List (List Value) × Hp) => x.1 ≤ ms.length ∧ R.le x.2.2.2 ∧ Els oneE x.2.2.2 (st ++ numb last (ms.take x.1)) x.2.2.1 ∧ x.2.1.oneCell' = true) (fun (x : Nat × Value × List (List Value) × Hp) => ms.length - x.1) (0, v, css, R) (⟨by simp, Hp.le_refl R, by simpa [numb] using hk, hvo⟩) ?_
  rintro ⟨i, v1, css1, R1⟩ ⟨hi, hR1, hk1, hvo1⟩
  try dsimp only
  dsimp only at hi hR1 hk1 hvo1
  refine cj_seq fun K4 hK4 => cj_region ?_
  refine Pa (y_lss rfl rfl) ?_
  refine rj_nil (hK4 _ _ _ (cj_seq fun K5 hK5 => ?_))
  refine cj_cond rfl (fun hc11 => ?_) (fun hc11 => ?_)
  try simp only [dT, dF, nT, nF, tF, fT] at hc11
  refine cj_skip (hK5 _ _ _ (cj_seq fun K7 hK7 => cj_block (cj_seq fun K8 hK8 => cj_region ?_)))
  obtain ⟨m, hm⟩ : ∃ m, ms[i]? = some m := ⟨ms[i]'(by omega), by simp⟩
  obtain ⟨bm, off, cap', cs, he, ⟨ve, rfl, hve⟩, hcl, hcell⟩ := (hms.mono hR1).at hm
  obtain ⟨rfl, rfl⟩ : q = some ⟨bm, off, none⟩ ∧ cap = cap' := by cases he; exact ⟨rfl, rfl⟩
  unfold msgC at hcell
  have hveo := hve.one
  have hmm := hsm m (List.mem_of_getElem? hm)
  have hlen : (st ++ numb last (ms.take i)).length = st.length + i := by rw [List.length_append, numb_len, List.length_take]; omega
  first | refine Pa (y_indexAddr Tryz.underlying98 Tryz.sizeOf117 rfl rfl om_) ?_ | refine Pa (y_index_slc Tryz.underlying98 Tryz.sizeOf117 rfl rfl fd_ om_) ?_
  refine Pa ((y_loads_ro m117 (vs := msgC m ve) rfl rfl (fun j u hj => hcell j u hj))) ?_
  refine rj_alloc (wn0 rfl) rfl Tryz.zeroValue117 rfl (fun b5 => ?_)
  refine rj_stores m117 rfl (wn0 rfl) rfl rfl (msgE.one (R := R1) (x := m) ⟨ve, rfl, hve⟩) fd_ (by exact Nat.le_refl 10) rfl ?_
  refine rj_nil (hK8 _ _ _ (cj_seq fun K9 hK9 => cj_region ?_))
  refine Pm ?_
  refine Pa (y_nilCheck rfl) ?_
  refine Pa (Ga Tryz.underlying115 Tryz.sizeOf36) ?_
  first | refine Pa (La o36) ?_ | refine Pa (Ls o36) ?_
  first | refine Pa (y_addu rfl rfl om_) ?_ | refine Pa (y_add rfl rfl) ?_
  refine rj_eq 18 rfl (v' := .int .u64 (last + ((i + 1 : Nat) : Int))) (by congr 1; push_cast; omega) ?_
  refine Pa (y_nilCheck rfl) ?_
  refine Pa (Ga Tryz.underlying115 Tryz.sizeOf36) ?_
  refine Sa o36 ?_
  refine rj_nil (hK9 _ _ _ ?_)
  refine cj_mixg (L := [netB b v1 (last + ((i + 1 : Nat) : Int)), blk b5 (msgC m ve) 117]) [0, 1, 2, 3, 4, 5, 6, 7, 8, 9] [10, 11, 12, 13] [14, 15, 16] _ sb_ (by kernel_rfl) (by kernel_rfl) (by kernel_rfl) rfl ?_
  refine Wa rfl (fun R1 hR1 G => (y_move rfl)) ?_
  refine Wa rfl (fun R1 hR1 G => (y_move rfl)) ?_
  refine Wa rfl (fun R1 hR1 G => (y_nilCheck rfl)) ?_
  refine Wa rfl (fun R1 hR1 G => (Ga Tryz.underlying115 Tryz.sizeOf113)) ?_
  first | refine Wa rfl (fun R1 hR1 G => (La o113)) ?_ | refine Wa rfl (fun R1 hR1 G => (Ls o113)) ?_
  refine Wa rfl (fun R1 hR1 G => (y_move rfl)) ?_
  refine Wa rfl (fun R1 hR1 G => (y_nilCheck rfl)) ?_
  refine Wa rfl (fun R1 hR1 G => (Ga Tryz.underlying115 Tryz.sizeOf36)) ?_
  first | refine Wa rfl (fun R1 hR1 G => (La o36)) ?_ | refine Wa rfl (fun R1 hR1 G => (Ls o36)) ?_
  first | refine Wa rfl (fun R1 hR1 G => (Lb m117)) ?_ | refine Wa rfl (fun R1 hR1 G => (y_loads_slc m117 rfl fd_ rfl rfl om_)) ?_
  refine fj_nil ?_
  refine xj_rj rfl ?_
  try simp only [cA, nA, List.append_nil]
  refine Ra Tryz.call89 (own_t m ve hve hmm) ?_
  rintro r R2 L' hR2 ⟨rfl, ve', rfl, hve'⟩
  have hkn : Els oneE R2 (st ++ numb last (ms.take (i + 1))) (css1 ++ [oneC (last + ((i + 1 : Nat) : Int), m) ve']) := by rw [numb_take ms last i m hm, ← List.append_assoc]; exact (hk1.mono hR2).snoc ⟨ve', rfl, hve'⟩
  try simp only [cA, nA]
  refine rj_xk le_ sb_ ?_
  refine xj_rj rfl ?_
  try simp only [cA, nA, List.append_nil]
  refine Pa (y_build (cells := [_, _, _, _, _, _, _, _, _, _, _]) [(0, 1), (1, 10)] Tryz.underlying138 Tryz.zeroValue138 (fun _ => rfl) rfl rfl) ?_
  refine rj_xk le_ sb_ ?_
  refine xj_rj rfl ?_
  try simp only [cA, nA, List.append_nil]
  refine rj_buildSlice (sz := 11) (wn0 rfl) rfl Tryz.underlying113 Tryz.sizeOf138 Tryz.zeroValue138 rfl rfl rfl (by decide) (by decide) (fun bz => ?_)
  refine rj_xk le_ sb_ ?_
  refine xj_rj rfl ?_
  try simp only [cA, nA, List.append_nil]
  refine rj_append (sz := 11) (by_ := 112) ⟨Tryz.underlying113, _, _, rfl, rfl, rfl, rfl, rfl⟩ (wn0 rfl) rfl rfl rfl fd_ (src_slc (xs := oneC (last + ((i + 1 : Nat) : Int), m) ve') Tryz.underlying113 fd_ (oneE.one (R := R2) (x := (last + ((i + 1 : Nat) : Int), m)) ⟨ve', rfl, hve'⟩)) rfl om_ (by simp only [maxLen]; omega) (fun v34 ho34 hh34 => ?_)
  rw [flatt_snoc]
  rw [show (st ++ numb last (ms.take i)).length + 1 = (st ++ numb last (ms.take (i + 1))).length by rw [numb_take ms last i m hm]; simp; omega]
  refine rj_xk le_ sb_ ?_
  refine xj_nil ?_
  try simp only [cA, nA, List.append_nil]
  refine Pa (y_nilCheck rfl) ?_
  refine Pa (Ga Tryz.underlying115 Tryz.sizeOf113) ?_
  refine Sa o113 ?_
  refine rj_nil (hK7 _ _ _ ?_)
  refine cj_env (eL 0 rfl (eL 8 rfl (eL 9 rfl (eL 10 rfl eN)))) ?_
  refine cj_region ?_
  first | refine Pa (y_add64 rfl rfl om_) ?_ | refine Pa (y_add rfl rfl) ?_
  refine Pm ?_
  refine rj_nil ?_
  refine ej_on (q' := roundK _ _ _ _ _ _ _) rfl ?_
  refine ej_round ((i + 1, v34, css1 ++ [oneC (last + ((i + 1 : Nat) : Int), m) ve'], R2)) (⟨by dsimp only; omega, Hp.le_trans hR1 hR2, hkn, by assumption⟩) (by dsimp only; omega) (eC rfl (eC rfl (eC rfl (eC rfl eN)))) rfl sb_
  try simp only [dT, dF, nT, nF, tF, fT] at hc11
  refine cj_exit (hend _ _ _ ?_)
  apply ej_end Tryz.results65 .nil _ [netB b v1 (last + i), netS v1 (st ++ numb last (ms.take i)) css1] le_ rfl
  case hp =>
    have e : i = ms.length := by (try simp at hc11); omega
    subst e; rw [List.take_of_length_le (Nat.le_refl _)] at hk1 ⊢; exact ⟨v1, css1, hk1, rfl⟩
  case hS => exact sb_
theorem netLen_q {R : Hp} (b : Nat) (v : Value) (last : Int) (st : List One1) (css : List (List Value)) :
    QTri Tryz.prog 29 [.pointer (some ⟨b, 0, none⟩)] R [netB b v last, netS v st css] (.int .i64 (st.length : Int)) := by
  refine Tri.q ?_
  refine tri_of Tryz.func29 rfl Tryz.ntmps29 rfl (fun σ F Q hret hend hpan => ?_)
  try simp only [cA, nA]
  refine cj_seq fun K1 hK1 => cj_region ?_
  refine Ps ?_
  refine rj_nil (hK1 _ _ _ (cj_seq fun K2 hK2 => cj_seq fun K3 hK3 => cj_region ?_))
  refine Pm ?_
  refine Pa (y_peql Tryz.underlying66 rfl rfl) ?_
  refine rj_nil (hK3 _ _ _ (cj_cond_f rfl (cj_skip (hK2 _ _ _ (cj_seq fun K4 hK4 => cj_region ?_)))))
  refine Pm ?_
  refine Pa (y_nilCheck rfl) ?_
  refine Pa (Ga Tryz.underlying115 Tryz.sizeOf113) ?_
  first | refine Pa (La o113) ?_ | refine Pa (Ls o113) ?_
  first | refine Pa (y_len_sl Tryz.underlying113 rfl) ?_ | refine Pa (y_len_slc Tryz.underlying113 rfl fd_) ?_
  refine Ps ?_
  refine rj_nil (hK4 _ _ _ (cj_ret (hret _ _ _ ?_)))
  refine Ea Tryz.results29 (.cons (rv_tmp rfl) .nil) [netB b v last, netS v st css] le_ ?_
  exact ⟨rfl, rfl, rfl⟩
def hasB (st : List One1) (i : Int) : Bool := decide (0 ≤ i ∧ i < st.length)
def atM (st : List One1) (i : Int) : One1 := if hasB st i then st.getD i.toNat (0, Msg.zero) else (0, Msg.zero)
def dropL (st : List One1) (i : Int) : List One1 := if hasB st i then st.eraseIdx i.toNat else st
theorem atM_some {st : List One1} {i : Nat} {x : One1} (h : st[i]? = some x) : atM st i = x ∧ hasB st i = true := by
  have hi := (List.getElem?_eq_some_iff.1 h).1
  have hb : hasB st i = true := by unfold hasB; simp; omega
  refine ⟨?_, hb⟩
  unfold atM
  rw [if_pos hb, List.getD_eq_getElem?_getD, Int.toNat_natCast, h]; rfl
theorem atM_none {st : List One1} {i : Int} (h : hasB st i = false) : atM st i = (0, Msg.zero) ∧ dropL st i = st := by
  unfold atM dropL; rw [h]; exact ⟨rfl, rfl⟩
theorem part1 {xs : List Value} {i : Nat} {x : One1} {ve : Value} (h : (xs.drop (i * 11)).take 11 = oneC x ve) : (xs.drop ((i : Int).toNat * 11 + 1)).take 10 = msgC x.2 ve := by
  have : ((xs.drop (i * 11)).take 11).drop 1 = msgC x.2 ve := by rw [h]; rfl
  rw [Int.toNat_natCast, ← this, List.drop_take, List.drop_drop]
theorem part0 {xs : List Value} {i : Nat} {x : One1} {ve : Value} (h : (xs.drop (i * 11)).take 11 = oneC x ve) : nth xs ((i : Int).toNat * 11 + 0) = some (.int .u64 x.1) := by
  have : ((xs.drop (i * 11)).take 11)[0]? = some (.int .u64 x.1) := by rw [h]; rfl
  rw [Int.toNat_natCast, nth_eq]
  rw [List.getElem?_take, if_pos (by omega), List.getElem?_drop] at this
  exact this
def smallS (st : List One1) : Prop := ∀ x ∈ st, smallM x.2
theorem netAt_t {R : Hp} (b : Nat) (v : Value) (last : Int) (st : List One1) (css : List (List Value)) (hk : Els oneE R st css) (hsm : smallS st) (i : Int) :
    Tri Tryz.prog 67 [.pointer (some ⟨b, 0, none⟩), .int .i64 i] R [netB b v last, netS v st css]
      (fun r R' L' => L' = [netB b v last, netS v st css] ∧ ∃ ve, r = .tuple #[.agg ⟨msgC (atM st i).2 ve⟩, .int .u64 (atM st i).1, .bool (hasB st i)] ∧ FrX entE R' (atM st i).2.es ve) := by
  refine tri_of Tryz.func67 rfl Tryz.ntmps67 rfl (fun σ F Q hret hend hpan => ?_)
  try simp only [cA, nA]
  refine cj_seq fun K1 hK1 => cj_region ?_
  refine rj_alloc (wn0 rfl) rfl Tryz.zeroValue117 rfl (fun bo => ?_)
  refine Ps ?_
  refine Ps ?_
  refine rj_nil (hK1 _ _ _ (cj_seq fun K2 hK2 => cj_seq fun K3 hK3 => cj_region ?_))
  refine Pm ?_
  refine Pa (y_lss rfl rfl) ?_
  refine Pm ?_
  refine rj_part 9 rfl (fun hg9 => ?_) (fun hg9 => ?_)
  try simp only [dT, dF, nT, nF, tF, fT] at hg9
  refine Pk ?_
  refine Pk ?_
  refine Pk ?_
  refine Pk ?_
  refine Pa (y_pick_t rfl rfl) ?_
  refine rj_nil (hK3 _ _ _ (cj_cond_t rfl (cj_seq fun K4 hK4 => cj_region ?_)))
  refine Pa (y_build (cells := [_, _, _, _, _, _, _, _, _, _]) [(0, 1), (1, 1), (2, 1), (3, 1), (4, 1), (5, 1), (6, 1), (7, 1), (8, 1), (9, 1)] Tryz.underlying117 Tryz.zeroValue117 (fun _ => rfl) rfl rfl) ?_
  refine rj_stores m117 rfl (wn0 rfl) rfl rfl (by (first | (simp [Value.oneCell']; done) | (intro u hu; simp only [List.mem_cons, List.not_mem_nil, or_false] at hu; rcases hu with rfl | rfl | rfl | rfl <;> first | rfl | assumption))) fd_ (by (simp)) rfl ?_
  refine Ps ?_
  refine Ps ?_
  refine rj_nil (hK4 _ _ _ (cj_ret (hret _ _ _ ?_)))
  refine Ea Tryz.results67 (.cons (rv_cells m117 rfl fd_ rfl rfl) (.cons (rv_tmp rfl) (.cons (rv_tmp rfl) .nil))) [netB b v last, netS v st css] le_ ?_
  have hb : hasB st i = false := by unfold hasB; simp; omega
  rw [(atM_none hb).1, hb]; exact ⟨rfl, _, rfl, FrX.nil⟩
  try simp only [dT, dF, nT, nF, tF, fT] at hg9
  refine Pb (y_move rfl) ?_
  refine Pb (y_move rfl) ?_
  refine Pb (Ca Tryz.call29 (netLen_q b v last st css)) ?_
  refine Pb (y_geq rfl rfl) ?_
  refine Pa (y_pick_f rfl rfl) ?_
  refine rj_nil (hK3 _ _ _ ?_)
  refine cj_env (eL 0 rfl (eL 1 rfl (eL 4 rfl (eL 14 rfl eN)))) ?_
  refine cj_cond rfl (fun hc14 => ?_) (fun hc14 => ?_)
  try simp only [dT, dF, nT, nF, tF, fT] at hc14
  refine cj_seq fun K6 hK6 => cj_region ?_
  refine Pa (y_build (cells := [_, _, _, _, _, _, _, _, _, _]) [(0, 1), (1, 1), (2, 1), (3, 1), (4, 1), (5, 1), (6, 1), (7, 1), (8, 1), (9, 1)] Tryz.underlying117 Tryz.zeroValue117 (fun _ => rfl) rfl rfl) ?_
  refine rj_stores m117 rfl (wn0 rfl) rfl rfl (by (first | (simp [Value.oneCell']; done) | (intro u hu; simp only [List.mem_cons, List.not_mem_nil, or_false] at hu; rcases hu with rfl | rfl | rfl | rfl <;> first | rfl | assumption))) fd_ (by (simp)) rfl ?_
  refine Ps ?_
  refine Ps ?_
  refine rj_nil (hK6 _ _ _ (cj_ret (hret _ _ _ ?_)))
  refine Ea Tryz.results67 (.cons (rv_cells m117 rfl fd_ rfl rfl) (.cons (rv_tmp rfl) (.cons (rv_tmp rfl) .nil))) [netB b v last, netS v st css] le_ ?_
  have hb : hasB st i = false := by unfold hasB; simp; omega
  rw [(atM_none hb).1, hb]; exact ⟨rfl, _, rfl, FrX.nil⟩
  try simp only [dT, dF, nT, nF, tF, fT] at hc14
  refine cj_skip (hK2 _ _ _ (cj_seq fun K7 hK7 => ?_))
  obtain ⟨i, rfl⟩ := Int.eq_ofNat_of_zero_le (show 0 ≤ i by (try simp at hg9 hc14); omega)
  have hi : i < st.length := by (try simp at hc14); omega
  obtain ⟨⟨n, m⟩, hx⟩ : ∃ x, st[i]? = some x := ⟨st[i], by simp⟩
  obtain ⟨cs, hcs, ⟨ve, rfl, hve⟩, hpart⟩ := hk.get hx
  obtain ⟨ea, eb⟩ := atM_some hx
  have hmm : smallM m := hsm (n, m) (List.mem_of_getElem? hx)
  refine cj_mixg (L := [netB b v last, netS v st css]) [0, 1, 2, 3, 4, 5, 6, 7, 9, 10, 11, 12, 13, 14, 15, 16] [8, 17] [18, 19] _ sb_ (by kernel_rfl) (by kernel_rfl) (by kernel_rfl) rfl ?_
  refine Wa rfl (fun R1 hR1 G => (y_move rfl)) ?_
  refine Wa rfl (fun R1 hR1 G => (y_nilCheck rfl)) ?_
  refine Wa rfl (fun R1 hR1 G => (Ga Tryz.underlying115 Tryz.sizeOf113)) ?_
  first | refine Wa rfl (fun R1 hR1 G => (La o113)) ?_ | refine Wa rfl (fun R1 hR1 G => (Ls o113)) ?_
  refine Wa rfl (fun R1 hR1 G => (y_move rfl)) ?_
  refine Wa rfl (fun R1 hR1 G => (y_index_slc (sz := 11) (n := st.length) Tryz.underlying113 Tryz.sizeOf138 rfl rfl fd_ (by omega))) ?_
  refine Wa rfl (fun R1 hR1 G => (y_fieldAddr_slc (k := 1) Tryz.underlying138 rfl (m := 10) (by decide) Tryz.sizeOf117 rfl fd_ (by omega))) ?_
  refine Wa rfl (fun R1 hR1 G => (y_loads_slc (sz := 11) (n := st.length) (vs := msgC m ve) m117 rfl fd_ (part1 hpart) rfl (by omega))) ?_
  refine Wa rfl (fun R1 hR1 G => (y_move rfl)) ?_
  refine Wa rfl (fun R1 hR1 G => (y_nilCheck rfl)) ?_
  refine Wa rfl (fun R1 hR1 G => (Ga Tryz.underlying115 Tryz.sizeOf113)) ?_
  first | refine Wa rfl (fun R1 hR1 G => (La o113)) ?_ | refine Wa rfl (fun R1 hR1 G => (Ls o113)) ?_
  refine Wa rfl (fun R1 hR1 G => (y_move rfl)) ?_
  refine Wa rfl (fun R1 hR1 G => (y_index_slc (sz := 11) (n := st.length) Tryz.underlying113 Tryz.sizeOf138 rfl rfl fd_ (by omega))) ?_
  refine Wa rfl (fun R1 hR1 G => (y_fieldAddr_slc (k := 0) Tryz.underlying138 rfl (m := 1) (by decide) Tryz.sizeOf36 rfl fd_ (by omega))) ?_
  refine Wa rfl (fun R1 hR1 G => (y_load_slc o36 rfl fd_ (part0 hpart))) ?_
  refine fj_nil ?_
  refine xj_rj rfl ?_
  try simp only [cA, nA, List.append_nil]
  refine Ra Tryz.call89 (own_t m ve hve hmm) ?_
  rintro r R2 L' hR2 ⟨rfl, ve', rfl, hve'⟩
  try simp only [cA, nA]
  refine rj_xk le_ sb_ ?_
  refine xj_rj rfl ?_
  try simp only [cA, nA, List.append_nil]
  refine rj_stores m117 rfl (wn0 rfl) rfl rfl (msgE.one (R := R2) (x := m) ⟨ve', rfl, hve'⟩) fd_ (by exact Nat.le_refl 10) rfl ?_
  refine rj_xk le_ sb_ ?_
  refine xj_nil ?_
  try simp only [cA, nA, List.append_nil]
  refine Ps ?_
  refine Ps ?_
  refine rj_nil (hK7 _ _ _ ?_)
  refine cj_env (eL 4 rfl (eL 5 rfl (eL 6 rfl eN))) ?_
  refine cj_ret (hret _ _ _ ?_)
  refine Ea Tryz.results67 (.cons (rv_cells m117 rfl fd_ rfl rfl) (.cons (rv_tmp rfl) (.cons (rv_tmp rfl) .nil))) [netB b v last, netS v st css] le_ ?_
  rw [ea, eb]; exact ⟨rfl, ve', rfl, hve'⟩
end V
end Go.Proofs.YtenfjpigffjgmaaGreat
set_option linter.unusedSimpArgs false
set_option linter.unusedVariables false
set_option maxRecDepth 100000
namespace Go.Proofs.YtenfjpigffjgmaaGreat
open Go.RowKit
namespace V
set_option maxHeartbeats 4000000
theorem Els.eraseIdx {α : Type} {T : Elt α} {R : Hp} {l : List α} {css : List (List Value)} (k : Els T R l css) (i : Nat) : Els T R (l.eraseIdx i) (css.eraseIdx i) := by
  rw [List.eraseIdx_eq_take_drop_succ, List.eraseIdx_eq_take_drop_succ]
  exact (k.take i).app (k.drop (i + 1))
theorem erase_flat {α : Type} {T : Elt α} {R : Hp} {l : List α} {css : List (List Value)} (k : Els T R l css) (i : Nat) : css.flatten.take (i * T.sz) ++ css.flatten.drop ((i + 1) * T.sz) = (css.eraseIdx i).flatten := by
  rw [ftake i k.len, fdrop (i + 1) k.len, List.eraseIdx_eq_take_drop_succ, List.flatten_append]
theorem hasB_lt {st : List One1} {i : Int} (h0 : ¬ i < 0) (h1 : ¬ (st.length : Int) ≤ i) : ∃ n : Nat, i = n ∧ n < st.length ∧ hasB st i = true := by
  obtain ⟨n, rfl⟩ := Int.eq_ofNat_of_zero_le (show 0 ≤ i by omega)
  exact ⟨n, rfl, by omega, by unfold hasB; simp; omega⟩
theorem netDrop_t {R : Hp} (b : Nat) (v : Value) (last : Int) (st : List One1) (css : List (List Value)) (hk : Els oneE R st css) (hst : st.length ≤ 1000000) (i : Int) :
    Tri Tryz.prog 48 [.pointer (some ⟨b, 0, none⟩), .int .i64 i] R [netB b v last, netS v st css]
      (fun r R' L' => R = R' ∧ r = .bool (hasB st i) ∧ ∃ v' css', Els oneE R' (dropL st i) css' ∧ L' = [netB b v' last, netS v' (dropL st i) css']) := by
  refine tri_of Tryz.func48 rfl Tryz.ntmps48 rfl (fun σ F Q hret hend hpan => ?_)
  try simp only [cA, nA]
  refine cj_seq fun K1 hK1 => cj_region ?_
  refine Ps ?_
  refine rj_nil (hK1 _ _ _ (cj_seq fun K2 hK2 => cj_seq fun K3 hK3 => cj_region ?_))
  refine Pm ?_
  refine Pa (y_lss rfl rfl) ?_
  refine Pm ?_
  refine rj_part 7 rfl (fun hg7 => ?_) (fun hg7 => ?_)
  try simp only [dT, dF, nT, nF, tF, fT] at hg7
  refine Pk ?_
  refine Pk ?_
  refine Pk ?_
  refine Pk ?_
  refine Pa (y_pick_t rfl rfl) ?_
  refine rj_nil (hK3 _ _ _ (cj_cond_t rfl (cj_seq fun K4 hK4 => cj_region ?_)))
  refine Ps ?_
  refine rj_nil (hK4 _ _ _ (cj_ret (hret _ _ _ ?_)))
  refine Ea Tryz.results48 (.cons (rv_tmp rfl) .nil) [netB b v last, netS v st css] le_ ?_
  have hb : hasB st i = false := by unfold hasB; simp; omega
  rw [(atM_none hb).2, hb]; exact ⟨rfl, rfl, v, css, hk, rfl⟩
  try simp only [dT, dF, nT, nF, tF, fT] at hg7
  refine Pb (y_move rfl) ?_
  refine Pb (y_move rfl) ?_
  refine Pb (Ca Tryz.call29 (netLen_q b v last st css)) ?_
  refine Pb (y_geq rfl rfl) ?_
  refine Pa (y_pick_f rfl rfl) ?_
  refine rj_nil (hK3 _ _ _ ?_)
  refine cj_cond rfl (fun hc12 => ?_) (fun hc12 => ?_)
  try simp only [dT, dF, nT, nF, tF, fT] at hc12
  refine cj_seq fun K6 hK6 => cj_region ?_
  refine Ps ?_
  refine rj_nil (hK6 _ _ _ (cj_ret (hret _ _ _ ?_)))
  refine Ea Tryz.results48 (.cons (rv_tmp rfl) .nil) [netB b v last, netS v st css] le_ ?_
  have hb : hasB st i = false := by unfold hasB; simp; omega
  rw [(atM_none hb).2, hb]; exact ⟨rfl, rfl, v, css, hk, rfl⟩
  try simp only [dT, dF, nT, nF, tF, fT] at hc12
  refine cj_skip (hK2 _ _ _ (cj_seq fun K7 hK7 => cj_region ?_))
  obtain ⟨i, rfl, hi, hb⟩ := hasB_lt (st := st) (i := i) (by (try simp at hg7 hc12); omega) (by (try simp at hg7 hc12); omega)
  have hflat := erase_flat hk i
  have hlen : st.length - 1 = (st.eraseIdx i).length := by rw [List.length_eraseIdx_of_lt hi]
  have hdl : dropL st i = st.eraseIdx i := by unfold dropL; rw [if_pos hb]; rfl
  refine Pm ?_
  refine Pm ?_
  refine Pa (y_nilCheck rfl) ?_
  refine Pa (Ga Tryz.underlying115 Tryz.sizeOf113) ?_
  first | refine Pa (La o113) ?_ | refine Pa (Ls o113) ?_
  refine Pm ?_
  refine Pm ?_
  first | refine Pa (y_add64 rfl rfl om_) ?_ | refine Pa (y_add rfl rfl) ?_
  refine rj_eq 20 rfl (v' := .int .i64 ((i + 1 : Nat) : Int)) (by congr 1) ?_
  refine Ra Tryz.call66 (del_t v st.length css.flatten i hi hk.one) ?_
  rintro r R' L' hR ⟨rfl, hro, rfl⟩
  rw [show css.flatten.take (i * 11) ++ css.flatten.drop ((i + 1) * 11) = (css.eraseIdx i).flatten from hflat, hlen]
  try simp only [cA, nA]
  refine Pa (y_nilCheck rfl) ?_
  refine Pa (Ga Tryz.underlying115 Tryz.sizeOf113) ?_
  refine Sa o113 ?_
  refine rj_nil (hK7 _ _ _ ?_)
  refine cj_env eN ?_
  refine cj_seq fun K8 hK8 => cj_region ?_
  refine Ps ?_
  refine rj_nil (hK8 _ _ _ (cj_ret (hret _ _ _ ?_)))
  refine Ea Tryz.results48 (.cons (rv_tmp rfl) .nil) [netB b r last, netS r (st.eraseIdx i) (css.eraseIdx i)] le_ ?_
  rw [hdl, hb]; exact ⟨rfl, rfl, r, _, hk.eraseIdx i, rfl⟩
theorem netTake_t {R : Hp} (b : Nat) (v : Value) (last : Int) (st : List One1) (css : List (List Value)) (hk : Els oneE R st css) (hsm : smallS st) (hst : st.length ≤ 1000000) (i : Int) :
    Tri Tryz.prog 52 [.pointer (some ⟨b, 0, none⟩), .int .i64 i] R [netB b v last, netS v st css]
      (fun r R' L' => (∃ ve, r = .tuple #[.agg ⟨msgC (atM st i).2 ve⟩, .bool (hasB st i)] ∧ FrX entE R' (atM st i).2.es ve) ∧ ∃ v' css', Els oneE R' (dropL st i) css' ∧ L' = [netB b v' last, netS v' (dropL st i) css']) := by
  refine tri_of Tryz.func52 rfl Tryz.ntmps52 rfl (fun σ F Q hret hend hpan => ?_)
  try simp only [cA, nA]
  refine cj_seq fun K1 hK1 => cj_region ?_
  refine rj_alloc (wn0 rfl) rfl Tryz.zeroValue117 rfl (fun bo => ?_)
  refine Ps ?_
  refine rj_nil (hK1 _ _ _ (cj_seq fun K2 hK2 => cj_region ?_))
  refine Pm ?_
  refine Pm ?_
  refine Ra Tryz.call67 (netAt_t b v last st css hk hsm i) ?_
  rintro r R1 L' hR1 ⟨rfl, ve, rfl, hve⟩
  have hk1 := hk.mono hR1
  have hone : ∀ u ∈ msgC (atM st i).2 ve, u.oneCell' = true := msgE.one (R := R1) (x := (atM st i).2) ⟨ve, rfl, hve⟩
  try simp only [cA, nA]
  refine Pm ?_
  refine Pa (y_extract rfl rfl) ?_
  refine Pa (y_extract rfl rfl) ?_
  refine Pa (y_extract rfl rfl) ?_
  refine rj_alloc (wn0 rfl) rfl Tryz.zeroValue117 rfl (fun b6 => ?_)
  refine rj_stores m117 rfl (wn0 rfl) rfl rfl hone fd_ (by exact Nat.le_refl 10) rfl ?_
  refine Ps ?_
  refine Ps ?_
  refine rj_nil (hK2 _ _ _ (cj_seq fun K3 hK3 => ?_))
  refine cj_mixs (L := [blk b6 (msgC (atM st i).2 ve) 117]) [0, 1, 2, 3, 4] [5, 6, 7] [8] _ noX_ok sb_ (by kernel_rfl) (by kernel_rfl) (by kernel_rfl) rfl ?_
  refine Wa rfl (fun R1 hR1 G => (Lb (vs := msgC (atM st i).2 ve) m117)) ?_
  refine Wa rfl (fun R1 hR1 G => (y_move rfl)) ?_
  refine Wa rfl (fun R1 hR1 G => (y_move rfl)) ?_
  refine fj_part 18 rfl (fun hg18 => ?_) (fun hg18 => ?_)
  rw [hg18]
  try simp only [dT, dF, nT, nF, tF, fT] at hg18
  refine Wb rfl (fun R1 hR1 G => (y_move rfl)) ?_
  refine Wb rfl (fun R1 hR1 G => (y_move rfl)) ?_
  refine fj_nil ?_
  refine xs_all [5] (by kernel_rfl) ⟨?_, trivial⟩
  refine yj_rj rfl ?_
  try simp only [cA, nA, List.append_nil]
  refine rj_call (wn1 rfl rfl rfl rfl) rfl Tryz.call48 rfl (netDrop_t b v last st css hk1 hst i) sp_ (fun _ _ _ _ h => h.elim) ?_
  rintro r R2 L' hR2 ⟨rfl, rfl, v2, css2, hk2, rfl⟩
  try simp only [cA, nA]
  refine rj_yk le_ sb_ ?_
  refine xs_all [6, 7] (by kernel_rfl) ⟨?_, ?_, trivial⟩
  refine yj_rj rfl ?_
  try simp only [cA, nA, List.append_nil]
  refine Pa (y_pick_t rfl rfl) ?_
  refine rj_yk le_ sb_ ?_
  refine xs_all [7] (by kernel_rfl) ⟨?_, trivial⟩
  refine yj_rj rfl ?_
  try simp only [cA, nA, List.append_nil]
  refine rj_stores m117 rfl (wn0 rfl) rfl rfl hone fd_ (by exact Nat.le_refl 10) rfl ?_
  refine rj_yk le_ sb_ ?_
  refine xs_nil ?_
  try simp only [cA, nA, List.append_nil]
  refine Ps ?_
  refine rj_nil (hK3 _ _ _ (cj_ret (hret _ _ _ ?_)))
  refine Ea Tryz.results52 (.cons (rv_cells m117 rfl fd_ rfl rfl) (.cons (rv_tmp rfl) .nil)) [netB b v2 last, netS v2 (dropL st i) css2] le_ ?_
  exact ⟨⟨ve, rfl, hve⟩, v2, css2, hk2, rfl⟩
  refine yj_rj rfl ?_
  try simp only [cA, nA, List.append_nil]
  refine rj_stores m117 rfl (wn0 rfl) rfl rfl hone fd_ (by exact Nat.le_refl 10) rfl ?_
  refine rj_yk le_ sb_ ?_
  refine xs_all [6] (by kernel_rfl) ⟨?_, trivial⟩
  refine yj_rj rfl ?_
  try simp only [cA, nA, List.append_nil]
  refine Pa (y_pick_t rfl rfl) ?_
  refine rj_yk le_ sb_ ?_
  refine xs_nil ?_
  try simp only [cA, nA, List.append_nil]
  refine Ps ?_
  refine rj_nil (hK3 _ _ _ ?_)
  refine cj_env (eL 4 rfl (eL 5 rfl eN)) ?_
  refine cj_ret (hret _ _ _ ?_)
  refine Ea Tryz.results52 (.cons (rv_cells m117 rfl fd_ rfl rfl) (.cons (rv_tmp rfl) .nil)) [netB b v2 last, netS v2 (dropL st i) css2] le_ ?_
  exact ⟨⟨ve, rfl, hve⟩, v2, css2, hk2, rfl⟩
  rw [hg18]
  try simp only [dT, dF, nT, nF, tF, fT] at hg18
  refine fj_skip rfl rfl rfl (wn2 rfl rfl rfl rfl rfl) ?_
  refine fj_skip rfl rfl rfl (wn2 rfl rfl rfl rfl rfl) ?_
  refine fj_nil ?_
  refine xs_all [5] (by kernel_rfl) ⟨?_, trivial⟩
  refine yj_rj rfl ?_
  try simp only [cA, nA, List.append_nil]
  refine Pk ?_
  refine rj_yk le_ sb_ ?_
  refine xs_all [6, 7] (by kernel_rfl) ⟨?_, ?_, trivial⟩
  refine yj_rj rfl ?_
  try simp only [cA, nA, List.append_nil]
  refine Pa (y_pick_f rfl rfl) ?_
  refine rj_yk le_ sb_ ?_
  refine xs_all [7] (by kernel_rfl) ⟨?_, trivial⟩
  refine yj_rj rfl ?_
  try simp only [cA, nA, List.append_nil]
  refine rj_stores m117 rfl (wn0 rfl) rfl rfl hone fd_ (by exact Nat.le_refl 10) rfl ?_
  refine rj_yk le_ sb_ ?_
  refine xs_nil ?_
  try simp only [cA, nA, List.append_nil]
  refine Ps ?_
  refine rj_nil (hK3 _ _ _ (cj_ret (hret _ _ _ ?_)))
  refine Ea Tryz.results52 (.cons (rv_cells m117 rfl fd_ rfl rfl) (.cons (rv_tmp rfl) .nil)) [netB b v last, netS v st css] le_ ?_
  rw [(atM_none hg18).2]; exact ⟨⟨ve, by rw [hg18]; rfl, hve⟩, v, css, hk1, rfl⟩
  refine yj_rj rfl ?_
  try simp only [cA, nA, List.append_nil]
  refine rj_stores m117 rfl (wn0 rfl) rfl rfl hone fd_ (by exact Nat.le_refl 10) rfl ?_
  refine rj_yk le_ sb_ ?_
  refine xs_all [6] (by kernel_rfl) ⟨?_, trivial⟩
  refine yj_rj rfl ?_
  try simp only [cA, nA, List.append_nil]
  refine Pa (y_pick_f rfl rfl) ?_
  refine rj_yk le_ sb_ ?_
  refine xs_nil ?_
  try simp only [cA, nA, List.append_nil]
  refine Ps ?_
  refine rj_nil (hK3 _ _ _ (cj_ret (hret _ _ _ ?_)))
  refine Ea Tryz.results52 (.cons (rv_cells m117 rfl fd_ rfl rfl) (.cons (rv_tmp rfl) .nil)) [netB b v last, netS v st css] le_ ?_
  rw [(atM_none hg18).2]; exact ⟨⟨ve, by rw [hg18]; rfl, hve⟩, v, css, hk1, rfl⟩
def twL (st : List One1) (last i : Int) : List One1 := if hasB st i then st ++ numb last [(atM st i).2] else st
def twN (st : List One1) (last i : Int) : Int := if hasB st i then last + 1 else last
end V
end Go.Proofs.YtenfjpigffjgmaaGreat
set_option linter.unusedSimpArgs false
set_option linter.unusedVariables false
set_option maxRecDepth 100000
namespace Go.Proofs.YtenfjpigffjgmaaGreat
open Go.RowKit
namespace V
set_option maxHeartbeats 4000000
theorem tmod_nat (m j : Nat) : ((m : Nat) : Int).tmod (j : Int) = ((m % j : Nat) : Int) := by rw [Int.tmod_eq_emod_of_nonneg (by omega)]; rfl
end V
end Go.Proofs.YtenfjpigffjgmaaGreat
set_option linter.unusedSimpArgs false
set_option linter.unusedVariables false
set_option maxRecDepth 100000
namespace Go.Proofs.YtenfjpigffjgmaaGreat
open Go.RowKit
namespace V
set_option maxHeartbeats 4000000
def szAt (s : List UInt8) (at_ : Nat) : Int × Int := match szM 4 0 0 (s.drop at_) with
  | some (n, r) => ((n : Int), ((s.length - r.length : Nat) : Int))
  | none => (0, -1)
theorem szAt_none {s : List UInt8} {a : Nat} (h : szM 4 0 0 (s.drop a) = none) : szAt s a = (0, -1) := by unfold szAt; rw [h]
theorem szAt_some {s : List UInt8} {a n : Nat} {r : List UInt8} (h : szM 4 0 0 (s.drop a) = some (n, r)) : szAt s a = ((n : Int), ((s.length - r.length : Nat) : Int)) := by unfold szAt; rw [h]
theorem tup2 {a a' b b' : Int} (h1 : a = a') (h2 : b = b') : Value.tuple #[.int .i64 a, .int .i64 b] = .tuple #[.int .i64 a', .int .i64 b'] := by rw [h1, h2]
theorem drop_at {s : List UInt8} {i : Nat} (h : i < s.length) : ∃ u, s.drop i = u :: s.drop (i + 1) ∧ byteAt s (i : Int) = (u.toNat : Int) := by
  refine ⟨s[i], List.drop_eq_getElem_cons h, ?_⟩
  simp [byteAt, h]
theorem rsize_q {R : Hp} (s : List UInt8) (a : Nat) (hs : s.length ≤ big) (ha : a ≤ big + 1) : QTri Tryz.prog 180 [.string (str s), .int .i64 (a : Int)] R [] (.tuple #[.int .i64 (szAt s a).1, .int .i64 (szAt s a).2]) := by
  unfold big at hs ha
  refine Tri.q ?_
  refine tri_of Tryz.func180 rfl Tryz.ntmps180 rfl (fun σ F Q hret hend hpan => ?_)
  try simp only [cA, nA]
  refine cj_seq fun K1 hK1 => cj_region ?_
  refine Ps ?_
  refine Ps ?_
  refine rj_nil (hK1 _ _ _ (cj_seq fun K2 hK2 => cj_region ?_))
  refine Ps ?_
  refine rj_nil (hK2 _ _ _ (cj_seq fun K3 hK3 => cj_region ?_))
  refine Ps ?_
  refine rj_nil (hK3 _ _ _ (cj_seq fun K4 hK4 => cj_seq fun K5 hK5 => cj_region ?_))
  refine Pm ?_
  refine Ps ?_
  refine rj_nil (hK5 _ _ _ (cj_block ?_))
  refine cj_env (E' := (fun (x : Nat × Nat) => [(0, .string (str s)), (1, .int .i64 (a : Int)), (6, .int .i64 (x.2 : Int)), (7, .int .i64 ((128 ^ x.1 : Nat) : Int)), (8, .int .i64 ((a + x.1 : Nat) : Int))]) (0, 0)) (eC rfl (eC rfl (eC rfl (eC rfl (eC rfl eN))))) ?_
  refine cj_sub (M := (fun (x : Nat × Nat) => F) (0, 0)) sb_ ?_
  refine cj_loop (fun (x : Nat × Nat) => [(0, .string (str s)), (1, .int .i64 (a : Int)), (6, .int .i64 (x.2 : Int)), (7, .int .i64 ((128 ^ x.1 : Nat) : Int)), (8, .int .i64 ((a + x.1 : Nat) : Int))]) (fun (x : Nat × Nat) => R) (fun (x : Nat × Nat) => F) (fun (x : Nat × Nat) => x.1 ≤ 4 ∧ x.2 < 128 ^ x.1 ∧ szM 4 0 0 (s.drop a) = szM (4 - x.1) x.1 x.2 (s.drop (a + x.1)) ∧ (x.1 > 0 → a + x.1 ≤ s.length)) (fun (x : Nat × Nat) => 4 - x.1) (0, 0) (⟨by simp, by simp, rfl, fun h => by simp at h⟩) ?_
  rintro ⟨j, acc⟩ ⟨hj, hac, hz, hin⟩
  try dsimp only
  dsimp only at hj hac hz hin
  have hp : 128 ^ j ≤ 128 ^ 4 := Nat.pow_le_pow_right (by omega) hj
  have hp4 : (128 : Nat) ^ 4 = 268435456 := by decide
  refine cj_seq fun K6 hK6 => cj_seq fun K7 hK7 => cj_region ?_
  refine Pm ?_
  refine Pm ?_
  refine Pa (y_slen Tryz.underlying9 rfl) ?_
  refine Pa (y_lss rfl rfl) ?_
  refine Pm ?_
  refine rj_part 15 rfl (fun hg15 => ?_) (fun hg15 => ?_)
  try simp only [dT, dF, nT, nF, tF, fT] at hg15
  refine Pb (y_move rfl) ?_
  refine Pb (y_move rfl) ?_
  first | refine Pb (y_add64 rfl rfl om_) ?_ | refine Pb (y_add rfl rfl) ?_
  refine Pb (y_lss rfl rfl) ?_
  refine Pa (y_pick_t rfl rfl) ?_
  refine rj_nil (hK7 _ _ _ ?_)
  refine cj_cond rfl (fun hc20 => ?_) (fun hc20 => ?_)
  (try simp only [dT, dF, nT, nF, tF, fT] at hc20)
  refine cj_skip (hK6 _ _ _ (cj_seq fun K9 hK9 => cj_block (cj_seq fun K10 hK10 => cj_region ?_)))
  have hlt : a + j < s.length ∧ j < 4 := by (try simp at hc20); (try simp at hg14); omega
  obtain ⟨u, hu1, hu2⟩ := drop_at hlt.1
  obtain ⟨f, hf⟩ : ∃ f, 4 - j = f + 1 := ⟨3 - j, by omega⟩
  have hul := u.toNat_lt
  have hm1 : u.toNat % 128 * 128 ^ j ≤ 127 * 128 ^ j := Nat.mul_le_mul_right _ (by omega)
  have hp3 : 128 ^ j ≤ 128 ^ 3 := Nat.pow_le_pow_right (by omega) (by omega)
  have hp33 : (128 : Nat) ^ 3 = 2097152 := by decide
  refine Pm ?_
  refine Pm ?_
  refine Pa (y_index_s Tryz.underlying9 rfl rfl om_) ?_
  refine rj_eq 25 rfl (congrArg (Value.int .u8) hu2) ?_
  first | refine Pa (y_conv_in Tryz.underlying5 Tryz.underlying3 rfl (by (simp only [IntKind.min, IntKind.max, IntKind.signed, IntKind.bits, Bool.false_eq_true, ite_false, ite_true]; omega))) ?_ | refine Pa (y_conv Tryz.underlying5 Tryz.underlying3 rfl) ?_
  refine Ps ?_
  refine rj_nil (hK10 _ _ _ ?_)
  refine cj_env (eL 0 rfl (eL 1 rfl (eL 6 rfl (eL 7 rfl (eL 8 rfl (eL 9 rfl eN)))))) ?_
  refine cj_seq fun K11 hK11 => cj_region ?_
  refine Pm ?_
  refine Pm ?_
  refine Pa (y_rem rfl rfl om_) ?_
  refine rj_eq 29 rfl (congrArg (Value.int .i64) (tmod_nat u.toNat 128)) ?_
  refine Pm ?_
  first | refine Pa (y_mul64 rfl rfl om_) ?_ | refine Pa (y_mul rfl rfl) ?_
  refine rj_eq 31 rfl (v' := .int .i64 ((u.toNat % 128 * 128 ^ j : Nat) : Int)) (by first | rfl | (congr 1; rw [Int.natCast_mul])) ?_
  first | refine Pa (y_add64 rfl rfl om_) ?_ | refine Pa (y_add rfl rfl) ?_
  refine Ps ?_
  refine rj_nil (hK11 _ _ _ (cj_seq fun K12 hK12 => cj_region ?_))
  refine Pm ?_
  first | refine Pa (y_mul64 rfl rfl om_) ?_ | refine Pa (y_mul rfl rfl) ?_
  refine Ps ?_
  refine rj_nil (hK12 _ _ _ (cj_seq fun K13 hK13 => cj_region ?_))
  refine Pm ?_
  refine Pa (y_lss rfl rfl) ?_
  refine rj_nil (hK13 _ _ _ ?_)
  refine cj_cond rfl (fun hc36 => ?_) (fun hc36 => ?_)
  (try simp only [dT, dF, nT, nF, tF, fT] at hc36)
  have hsz : szM 4 0 0 (s.drop a) = if u.toNat = 0 ∧ j > 0 then none else some (acc + u.toNat * 128 ^ j, s.drop (a + j + 1)) := by rw [hz, hf, hu1, szM, if_pos (by (try simp at hc36); omega)]
  have hum : u.toNat % 128 = u.toNat := Nat.mod_eq_of_lt (by (try simp at hc36); omega)
  refine cj_seq fun K15 hK15 => cj_seq fun K16 hK16 => cj_region ?_
  refine Pm ?_
  refine Pa (y_eql rfl rfl) ?_
  refine Pm ?_
  refine rj_part 39 rfl (fun hg39 => ?_) (fun hg39 => ?_)
  try simp only [dT, dF, nT, nF, tF, fT] at hg39
  refine Pb (y_move rfl) ?_
  refine Pb (y_move rfl) ?_
  refine Pb (y_gtr rfl rfl) ?_
  refine Pa (y_pick_t rfl rfl) ?_
  refine rj_nil (hK16 _ _ _ ?_)
  refine cj_env (eL 6 rfl (eL 8 rfl (eL 43 rfl eN))) ?_
  refine cj_cond rfl (fun hc43 => ?_) (fun hc43 => ?_)
  try simp only [dT, dF, nT, nF, tF, fT] at hc43
  refine cj_seq fun K18 hK18 => cj_region ?_
  refine Ps ?_
  refine Ps ?_
  refine rj_nil (hK18 _ _ _ (cj_ret (hret _ _ _ ?_)))
  refine Ea Tryz.results180 (.cons (rv_tmp rfl) (.cons (rv_tmp rfl) .nil)) [] le_ ?_
  refine ⟨?_, rfl, rfl⟩; rw [szAt_none (by rw [hsz, if_pos ⟨by (try simp at hg39); omega, by (try simp at hc43); omega⟩])]; rfl
  try simp only [dT, dF, nT, nF, tF, fT] at hc43
  refine cj_skip (hK15 _ _ _ (cj_seq fun K19 hK19 => cj_region ?_))
  refine Pm ?_
  refine Pm ?_
  first | refine Pa (y_add64 rfl rfl om_) ?_ | refine Pa (y_add rfl rfl) ?_
  refine Ps ?_
  refine Ps ?_
  refine rj_nil (hK19 _ _ _ (cj_ret (hret _ _ _ ?_)))
  refine Ea Tryz.results180 (.cons (rv_tmp rfl) (.cons (rv_tmp rfl) .nil)) [] le_ ?_
  refine ⟨?_, rfl, rfl⟩; rw [szAt_some (by rw [hsz, if_neg (by (try simp at hc43); omega)])]; exact tup2 (by rw [hum]; omega) (by rw [List.length_drop]; omega)
  try simp only [dT, dF, nT, nF, tF, fT] at hg39
  refine Pk ?_
  refine Pk ?_
  refine Pk ?_
  refine Pa (y_pick_f rfl rfl) ?_
  refine rj_nil (hK16 _ _ _ (cj_cond_f rfl (cj_skip (hK15 _ _ _ (cj_seq fun K20 hK20 => cj_region ?_)))))
  refine Pm ?_
  refine Pm ?_
  first | refine Pa (y_add64 rfl rfl om_) ?_ | refine Pa (y_add rfl rfl) ?_
  refine Ps ?_
  refine Ps ?_
  refine rj_nil (hK20 _ _ _ (cj_ret (hret _ _ _ ?_)))
  refine Ea Tryz.results180 (.cons (rv_tmp rfl) (.cons (rv_tmp rfl) .nil)) [] le_ ?_
  refine ⟨?_, rfl, rfl⟩; rw [szAt_some (by rw [hsz, if_neg (by (try simp at hg39); omega)])]; exact tup2 (by rw [hum]; omega) (by rw [List.length_drop]; omega)
  try simp only [dT, dF, nT, nF, tF, fT] at hc36
  refine cj_skip (hK9 _ _ _ (cj_region ?_))
  refine Pm ?_
  first | refine Pa (y_add64 rfl rfl om_) ?_ | refine Pa (y_add rfl rfl) ?_
  refine Ps ?_
  refine rj_nil ?_
  refine ej_on (q' := roundK _ _ _ _ _ _ _) rfl ?_
  refine ej_round ((j + 1, acc + u.toNat % 128 * 128 ^ j)) (⟨by dsimp only; omega, by dsimp only; rw [Nat.pow_succ]; omega, by dsimp only; rw [hz, hf, hu1, szM, if_neg (by (try simp at hc36); omega), show u.toNat % 128 = u.toNat - 128 by (try simp at hc36); omega, Nat.add_assoc, show 4 - (j + 1) = f by omega], fun _ => by dsimp only; omega⟩) (by dsimp only; omega) (eC rfl (eC rfl (eC rfl (eC rfl (eC rfl eN))))) rfl sb_
  try simp only [dT, dF, nT, nF, tF, fT] at hc20
  refine cj_exit (hK4 _ _ _ ?_)
  refine cj_env eN ?_
  refine cj_seq fun K21 hK21 => cj_region ?_
  refine Ps ?_
  refine Ps ?_
  refine rj_nil (hK21 _ _ _ (cj_ret (hret _ _ _ ?_)))
  refine Ea Tryz.results180 (.cons (rv_tmp rfl) (.cons (rv_tmp rfl) .nil)) [] le_ ?_
  refine ⟨?_, rfl, rfl⟩; rw [szAt_none (by rw [hz, show 4 - j = 0 by (try simp at hc20); omega]; rfl)]; rfl
  try simp only [dT, dF, nT, nF, tF, fT] at hg15
  refine Pk ?_
  refine Pk ?_
  refine Pk ?_
  refine Pk ?_
  refine Pa (y_pick_f rfl rfl) ?_
  refine rj_nil (hK7 _ _ _ ?_)
  refine cj_env (eL 0 rfl (eL 1 rfl (eL 6 rfl (eL 7 rfl (eL 8 rfl (eL 20 rfl eN)))))) ?_
  refine cj_cond_f rfl (cj_exit (hK4 _ _ _ ?_))
  refine cj_env eN ?_
  refine cj_seq fun K22 hK22 => cj_region ?_
  refine Ps ?_
  refine Ps ?_
  refine rj_nil (hK22 _ _ _ (cj_ret (hret _ _ _ ?_)))
  refine Ea Tryz.results180 (.cons (rv_tmp rfl) (.cons (rv_tmp rfl) .nil)) [] le_ ?_
  refine ⟨?_, rfl, rfl⟩; rw [szAt_none (by rw [hz, List.drop_of_length_le (by (try simp at hg15); omega)]; cases (4 - j) <;> rfl)]; rfl
theorem szAt_pos {s : List UInt8} {a : Nat} (ha : a ≤ s.length) (h : ¬ (szAt s a).2 < 0) : ∃ n f, szM 4 0 0 (s.drop a) = some (n, s.drop f) ∧ f ≤ s.length ∧ n < 268435456 ∧ szAt s a = ((n : Int), (f : Int)) := by
  cases hz : szM 4 0 0 (s.drop a) with
  | none => rw [szAt_none hz] at h; simp at h
  | some p =>
    obtain ⟨n, q⟩ := p
    obtain ⟨h1, h2⟩ := szM_of hz
    have hl := congrArg List.length h1
    simp only [List.length_drop, List.length_append] at hl
    have hq : q = s.drop (s.length - q.length) := by
      have e : (s.drop a).drop (sizeB n).length = q := by rw [h1]; simp
      rw [List.drop_drop] at e
      rw [← e]
      congr 1
      rw [List.length_drop]; omega
    exact ⟨n, s.length - q.length, by rw [← hq], by omega, h2, szAt_some hz⟩
theorem szAt_neg {s : List UInt8} {a : Nat} (h : (szAt s a).2 < 0) : szM 4 0 0 (s.drop a) = none := by
  cases hz : szM 4 0 0 (s.drop a) with
  | none => rfl
  | some p => obtain ⟨n, q⟩ := p; rw [szAt_some hz] at h; simp at h; omega
def NAt (s : List UInt8) (a d : Nat) (r : Value) (R' : Hp) : Prop := ∃ y cy z, r = .tuple #[.agg ⟨cy⟩, .int .i64 z] ∧ RepN R' y cy ∧
  ((rdM d (s.drop a) = none ∧ z = -1 ∧ y = ndZero) ∨ ∃ e : Nat, e ≤ s.length ∧ z = e ∧ rdM d (s.drop a) = some (y, s.drop e))
theorem NAt.none_ {s : List UInt8} {a d : Nat} {R' : Hp} (h : rdM d (s.drop a) = none) : NAt s a d (.tuple #[.agg ⟨[.int .i64 0, .int .u64 0, .string (str []), .slice none 0 0]⟩, .int .i64 (-1)]) R' := ⟨ndZero, _, -1, rfl, zero_rep R', .inl ⟨h, rfl, rfl⟩⟩
def NumAt (r : Option (Nd × List UInt8)) (s : List UInt8) (f n : Nat) (x : Bool) : Prop :=
  (x = true → r = none) ∧ (x = false → n ≤ 8 ∧ f + n ≤ s.length ∧ r = some (.mk 0 (beN ((s.drop f).take n)) [] [], s.drop (f + n)))
def RNodeAt (d : Nat) : Prop := ∀ (s : List UInt8) (a : Nat) {R : Hp}, d ≤ 20 → s.length ≤ big → a ≤ big →
    Tri Tryz.prog 177 [.string (str s), .int .i64 (a : Int), .int .i64 (d : Int)] R [] (fun r R' L' => NAt s a d r R' ∧ L' = [])
theorem rnodeAt_zero : RNodeAt 0 := by
  intro s a R hd hs ha
  refine tri_of Tryz.func177 rfl Tryz.ntmps177 rfl (fun σ F Q hret hend hpan => ?_)
  try simp only [cA, nA]
  refine cj_seq fun K1 hK1 => cj_region ?_
  refine rj_alloc (wn0 rfl) rfl Tryz.zeroValue150 rfl (fun b6 => ?_)
  refine Ps ?_
  refine rj_nil (hK1 _ _ _ (cj_seq fun K2 hK2 => cj_region ?_))
  refine Pa (y_build (cells := [_, _, _, _]) [(0, 1), (1, 1), (2, 1), (3, 1)] Tryz.underlying150 Tryz.zeroValue150 (fun _ => rfl) rfl rfl) ?_
  refine rj_alloc (wn0 rfl) rfl Tryz.zeroValue150 rfl (fun b8 => ?_)
  refine rj_stores m150 rfl (wn0 rfl) rfl rfl (by (first | (simp [Value.oneCell']; done) | (intro u hu; simp only [List.mem_cons, List.not_mem_nil, or_false] at hu; rcases hu with rfl | rfl | rfl | rfl <;> first | rfl | assumption))) fd_ (by (simp)) rfl ?_
  refine rj_nil (hK2 _ _ _ (cj_seq fun K3 hK3 => cj_seq fun K4 hK4 => cj_region ?_))
  refine Pm ?_
  refine Pm ?_
  refine Pa (y_slen Tryz.underlying9 rfl) ?_
  refine Pa (y_geq rfl rfl) ?_
  refine Pm ?_
  refine rj_part 22 rfl (fun hg22 => ?_) (fun hg22 => ?_)
  try simp only [dT, dF, nT, nF, tF, fT] at hg22
  refine Pk ?_
  refine Pk ?_
  refine Pa (y_pick_t rfl rfl) ?_
  refine rj_nil (hK4 _ _ _ (cj_cond_t rfl (cj_seq fun K5 hK5 => cj_region ?_)))
  first | refine Pa (Lb m150) ?_ | refine Pa (y_loads_slc m150 rfl fd_ rfl rfl om_) ?_
  refine rj_stores m150 rfl (wn0 rfl) rfl rfl (by (first | (simp [Value.oneCell']; done) | (intro u hu; simp only [List.mem_cons, List.not_mem_nil, or_false] at hu; rcases hu with rfl | rfl | rfl | rfl <;> first | rfl | assumption))) fd_ (by (simp)) rfl ?_
  refine Ps ?_
  refine rj_nil (hK5 _ _ _ (cj_ret (hret _ _ _ ?_)))
  refine Ea Tryz.results177 (.cons (rv_cells m150 rfl fd_ rfl rfl) (.cons (rv_tmp rfl) .nil)) [] le_ ?_
  exact ⟨NAt.none_ rfl, rfl⟩
  try simp only [dT, dF, nT, nF, tF, fT] at hg22
  refine Pb (y_move rfl) ?_
  refine Pb (y_lss rfl rfl) ?_
  refine Pa (y_pick_f rfl rfl) ?_
  refine rj_nil (hK4 _ _ _ (cj_cond_t rfl (cj_seq fun K6 hK6 => cj_region ?_)))
  first | refine Pa (Lb m150) ?_ | refine Pa (y_loads_slc m150 rfl fd_ rfl rfl om_) ?_
  refine rj_stores m150 rfl (wn0 rfl) rfl rfl (by (first | (simp [Value.oneCell']; done) | (intro u hu; simp only [List.mem_cons, List.not_mem_nil, or_false] at hu; rcases hu with rfl | rfl | rfl | rfl <;> first | rfl | assumption))) fd_ (by (simp)) rfl ?_
  refine Ps ?_
  refine rj_nil (hK6 _ _ _ (cj_ret (hret _ _ _ ?_)))
  refine Ea Tryz.results177 (.cons (rv_cells m150 rfl fd_ rfl rfl) (.cons (rv_tmp rfl) .nil)) [] le_ ?_
  exact ⟨NAt.none_ rfl, rfl⟩
theorem byteAt_drop {s : List UInt8} {f i : Nat} : byteAt s ((f + i : Nat) : Int) = byteAt (s.drop f) (i : Int) := by
  unfold byteAt
  rw [Int.toNat_natCast, Int.toNat_natCast, List.getD_eq_getElem?_getD, List.getD_eq_getElem?_getD, List.getElem?_drop]
theorem rd_other {e n : Nat} {u : UInt8} {t q : List UInt8} (hz : szM 4 0 0 t = some (n, q)) (h1 : ¬ u.toNat = 110) (h2 : ¬ u.toNat = 115) (h3 : ¬ u.toNat = 108) : rdM (e + 1) (u :: t) = none := by
  have g1 : ¬ u = 110 := fun h => by subst h; exact h1 rfl
  have g2 : ¬ u = 115 := fun h => by subst h; exact h2 rfl
  have g3 : ¬ u = 108 := fun h => by subst h; exact h3 rfl
  rw [rdM, hz]; simp [g1, g2, g3]
theorem byteAt_take {s : List UInt8} {n i : Nat} (h : i < n) : byteAt (s.take n) (i : Int) = byteAt s (i : Int) := by
  simp [byteAt, List.getD_eq_getElem?_getD, List.getElem?_take, h]
section
variable {r : Option (Nd × List UInt8)} {s : List UInt8} {f n : Nat}
  (hr : r = (if n > 8 ∨ (s.drop f).length < n ∨ (n > 0 ∧ (s.drop f).head? = some 0) then none else some (.mk 0 (beN ((s.drop f).take n)) [] [], (s.drop f).drop n)))
include hr
theorem numAt_a (h : n > 8) : NumAt r s f n true := ⟨fun _ => by rw [hr, if_pos (.inl h)], fun h => (by cases h)⟩
theorem numAt_b (h : s.length < f + n) (hf : f ≤ s.length) : NumAt r s f n true := ⟨fun _ => by rw [hr, if_pos (.inr (.inl (by rw [List.length_drop]; omega)))], fun h => (by cases h)⟩
theorem numAt_c (h8 : ¬ n > 8) (hl : ¬ s.length < f + n) (h0 : n > 0) (hf : f ≤ s.length) : NumAt r s f n (decide (byteAt s (f : Int) = 0)) := by
  have hk := head_byte (t := s.drop f) (by rw [List.length_drop]; omega)
  rw [show (0 : Int) = ((0 : Nat) : Int) from rfl, ← byteAt_drop, Nat.add_zero] at hk
  refine ⟨fun h => ?_, fun h => ⟨by omega, by omega, ?_⟩⟩
  · rw [hr, if_pos (.inr (.inr ⟨h0, hk.1 (of_decide_eq_true h)⟩))]
  · rw [hr, if_neg, List.drop_drop]
    rintro (h1 | h1 | ⟨_, h1⟩)
    · exact h8 h1
    · rw [List.length_drop] at h1; omega
    · exact of_decide_eq_false h (hk.2 h1)
theorem numAt_d (h0 : n = 0) (hf : f ≤ s.length) : NumAt r s f n false := by
  refine ⟨fun h => (by cases h), fun _ => ⟨by omega, by omega, ?_⟩⟩
  rw [hr, if_neg (by rintro (h | h | h) <;> omega), List.drop_drop]
end
theorem rnodeAt_succ (e : Nat) (ih : RNodeAt e) : RNodeAt (e + 1) := by
  intro s a R hd hs ha
  have hs0 := hs
  have ha0 := ha
  unfold big at hs ha
  refine tri_of Tryz.func177 rfl Tryz.ntmps177 rfl (fun σ F Q hret hend hpan => ?_)
  try simp only [cA, nA]
  refine cj_seq fun K1 hK1 => cj_region ?_
  refine rj_alloc (wn0 rfl) rfl Tryz.zeroValue150 rfl (fun bo => ?_)
  refine Ps ?_
  refine rj_nil (hK1 _ _ _ (cj_seq fun K2 hK2 => cj_region ?_))
  refine Pa (y_build (cells := [_, _, _, _]) [(0, 1), (1, 1), (2, 1), (3, 1)] Tryz.underlying150 Tryz.zeroValue150 (fun _ => rfl) rfl rfl) ?_
  refine rj_alloc (wn0 rfl) rfl Tryz.zeroValue150 rfl (fun bz => ?_)
  refine rj_stores m150 rfl (wn0 rfl) rfl rfl (by (first | (simp [Value.oneCell']; done) | (intro u hu; simp only [List.mem_cons, List.not_mem_nil, or_false] at hu; rcases hu with rfl | rfl | rfl | rfl <;> first | rfl | assumption))) fd_ (by (simp)) rfl ?_
  refine rj_nil (hK2 _ _ _ (cj_seq fun K3 hK3 => cj_seq fun K4 hK4 => cj_region ?_))
  refine Pm ?_
  refine Pm ?_
  refine Pa (y_slen Tryz.underlying9 rfl) ?_
  refine Pa (y_geq rfl rfl) ?_
  refine Pm ?_
  refine rj_part 22 rfl (fun hg22 => ?_) (fun hg22 => ?_)
  (try simp only [dT, dF, nT, nF, tF, fT] at hg22)
  refine Pk ?_
  refine Pk ?_
  refine Pa (y_pick_t rfl rfl) ?_
  refine rj_nil (hK4 _ _ _ (cj_cond_t rfl (cj_seq fun K5 hK5 => cj_region ?_)))
  first | refine Pa (Lb m150) ?_ | refine Pa (y_loads_slc m150 rfl fd_ rfl rfl om_) ?_
  refine rj_stores m150 rfl (wn0 rfl) rfl rfl (by (first | (simp [Value.oneCell']; done) | (intro u hu; simp only [List.mem_cons, List.not_mem_nil, or_false] at hu; rcases hu with rfl | rfl | rfl | rfl <;> first | rfl | assumption))) fd_ (by (simp)) rfl ?_
  refine Ps ?_
  refine rj_nil (hK5 _ _ _ (cj_ret (hret _ _ _ ?_)))
  refine Ea Tryz.results177 (.cons (rv_cells m150 rfl fd_ rfl rfl) (.cons (rv_tmp rfl) .nil)) [] (by first | exact Hp.le_refl _ | exact Hp.le_trans hr1 hR2) ?_
  exact ⟨NAt.none_ (by rw [List.drop_of_length_le (by (try simp at hg22); omega)]; rfl), rfl⟩
  (try simp only [dT, dF, nT, nF, tF, fT] at hg22)
  obtain ⟨u, hu1, hu2⟩ := drop_at (s := s) (i := a) (by (try simp at hg22); omega)
  have ha1 : a < s.length := by (try simp at hg22); omega
  refine Pb (y_move rfl) ?_
  refine Pb (y_lss rfl rfl) ?_
  refine Pa (y_pick_f rfl rfl) ?_
  refine rj_nil (hK4 _ _ _ (cj_cond_f rfl (cj_skip (hK3 _ _ _ (cj_seq fun K6 hK6 => cj_region ?_)))))
  refine Pm ?_
  refine Pm ?_
  first | refine Pa (y_add64 rfl rfl om_) ?_ | refine Pa (y_add rfl rfl) ?_
  refine Pa (Ca Tryz.call180 (rsize_q s (a + 1) hs0 (by omega))) ?_
  refine Pm ?_
  refine Pa (y_extract rfl rfl) ?_
  refine Pa (y_extract rfl rfl) ?_
  refine Ps ?_
  refine Ps ?_
  refine rj_nil (hK6 _ _ _ ?_)
  refine cj_env (eL 0 rfl (eL 1 rfl (eL 2 rfl (eL 6 rfl (eL 8 rfl (eL 9 rfl (eL 10 rfl eN))))))) ?_
  refine cj_seq fun K7 hK7 => cj_seq fun K8 hK8 => cj_region ?_
  refine Pm ?_
  refine Pa (y_lss rfl rfl) ?_
  refine rj_nil (hK8 _ _ _ ?_)
  refine cj_cond rfl (fun hc35 => ?_) (fun hc35 => ?_)
  (try simp only [dT, dF, nT, nF, tF, fT] at hc35); have hz := szAt_neg hc35
  refine cj_seq fun K10 hK10 => cj_region ?_
  first | refine Pa (Lb m150) ?_ | refine Pa (y_loads_slc m150 rfl fd_ rfl rfl om_) ?_
  refine rj_stores m150 rfl (wn0 rfl) rfl rfl (by (first | (simp [Value.oneCell']; done) | (intro u hu; simp only [List.mem_cons, List.not_mem_nil, or_false] at hu; rcases hu with rfl | rfl | rfl | rfl <;> first | rfl | assumption))) fd_ (by (simp)) rfl ?_
  refine Ps ?_
  refine rj_nil (hK10 _ _ _ (cj_ret (hret _ _ _ ?_)))
  refine Ea Tryz.results177 (.cons (rv_cells m150 rfl fd_ rfl rfl) (.cons (rv_tmp rfl) .nil)) [] (by first | exact Hp.le_refl _ | exact Hp.le_trans hr1 hR2) ?_
  exact ⟨NAt.none_ (by rw [hu1, rdM, hz]), rfl⟩
  (try simp only [dT, dF, nT, nF, tF, fT] at hc35); obtain ⟨n, f, hz, hf, hn, heq⟩ := szAt_pos (by omega) (by omega : ¬ (szAt s (a + 1)).2 < 0)
  rw [heq]
  refine cj_skip (hK7 _ _ _ (cj_seq fun K11 hK11 => cj_seq fun K12 hK12 => cj_region ?_))
  refine Pm ?_
  refine Pm ?_
  refine Pa (y_index_s Tryz.underlying9 rfl rfl om_) ?_
  refine rj_eq 39 rfl (congrArg (Value.int .u8) hu2) ?_
  refine rj_nil (hK12 _ _ _ (cj_block (cj_seq fun K13 hK13 => cj_region ?_)))
  refine Pa (y_eql rfl rfl) ?_
  refine Ps ?_
  refine rj_nil (hK13 _ _ _ ?_)
  refine cj_cond rfl (fun hc40 => ?_) (fun hc40 => ?_)
  (try simp only [dT, dF, nT, nF, tF, fT] at hc40); obtain rfl : u = 110 := UInt8.toNat_inj.1 (by simpa using (by omega : u.toNat = 110))
  have hrd : rdM (e + 1) (s.drop a) = (if n > 8 ∨ (s.drop f).length < n ∨ (n > 0 ∧ (s.drop f).head? = some 0) then none else some (.mk 0 (beN ((s.drop f).take n)) [] [], (s.drop f).drop n)) := by rw [hu1, rdM, hz]; simp
  refine cj_seq fun K15 hK15 => cj_seq fun K16 hK16 => ?_
  have hJ10 : ∀ (x : Bool), NumAt (rdM (e + 1) (s.drop a)) s f n x → EJ ⟨Tryz.prog, 130, σ⟩ K16 [(0, .string (str s)), (6, .pointer (some ⟨bo, 0, none⟩)), (8, .pointer (some ⟨bz, 0, none⟩)), (9, .int .i64 (n : Int)), (10, .int .i64 (f : Int)), (61, .bool x)] R (blk bz [.int .i64 0, .int .u64 0, .string (str []), .slice none 0 0] 150 :: blk bo [.int .i64 0, .int .u64 0, .string (str []), .slice none 0 0] 150 :: F) := by
    rintro x ⟨j1, j2⟩
    try dsimp only
    refine hK16 _ _ _ ?_
    refine cj_cond rfl (fun hc61 => ?_) (fun hc61 => ?_)
    subst hc61
    refine cj_seq fun K18 hK18 => cj_region ?_
    first | refine Pa (Lb m150) ?_ | refine Pa (y_loads_slc m150 rfl fd_ rfl rfl om_) ?_
    refine rj_stores m150 rfl (wn0 rfl) rfl rfl (by (first | (simp [Value.oneCell']; done) | (intro u hu; simp only [List.mem_cons, List.not_mem_nil, or_false] at hu; rcases hu with rfl | rfl | rfl | rfl <;> first | rfl | assumption))) fd_ (by (simp)) rfl ?_
    refine Ps ?_
    refine rj_nil (hK18 _ _ _ (cj_ret (hret _ _ _ ?_)))
    refine Ea Tryz.results177 (.cons (rv_cells m150 rfl fd_ rfl rfl) (.cons (rv_tmp rfl) .nil)) [] (by first | exact Hp.le_refl _ | exact Hp.le_trans hr1 hR2) ?_
    exact ⟨NAt.none_ (j1 rfl), rfl⟩
    subst hc61
    obtain ⟨hn8, hfl, hrs⟩ := j2 rfl
    have htl : ((s.drop f).take n).length = n := by rw [List.length_take, List.length_drop]; omega
    refine cj_skip (hK15 _ _ _ (cj_seq fun K19 hK19 => cj_region ?_))
    refine Ps ?_
    refine rj_nil (hK19 _ _ _ (cj_seq fun K20 hK20 => cj_seq fun K21 hK21 => cj_region ?_))
    refine Ps ?_
    refine rj_nil (hK21 _ _ _ (cj_block ?_))
    refine cj_env (E' := (fun (x : Nat) => [(0, .string (str s)), (6, .pointer (some ⟨bo, 0, none⟩)), (9, .int .i64 (n : Int)), (10, .int .i64 (f : Int)), (11, .int .u64 (beN (((s.drop f).take n).take x) : Int)), (12, .int .i64 (x : Int))]) 0) (eC rfl (eC rfl (eC rfl (eC rfl (eC rfl (eC rfl eN)))))) ?_
    refine cj_sub (M := (fun (x : Nat) => blk bo [.int .i64 0, .int .u64 0, .string (str []), .slice none 0 0] 150 :: F) 0) sb_ ?_
    refine cj_loop (fun (x : Nat) => [(0, .string (str s)), (6, .pointer (some ⟨bo, 0, none⟩)), (9, .int .i64 (n : Int)), (10, .int .i64 (f : Int)), (11, .int .u64 (beN (((s.drop f).take n).take x) : Int)), (12, .int .i64 (x : Int))]) (fun (x : Nat) => R) (fun (x : Nat) => blk bo [.int .i64 0, .int .u64 0, .string (str []), .slice none 0 0] 150 :: F) (fun (x : Nat) => x ≤ n) (fun (x : Nat) => n - x) 0 (by simp) ?_
    rintro i hI13
    try dsimp only
    refine cj_seq fun K22 hK22 => cj_seq fun K23 hK23 => cj_region ?_
    refine Pm ?_
    refine Pm ?_
    refine Pa (y_lss rfl rfl) ?_
    refine rj_nil (hK23 _ _ _ ?_)
    refine cj_cond rfl (fun hc65 => ?_) (fun hc65 => ?_)
    try simp only [dT, dF, nT, nF, tF, fT] at hc65
    refine cj_skip (hK22 _ _ _ (cj_seq fun K25 hK25 => cj_block (cj_region ?_)))
    have hlt := beN_small (t := (s.drop f).take n) (i := i) (by omega) (by omega)
    have hbe := beN_take (t := (s.drop f).take n) (i := i) (by omega)
    rw [byteAt_take (by omega), ← byteAt_drop] at hbe
    have h4 := byteAt_bd s ((f + i : Nat) : Int)
    have h5 : ((f : Int) + (i : Int)) = ((f + i : Nat) : Int) := rfl
    refine Pm ?_
    first | refine Pa (y_mulu rfl rfl om_) ?_ | refine Pa (y_mul rfl rfl) ?_
    refine Pm ?_
    refine Pm ?_
    refine Pm ?_
    first | refine Pa (y_add64 rfl rfl om_) ?_ | refine Pa (y_add rfl rfl) ?_
    refine rj_eq 73 rfl (v' := .int .i64 ((f + i : Nat) : Int)) rfl ?_
    refine Pa (y_index_s Tryz.underlying9 rfl rfl om_) ?_
    refine Pa ((y_conv_in Tryz.underlying5 Tryz.underlying36 rfl (by simp only [IntKind.min, IntKind.max, IntKind.signed, IntKind.bits, Bool.false_eq_true, ite_false]; omega))) ?_
    first | refine Pa (y_addu rfl rfl om_) ?_ | refine Pa (y_add rfl rfl) ?_
    refine rj_eq 76 rfl (v' := .int .u64 (beN (((s.drop f).take n).take (i + 1)) : Int)) (by rw [hbe]; congr 1 <;> omega) ?_
    refine Ps ?_
    refine rj_nil (hK25 _ _ _ ?_)
    refine cj_env (eL 0 rfl (eL 6 rfl (eL 9 rfl (eL 10 rfl (eL 11 rfl (eL 12 rfl eN)))))) ?_
    refine cj_region ?_
    refine Pm ?_
    first | refine Pa (y_add64 rfl rfl om_) ?_ | refine Pa (y_add rfl rfl) ?_
    refine Ps ?_
    refine rj_nil ?_
    refine ej_on (q' := roundK _ _ _ _ _ _ _) rfl ?_
    refine ej_round (i + 1) (by omega) (by omega) (eC rfl (eC rfl (eC rfl (eC rfl (eC rfl (eC rfl eN)))))) rfl sb_
    try simp only [dT, dF, nT, nF, tF, fT] at hc65
    refine cj_exit (hK20 _ _ _ (cj_seq fun K26 hK26 => cj_region ?_))
    rw [List.take_of_length_le (by omega)]
    refine Pm ?_
    refine Pa (y_build (cells := [_, _, _, _]) [(0, 1), (1, 1), (2, 1), (3, 1)] Tryz.underlying150 Tryz.zeroValue150 (fun _ => rfl) rfl rfl) ?_
    refine Pm ?_
    refine Pm ?_
    first | refine Pa (y_add64 rfl rfl om_) ?_ | refine Pa (y_add rfl rfl) ?_
    refine rj_stores m150 rfl (wn0 rfl) rfl rfl (by (first | (simp [Value.oneCell']; done) | (intro u hu; simp only [List.mem_cons, List.not_mem_nil, or_false] at hu; rcases hu with rfl | rfl | rfl | rfl <;> first | rfl | assumption))) fd_ (by (simp)) rfl ?_
    refine Ps ?_
    refine rj_nil (hK26 _ _ _ (cj_ret (hret _ _ _ ?_)))
    refine Ea Tryz.results177 (.cons (rv_cells m150 rfl fd_ rfl rfl) (.cons (rv_tmp rfl) .nil)) [] (by first | exact Hp.le_refl _ | exact Hp.le_trans hr1 hR2) ?_
    exact ⟨⟨_, _, _, rfl, RepL.node (k := 0) (s := []) (by simp [big]) (RepL.nil R), .inr ⟨f + n, hfl, by omega, hrs⟩⟩, rfl⟩
  refine cj_region ?_
  refine Pm ?_
  refine Pa (y_gtr rfl rfl) ?_
  refine Pm ?_
  refine rj_part 44 rfl (fun hg44 => ?_) (fun hg44 => ?_)
  (try simp only [dT, dF, nT, nF, tF, fT] at hg44)
  refine Pk ?_
  refine Pk ?_
  refine Pk ?_
  refine Pk ?_
  refine Pk ?_
  refine Pk ?_
  refine Pa (y_pick_t rfl rfl) ?_
  refine Pm ?_
  refine Pk ?_
  refine Pk ?_
  refine Pk ?_
  refine rj_skip (wn3 rfl rfl rfl rfl) rfl rfl ?_
  refine rj_skip (wn3 rfl rfl rfl rfl) rfl rfl ?_
  refine rj_skip (wn3 rfl rfl rfl rfl) rfl rfl ?_
  refine rj_skip (wn3 rfl rfl rfl rfl) rfl rfl ?_
  refine Pk ?_
  refine Pa (y_pick_t rfl rfl) ?_
  refine rj_nil ?_
  refine ej_join hJ10 (true) (numAt_a hrd (by (try simp at hg44); omega)) (eC rfl (eC rfl (eC rfl (eC rfl (eC rfl (eC rfl eN)))))) rfl sb_
  (try simp only [dT, dF, nT, nF, tF, fT] at hg44)
  refine Pb (y_move rfl) ?_
  refine Pb (y_move rfl) ?_
  first | refine Pb (y_add64 rfl rfl om_) ?_ | refine Pb (y_add rfl rfl) ?_
  refine Pb (y_move rfl) ?_
  refine Pb (y_slen Tryz.underlying9 rfl) ?_
  refine Pb (y_gtr rfl rfl) ?_
  refine Pa (y_pick_f rfl rfl) ?_
  refine Pm ?_
  refine rj_part 52 rfl (fun hg52 => ?_) (fun hg52 => ?_)
  (try simp only [dT, dF, nT, nF, tF, fT] at hg52)
  refine Pk ?_
  refine Pk ?_
  refine Pk ?_
  refine rj_skip (wn3 rfl rfl rfl rfl) rfl rfl ?_
  refine rj_skip (wn3 rfl rfl rfl rfl) rfl rfl ?_
  refine rj_skip (wn3 rfl rfl rfl rfl) rfl rfl ?_
  refine rj_skip (wn3 rfl rfl rfl rfl) rfl rfl ?_
  refine Pk ?_
  refine Pa (y_pick_t rfl rfl) ?_
  refine rj_nil ?_
  refine ej_join hJ10 (true) (numAt_b hrd (by (try simp at hg52); omega) hf) (eC rfl (eC rfl (eC rfl (eC rfl (eC rfl (eC rfl eN)))))) rfl sb_
  (try simp only [dT, dF, nT, nF, tF, fT] at hg52)
  have hfn : f + n ≤ s.length := by (try simp at hg52); omega
  refine Pb (y_move rfl) ?_
  refine Pb (y_gtr rfl rfl) ?_
  refine Pb (y_move rfl) ?_
  refine rj_part 55 rfl (fun hg55 => ?_) (fun hg55 => ?_)
  (try simp only [dT, dF, nT, nF, tF, fT] at hg55)
  refine Pb (y_move rfl) ?_
  refine Pb (y_move rfl) ?_
  refine Pb (y_index_s Tryz.underlying9 rfl rfl om_) ?_
  refine Pb (y_eql rfl rfl) ?_
  refine Pb (y_pick_t rfl rfl) ?_
  refine Pa (y_pick_f rfl rfl) ?_
  refine rj_nil ?_
  refine ej_join hJ10 ((decide (byteAt s (f : Int) = 0))) (numAt_c hrd (by (try simp at hg44); omega) (by (try simp at hg52); omega) (by (try simp at hg55); omega) hf) (eC rfl (eC rfl (eC rfl (eC rfl (eC rfl (eC rfl eN)))))) rfl sb_
  (try simp only [dT, dF, nT, nF, tF, fT] at hg55)
  refine Pk ?_
  refine Pk ?_
  refine Pk ?_
  refine Pk ?_
  refine Pb (y_pick_f rfl rfl) ?_
  refine Pa (y_pick_f rfl rfl) ?_
  refine rj_nil ?_
  refine ej_join hJ10 (false) (numAt_d hrd (by (try simp at hg55); omega) hf) (eC rfl (eC rfl (eC rfl (eC rfl (eC rfl (eC rfl eN)))))) rfl sb_
  try simp only [dT, dF, nT, nF, tF, fT] at hc40
  refine cj_seq fun K27 hK27 => cj_region ?_
  refine Pa (y_eql rfl rfl) ?_
  refine Ps ?_
  refine rj_nil (hK27 _ _ _ ?_)
  refine cj_env (eL 0 rfl (eL 2 rfl (eL 6 rfl (eL 8 rfl (eL 9 rfl (eL 10 rfl (eL 39 rfl (eL 82 rfl eN)))))))) ?_
  refine cj_cond rfl (fun hc82 => ?_) (fun hc82 => ?_)
  (try simp only [dT, dF, nT, nF, tF, fT] at hc82); obtain rfl : u = 115 := UInt8.toNat_inj.1 (by simpa using (by omega : u.toNat = 115))
  have hrd : rdM (e + 1) (s.drop a) = (if (s.drop f).length < n then none else some (.mk 1 0 ((s.drop f).take n) [], (s.drop f).drop n)) := by rw [hu1, rdM, hz]; simp
  refine cj_seq fun K29 hK29 => cj_seq fun K30 hK30 => cj_region ?_
  refine Pm ?_
  refine Pm ?_
  first | refine Pa (y_add64 rfl rfl om_) ?_ | refine Pa (y_add rfl rfl) ?_
  refine Pm ?_
  refine Pa (y_slen Tryz.underlying9 rfl) ?_
  refine Pa (y_gtr rfl rfl) ?_
  refine rj_nil (hK30 _ _ _ ?_)
  refine cj_cond rfl (fun hc89 => ?_) (fun hc89 => ?_)
  (try simp only [dT, dF, nT, nF, tF, fT] at hc89)
  refine cj_seq fun K32 hK32 => cj_region ?_
  first | refine Pa (Lb m150) ?_ | refine Pa (y_loads_slc m150 rfl fd_ rfl rfl om_) ?_
  refine rj_stores m150 rfl (wn0 rfl) rfl rfl (by (first | (simp [Value.oneCell']; done) | (intro u hu; simp only [List.mem_cons, List.not_mem_nil, or_false] at hu; rcases hu with rfl | rfl | rfl | rfl <;> first | rfl | assumption))) fd_ (by (simp)) rfl ?_
  refine Ps ?_
  refine rj_nil (hK32 _ _ _ (cj_ret (hret _ _ _ ?_)))
  refine Ea Tryz.results177 (.cons (rv_cells m150 rfl fd_ rfl rfl) (.cons (rv_tmp rfl) .nil)) [] (by first | exact Hp.le_refl _ | exact Hp.le_trans hr1 hR2) ?_
  exact ⟨NAt.none_ (by rw [hrd, if_pos (by rw [List.length_drop]; (try simp at hc89); omega)]), rfl⟩
  (try simp only [dT, dF, nT, nF, tF, fT] at hc89)
  refine cj_skip (hK29 _ _ _ (cj_seq fun K33 hK33 => cj_region ?_))
  refine Pm ?_
  refine Pm ?_
  refine Pm ?_
  refine Pm ?_
  first | refine Pa (y_add64 rfl rfl om_) ?_ | refine Pa (y_add rfl rfl) ?_
  refine Pa (y_slice_s Tryz.underlying9 rfl rfl rfl om_) ?_
  refine rj_eq 96 rfl (v' := .string (str ((s.drop f).take n))) (by rw [show ((f : Int) + (n : Int)).toNat - ((f : Int)).toNat = n by omega, Int.toNat_natCast]) ?_
  refine Pa (y_build (cells := [_, _, _, _]) [(0, 1), (1, 1), (2, 1), (3, 1)] Tryz.underlying150 Tryz.zeroValue150 (fun _ => rfl) rfl rfl) ?_
  refine Pm ?_
  refine Pm ?_
  first | refine Pa (y_add64 rfl rfl om_) ?_ | refine Pa (y_add rfl rfl) ?_
  refine rj_stores m150 rfl (wn0 rfl) rfl rfl (by (first | (simp [Value.oneCell']; done) | (intro u hu; simp only [List.mem_cons, List.not_mem_nil, or_false] at hu; rcases hu with rfl | rfl | rfl | rfl <;> first | rfl | assumption))) fd_ (by (simp)) rfl ?_
  refine Ps ?_
  refine rj_nil (hK33 _ _ _ ?_)
  refine cj_env (eL 6 rfl (eL 7 rfl eN)) ?_
  refine cj_ret (hret _ _ _ ?_)
  refine Ea Tryz.results177 (.cons (rv_cells m150 rfl fd_ rfl rfl) (.cons (rv_tmp rfl) .nil)) [] (by first | exact Hp.le_refl _ | exact Hp.le_trans hr1 hR2) ?_
  exact ⟨⟨_, _, _, rfl, RepL.node (k := 1) (n := 0) (by unfold big; simp; omega) (RepL.nil R), .inr ⟨f + n, by (try simp at hc89); omega, by omega, by rw [hrd, if_neg (by rw [List.length_drop]; (try simp at hc89); omega), List.drop_drop]⟩⟩, rfl⟩
  try simp only [dT, dF, nT, nF, tF, fT] at hc82
  refine cj_seq fun K34 hK34 => cj_region ?_
  refine Pa (y_eql rfl rfl) ?_
  refine Ps ?_
  refine rj_nil (hK34 _ _ _ ?_)
  refine cj_cond rfl (fun hc101 => ?_) (fun hc101 => ?_)
  (try simp only [dT, dF, nT, nF, tF, fT] at hc101); obtain rfl : u = 108 := UInt8.toNat_inj.1 (by simpa using (by omega : u.toNat = 108))
  have hrd : rdM (e + 1) (s.drop a) = (match rdL (rdM e) n (s.drop f) with | none => none | some (l, r') => some (.mk 2 0 [] l, r')) := by rw [hu1, rdM, hz]; simp only; rw [if_neg (by decide), if_neg (by decide), if_pos trivial]; rfl
  refine cj_seq fun K36 hK36 => cj_region ?_
  refine Pa (y_build (cells := [_, _, _, _]) [(0, 1), (1, 1), (2, 1), (3, 1)] Tryz.underlying150 Tryz.zeroValue150 (fun _ => rfl) rfl rfl) ?_
  refine rj_alloc (wn0 rfl) rfl Tryz.zeroValue150 rfl (fun bl => ?_)
  refine rj_stores m150 rfl (wn0 rfl) rfl rfl (by (first | (simp [Value.oneCell']; done) | (intro u hu; simp only [List.mem_cons, List.not_mem_nil, or_false] at hu; rcases hu with rfl | rfl | rfl | rfl <;> first | rfl | assumption))) fd_ (by (simp)) rfl ?_
  refine rj_add (A := slc 150 4 (.slice none 0 0) 0 []) (slc_nil _ _) ?_
  refine rj_nil (hK36 _ _ _ (cj_seq fun K37 hK37 => cj_seq fun K38 hK38 => cj_region ?_))
  refine Ps ?_
  refine rj_nil (hK38 _ _ _ (cj_block ?_))
  refine cj_env (E' := (fun (x : List Nd × List (List Value) × Value × Nat × Hp) => [(0, .string (str s)), (2, .int .i64 ((e + 1 : Nat) : Int)), (6, .pointer (some ⟨bo, 0, none⟩)), (8, .pointer (some ⟨bz, 0, none⟩)), (9, .int .i64 (n : Int)), (10, .int .i64 (x.2.2.2.1 : Int)), (13, .pointer (some ⟨bl, 0, none⟩)), (14, .int .i64 (x.1.length : Int))]) ([], [], .slice none 0 0, f, R)) (eC rfl (eC rfl (eC rfl (eC rfl (eC rfl (eC rfl (eC rfl (Env.le_cons (Eq.trans rfl (congrArg some (by first | rfl | (exact congrArg (Value.int .i64) (by simp))))) eN)))))))) ?_
  refine cj_sub (M := (fun (x : List Nd × List (List Value) × Value × Nat × Hp) => slc 150 4 x.2.2.1 x.1.length x.2.1.flatten :: blk bl [.int .i64 2, .int .u64 0, .string (str []), x.2.2.1] 150 :: blk bz [.int .i64 0, .int .u64 0, .string (str []), .slice none 0 0] 150 :: blk bo [.int .i64 0, .int .u64 0, .string (str []), .slice none 0 0] 150 :: F) ([], [], .slice none 0 0, f, R)) sb_ ?_
  refine cj_loop (fun (x : List Nd × List (List Value) × Value × Nat × Hp) => [(0, .string (str s)), (2, .int .i64 ((e + 1 : Nat) : Int)), (6, .pointer (some ⟨bo, 0, none⟩)), (8, .pointer (some ⟨bz, 0, none⟩)), (9, .int .i64 (n : Int)), (10, .int .i64 (x.2.2.2.1 : Int)), (13, .pointer (some ⟨bl, 0, none⟩)), (14, .int .i64 (x.1.length : Int))]) (fun (x : List Nd × List (List Value) × Value × Nat × Hp) => x.2.2.2.2) (fun (x : List Nd × List (List Value) × Value × Nat × Hp) => slc 150 4 x.2.2.1 x.1.length x.2.1.flatten :: blk bl [.int .i64 2, .int .u64 0, .string (str []), x.2.2.1] 150 :: blk bz [.int .i64 0, .int .u64 0, .string (str []), .slice none 0 0] 150 :: blk bo [.int .i64 0, .int .u64 0, .string (str []), .slice none 0 0] 150 :: F) (fun (x : List Nd × List (List Value) × Value × Nat × Hp) => R.le x.2.2.2.2 ∧ x.1.length ≤ n ∧ Kids x.2.2.2.2 x.1 x.2.1 ∧ x.2.2.2.1 ≤ s.length ∧ rdL (rdM e) n (s.drop f) = (rdL (rdM e) (n - x.1.length) (s.drop x.2.2.2.1)).map (fun p => (x.1 ++ p.1, p.2))) (fun (x : List Nd × List (List Value) × Value × Nat × Hp) => n - x.1.length) ([], [], .slice none 0 0, f, R) (⟨Hp.le_refl R, by simp, ⟨rfl, fun i x cs h _ => by simp at h⟩, hf, by simp⟩) ?_
  rintro ⟨ks, css, v, fr, R1⟩ ⟨hr1, hi, hk, hfr, q1⟩
  try dsimp only
  dsimp only at hr1 hi hk hfr q1
  refine cj_seq fun K39 hK39 => cj_seq fun K40 hK40 => cj_region ?_
  refine Pm ?_
  refine Pm ?_
  refine Pa (y_lss rfl rfl) ?_
  refine rj_nil (hK40 _ _ _ ?_)
  refine cj_cond rfl (fun hc106 => ?_) (fun hc106 => ?_)
  try simp only [dT, dF, nT, nF, tF, fT] at hc106
  refine cj_skip (hK39 _ _ _ (cj_seq fun K42 hK42 => cj_block (cj_seq fun K43 hK43 => cj_region ?_)))
  refine Pm ?_
  refine Pm ?_
  refine Pm ?_
  first | refine Pa (y_sub64 rfl rfl om_) ?_ | refine Pa (y_sub rfl rfl) ?_
  refine rj_eq 113 rfl (v' := .int .i64 (e : Int)) (by congr 1; omega) ?_
  refine Ra Tryz.call177 (ih s fr (by omega) hs0 (by unfold big; omega)) ?_
  rintro r R2 L' hR2 ⟨⟨y, cy, z, rfl, hy, hcase⟩, rfl⟩
  obtain ⟨k1, n1, st1, l1, qq1, cap1, rfl, rfl, hb1, hl1⟩ := hy.inv
  try simp only [cA, nA]
  refine Pm ?_
  refine Pa (y_extract rfl rfl) ?_
  refine Pa (y_extract rfl rfl) ?_
  refine rj_alloc (wn0 rfl) rfl Tryz.zeroValue150 rfl (fun b15 => ?_)
  refine rj_stores m150 rfl (wn0 rfl) rfl rfl (by (first | (simp [Value.oneCell']; done) | (intro u hu; simp only [List.mem_cons, List.not_mem_nil, or_false] at hu; rcases hu with rfl | rfl | rfl | rfl <;> first | rfl | assumption))) fd_ (by (simp)) rfl ?_
  refine Ps ?_
  refine rj_nil (hK43 _ _ _ (cj_seq fun K44 hK44 => cj_seq fun K45 hK45 => cj_region ?_))
  refine Pm ?_
  refine Pa (y_lss rfl rfl) ?_
  refine rj_nil (hK45 _ _ _ ?_)
  refine cj_cond rfl (fun hc118 => ?_) (fun hc118 => ?_)
  (try simp only [dT, dF, nT, nF, tF, fT] at hc118)
  refine cj_seq fun K47 hK47 => cj_region ?_
  first | refine Pa (Lb m150) ?_ | refine Pa (y_loads_slc m150 rfl fd_ rfl rfl om_) ?_
  refine rj_stores m150 rfl (wn0 rfl) rfl rfl (by (first | (simp [Value.oneCell']; done) | (intro u hu; simp only [List.mem_cons, List.not_mem_nil, or_false] at hu; rcases hu with rfl | rfl | rfl | rfl <;> first | rfl | assumption))) fd_ (by (simp)) rfl ?_
  refine Ps ?_
  refine rj_nil (hK47 _ _ _ ?_)
  refine cj_env (eL 6 rfl (eL 7 rfl eN)) ?_
  refine cj_ret (hret _ _ _ ?_)
  refine Ea Tryz.results177 (.cons (rv_cells m150 rfl fd_ rfl rfl) (.cons (rv_tmp rfl) .nil)) [] (by first | exact Hp.le_refl _ | exact Hp.le_trans hr1 hR2) ?_
  exact ⟨NAt.none_ (by rcases hcase with h | ⟨e2, h1, h2, h3⟩; rw [hrd, rdL_none q1 (m' := n - ks.length - 1) (by (try simp at hc106); omega) h.1]; (try simp at hc118); omega), rfl⟩
  (try simp only [dT, dF, nT, nF, tF, fT] at hc118)
  obtain ⟨e2, he2, rfl, hre⟩ : ∃ e : Nat, e ≤ s.length ∧ z = e ∧ rdM _ (s.drop fr) = some (Nd.mk k1 n1 st1 l1, s.drop e) := by rcases hcase with h | h; (try simp at hc118); omega; exact h
  refine cj_skip (hK44 _ _ _ (cj_seq fun K48 hK48 => cj_region ?_))
  refine Pa (Ga Tryz.underlying150 Tryz.sizeOf148) ?_
  first | refine Pa (La o148) ?_ | refine Pa (Ls o148) ?_
  first | refine Pa (Lb m150) ?_ | refine Pa (y_loads_slc m150 rfl fd_ rfl rfl om_) ?_
  refine rj_buildSlice (sz := 4) (wn0 rfl) rfl Tryz.underlying148 Tryz.sizeOf150 Tryz.zeroValue150 rfl rfl rfl (by decide) (by decide) (fun b123 => ?_)
  refine rj_append (sz := 4) (by_ := 56) ⟨Tryz.underlying148, _, _, rfl, rfl, rfl, rfl, rfl⟩ (wn0 rfl) rfl rfl rfl fd_ (src_slc Tryz.underlying148 fd_ (rep_one hy)) rfl om_ (by simp only [maxLen]; omega) (fun v124 ho124 hh124 => ?_)
  rw [flat_snoc css, len_snoc ks (Nd.mk k1 n1 st1 l1)]
  refine Pa (Ga Tryz.underlying150 Tryz.sizeOf148) ?_
  refine Sa o148 ?_
  refine rj_nil (hK48 _ _ _ (cj_region ?_))
  refine Pm ?_
  refine Ps ?_
  refine rj_nil (hK42 _ _ _ (cj_region ?_))
  refine Pm ?_
  first | refine Pa (y_add64 rfl rfl om_) ?_ | refine Pa (y_add rfl rfl) ?_
  refine Ps ?_
  refine rj_nil ?_
  refine ej_on (q' := roundK _ _ _ _ _ _ _) rfl ?_
  refine ej_round ((ks ++ [Nd.mk k1 n1 st1 l1], css ++ [[.int .i64 k1, .int .u64 ((n1 : Nat) : Int), .string (str st1), .slice qq1 l1.length cap1]], v124, e2, R2)) (⟨Hp.le_trans hr1 hR2, by dsimp only; rw [List.length_append]; (try simp at hc106); simp; omega, (hk.mono hR2).snoc hy, he2, by dsimp only; rw [List.length_append]; exact rdL_app q1 (by (try simp at hc106); simp; omega) hre⟩) (by dsimp only; rw [List.length_append]; (try simp at hc106); simp; omega) (eC rfl (eC rfl (eC rfl (eC rfl (eC rfl (eC rfl (eC rfl (Env.le_cons (Eq.trans rfl (congrArg some (by first | rfl | (exact congrArg (Value.int .i64) (by simp))))) eN)))))))) rfl sb_
  try simp only [dT, dF, nT, nF, tF, fT] at hc106
  refine cj_exit (hK37 _ _ _ (cj_seq fun K49 hK49 => cj_region ?_))
  refine rj_freeze (e := 150) (sz := 4) (n := ks.length) (v := v) (xs := css.flatten) fd_ (fun R2 hR2 hfr2 hxl => ?_)
  have hkb : ks.length ≤ big := by unfold big; omega
  obtain ⟨q, cap, rfl, hrl⟩ := (hk.mono hR2).repL hfr2 hkb
  first | refine Pa (Lb m150) ?_ | refine Pa (y_loads_slc m150 rfl fd_ rfl rfl om_) ?_
  refine Pm ?_
  refine rj_stores m150 rfl (wn0 rfl) rfl rfl (by (first | (simp [Value.oneCell']; done) | (intro u hu; simp only [List.mem_cons, List.not_mem_nil, or_false] at hu; rcases hu with rfl | rfl | rfl | rfl <;> first | rfl | assumption))) fd_ (by (simp)) rfl ?_
  refine Ps ?_
  refine rj_nil (hK49 _ _ _ (cj_ret (hret _ _ _ ?_)))
  refine Ea Tryz.results177 (.cons (rv_cells m150 rfl fd_ rfl rfl) (.cons (rv_tmp rfl) .nil)) [] (by first | exact Hp.le_refl _ | exact Hp.le_trans hr1 hR2) ?_
  exact ⟨⟨.mk 2 0 [] ks, _, _, rfl, hrl.node (by simp [big]), .inr ⟨fr, hfr, rfl, by rw [hrd, q1, show n - ks.length = 0 by (try simp at hc106); omega]; simp [rdL]⟩⟩, rfl⟩
  try simp only [dT, dF, nT, nF, tF, fT] at hc101
  refine cj_skip (hK11 _ _ _ (cj_seq fun K50 hK50 => cj_region ?_))
  first | refine Pa (Lb m150) ?_ | refine Pa (y_loads_slc m150 rfl fd_ rfl rfl om_) ?_
  refine rj_stores m150 rfl (wn0 rfl) rfl rfl (by (first | (simp [Value.oneCell']; done) | (intro u hu; simp only [List.mem_cons, List.not_mem_nil, or_false] at hu; rcases hu with rfl | rfl | rfl | rfl <;> first | rfl | assumption))) fd_ (by (simp)) rfl ?_
  refine Ps ?_
  refine rj_nil (hK50 _ _ _ (cj_ret (hret _ _ _ ?_)))
  refine Ea Tryz.results177 (.cons (rv_cells m150 rfl fd_ rfl rfl) (.cons (rv_tmp rfl) .nil)) [] (by first | exact Hp.le_refl _ | exact Hp.le_trans hr1 hR2) ?_
  exact ⟨NAt.none_ (by rw [hu1]; exact rd_other hz (by omega) (by omega) (by omega)), rfl⟩
theorem rnodeAt_t (d : Nat) : RNodeAt d := by
  induction d with
  | zero => exact rnodeAt_zero
  | succ e ih => exact rnodeAt_succ e ih
theorem readM_cut {s : List UInt8} {y : Nd} {z : Int} (h : (rdM 20 s = none ∧ z = -1 ∧ y = ndZero) ∨ ∃ e : Nat, e ≤ s.length ∧ z = e ∧ rdM 20 s = some (y, s.drop e)) (hz : ¬ z = s.length) : readM s = (ndZero, false) := by
  rcases h with ⟨h, _, _⟩ | ⟨e, h1, h2, h3⟩
  · exact readM_none fun _ => h
  · exact readM_rest (fun _ => h3) (fun he => by have := congrArg List.length he; simp at this; omega)
theorem readM_full {s : List UInt8} {y : Nd} {z : Int} (h : (rdM 20 s = none ∧ z = -1 ∧ y = ndZero) ∨ ∃ e : Nat, e ≤ s.length ∧ z = e ∧ rdM 20 s = some (y, s.drop e)) (hl : ¬ s.length > 16777216) (hz : z = s.length) : readM s = (y, true) := by
  rcases h with ⟨_, h, _⟩ | ⟨e, h1, h2, h3⟩
  · omega
  · have : e = s.length := by omega
    subst this
    exact readM_some hl (by rw [h3]; simp)
theorem rread_t {R : Hp} (s : List UInt8) (hs : s.length ≤ big) : Tri Tryz.prog 173 [.string (str s)] R []
    (fun r R' L' => ∃ cy, r = .tuple #[.agg ⟨cy⟩, .bool (readM s).2] ∧ RepN R' (readM s).1 cy ∧ L' = []) := by
  have hbg : s.length ≤ 1000000000000 := hs
  refine tri_of Tryz.func173 rfl Tryz.ntmps173 rfl (fun σ F Q hret hend hpan => ?_)
  try simp only [cA, nA]
  refine cj_seq fun K1 hK1 => cj_region ?_
  refine rj_alloc (wn0 rfl) rfl Tryz.zeroValue150 rfl (fun b2 => ?_)
  refine Ps ?_
  refine rj_nil (hK1 _ _ _ (cj_seq fun K2 hK2 => cj_seq fun K3 hK3 => cj_region ?_))
  refine Pm ?_
  refine Pa (y_slen Tryz.underlying9 rfl) ?_
  refine Pa (y_gtr rfl rfl) ?_
  refine rj_nil (hK3 _ _ _ ?_)
  refine cj_cond rfl (fun hc8 => ?_) (fun hc8 => ?_)
  try simp only [dT, dF, nT, nF, tF, fT] at hc8
  refine cj_seq fun K5 hK5 => cj_region ?_
  refine Pa (y_build (cells := [_, _, _, _]) [(0, 1), (1, 1), (2, 1), (3, 1)] Tryz.underlying150 Tryz.zeroValue150 (fun _ => rfl) rfl rfl) ?_
  refine rj_stores m150 rfl (wn0 rfl) rfl rfl (by (first | (simp [Value.oneCell']; done) | (intro u hu; simp only [List.mem_cons, List.not_mem_nil, or_false] at hu; rcases hu with rfl | rfl | rfl | rfl <;> first | rfl | assumption))) fd_ (by (simp)) rfl ?_
  refine Ps ?_
  refine rj_nil (hK5 _ _ _ (cj_ret (hret _ _ _ ?_)))
  refine Ea Tryz.results173 (.cons (rv_cells m150 rfl fd_ rfl rfl) (.cons (rv_tmp rfl) .nil)) [] le_ ?_
  rw [readM_none (fun hl => absurd (show s.length > 16777216 by (try simp at hc8); omega) hl)]; exact ⟨_, rfl, zero_rep R, rfl⟩
  try simp only [dT, dF, nT, nF, tF, fT] at hc8
  refine cj_skip (hK2 _ _ _ (cj_seq fun K6 hK6 => cj_region ?_))
  refine Pm ?_
  refine Ra Tryz.call177 (rnodeAt_t 20 s 0 (by decide) hs (by decide)) ?_
  rintro r R' L' hR ⟨⟨y, cy, z, rfl, hy, hcase⟩, rfl⟩
  obtain ⟨k1, n1, st1, l1, qq1, cap1, rfl, rfl, hb1, hl1⟩ := hy.inv
  rw [List.drop_zero] at hcase
  try simp only [cA, nA]
  refine Pm ?_
  refine Pa (y_extract rfl rfl) ?_
  refine Pa (y_extract rfl rfl) ?_
  refine rj_alloc (wn0 rfl) rfl Tryz.zeroValue150 rfl (fun b4 => ?_)
  refine rj_stores m150 rfl (wn0 rfl) rfl rfl (by (first | (simp [Value.oneCell']; done) | (intro u hu; simp only [List.mem_cons, List.not_mem_nil, or_false] at hu; rcases hu with rfl | rfl | rfl | rfl <;> first | rfl | assumption))) fd_ (by (simp)) rfl ?_
  refine Ps ?_
  refine rj_nil (hK6 _ _ _ (cj_seq fun K7 hK7 => cj_seq fun K8 hK8 => cj_region ?_))
  refine Pm ?_
  refine Pm ?_
  refine Pa (y_slen Tryz.underlying9 rfl) ?_
  refine Pa (y_neq rfl rfl) ?_
  refine rj_nil (hK8 _ _ _ ?_)
  refine cj_cond rfl (fun hc18 => ?_) (fun hc18 => ?_)
  try simp only [dT, dF, nT, nF, tF, fT] at hc18
  refine cj_seq fun K10 hK10 => cj_region ?_
  refine Pa (y_build (cells := [_, _, _, _]) [(0, 1), (1, 1), (2, 1), (3, 1)] Tryz.underlying150 Tryz.zeroValue150 (fun _ => rfl) rfl rfl) ?_
  refine rj_stores m150 rfl (wn0 rfl) rfl rfl (by (first | (simp [Value.oneCell']; done) | (intro u hu; simp only [List.mem_cons, List.not_mem_nil, or_false] at hu; rcases hu with rfl | rfl | rfl | rfl <;> first | rfl | assumption))) fd_ (by (simp)) rfl ?_
  refine Ps ?_
  refine rj_nil (hK10 _ _ _ (cj_ret (hret _ _ _ ?_)))
  refine Ea Tryz.results173 (.cons (rv_cells m150 rfl fd_ rfl rfl) (.cons (rv_tmp rfl) .nil)) [] le_ ?_
  rw [readM_cut hcase (by (try simp at hc18); omega)]; exact ⟨_, rfl, zero_rep R', rfl⟩
  try simp only [dT, dF, nT, nF, tF, fT] at hc18
  refine cj_skip (hK7 _ _ _ (cj_seq fun K11 hK11 => cj_region ?_))
  first | refine Pa (Lb m150) ?_ | refine Pa (y_loads_slc m150 rfl fd_ rfl rfl om_) ?_
  refine rj_stores m150 rfl (wn0 rfl) rfl rfl (by (first | (simp [Value.oneCell']; done) | (intro u hu; simp only [List.mem_cons, List.not_mem_nil, or_false] at hu; rcases hu with rfl | rfl | rfl | rfl <;> first | rfl | assumption))) fd_ (by (simp)) rfl ?_
  refine Ps ?_
  refine rj_nil (hK11 _ _ _ ?_)
  refine cj_env (eL 2 rfl (eL 3 rfl eN)) ?_
  refine cj_ret (hret _ _ _ ?_)
  refine Ea Tryz.results173 (.cons (rv_cells m150 rfl fd_ rfl rfl) (.cons (rv_tmp rfl) .nil)) [] le_ ?_
  rw [readM_full hcase (by (try simp at hc8); omega) (by (try simp at hc18); omega)]; exact ⟨_, rfl, hy, rfl⟩
def gA (As : List Asn) : Asn := fun h => stars As h
def bigA (l : List (List Asn)) : Asn := gA (l.map gA)
theorem find_idx {l : List (List Asn)} {i : Nat} {As : List Asn} (h : l[i]? = some As) : Find (gA As) (l.map gA) ((l.eraseIdx i).map gA) := by
  induction l generalizing i with
  | nil => simp at h
  | cons B l ih =>
    cases i with
    | zero => simp at h; subst h; exact .head _
    | succ i => exact .tail (ih (by simpa using h))
theorem find_set {l : List (List Asn)} {i : Nat} (hi : i < l.length) (As : List Asn) : Find (gA As) ((l.set i As).map gA) ((l.eraseIdx i).map gA) := by
  induction l generalizing i with
  | nil => simp at hi
  | cons B l ih =>
    cases i with
    | zero => exact .head _
    | succ i => exact .tail (ih (by simpa using hi))
theorem bigA_out {l : List (List Asn)} {i : Nat} {As : List Asn} (h : l[i]? = some As) (g : Hp) (k : bigA l g) : stars [gA As, bigA (l.eraseIdx i)] g := by
  obtain ⟨h1, h2, a, b, c, d, e⟩ := (find_idx h).stars (h := g) k
  exact ⟨h1, h2, a, b, c, d, h2, Hp.emp, Hp.le_refl _, (fun _ _ k => by cases k), (fun _ => .inr rfl), e, trivial⟩
theorem bigA_in {l : List (List Asn)} {i : Nat} (hi : i < l.length) {As : List Asn} (g : Hp) (k : stars [gA As, bigA (l.eraseIdx i)] g) : bigA (l.set i As) g := by
  obtain ⟨h1, h2, a, b, c, d, k1, _, a2, _, _, d2, _⟩ := k
  exact (find_set hi As).back ⟨h1, k1, a, Hp.le_trans a2 b, Hp.dis_le c a2, d, d2⟩
section
variable {c : Cx} {ops : Array Oper} {Q : Exit → Act → World → Prop} {E : Env} {R : Hp} {L M : List Asn} {rest : List Oper} {ty : TypeId} {p : String} {af : Array Edge} {g : Option (Nat × Bool)}
theorem Sat.bigIn {σ : World} {w : World} {l : List (List Asn)} {i : Nat} {As : List Asn} (hi : i < l.length) (hS : Sub L (As ++ bigA (l.eraseIdx i) :: M)) (hs : Sat σ R L w) : Sat σ R (bigA (l.set i As) :: M) w :=
  Sat.join (A := bigA (l.set i As)) (As := [gA As, bigA (l.eraseIdx i)]) (bigA_in hi) (Sat.join (A := gA As) (As := As) (fun _ k => k) (hs.sub hS))
theorem run_invoke {a : Act} {w : World} {d : Option Tmp} {f : FuncId} {x : Operand} {nm : String} {xs : List Operand} {ts : Array TypeId} {t : TypeId} {v r : Value} {vs : List Value} (hx : a.eval x = .iface t v) (hm : ∀ w, (method (c.P.types.size + Made.depth) t v nm).run c.P w = .ok (f, r) w) (hc : ∀ args w, (callFunc f args).run c.P w = .ok (.enter f args) w)
    (hv : xs.map a.eval = vs) : (execOp a.eval ⟨d, .call { callee := .invoke x nm, args := ⟨xs⟩, argTypes := ts }, ty, p, af, g⟩).run c.P w = .ok (.enter f ⟨r :: vs⟩) w := by
  have e : (Array.mk xs).map a.eval = ⟨vs⟩ := by rw [← hv]; simp
  have e2 : (#[Value.iface t v] ++ (⟨vs⟩ : Array Value)).extract 1 (#[Value.iface t v] ++ (⟨vs⟩ : Array Value)).size = ⟨vs⟩ := by
    apply Array.ext'
    simp
  have e3 : (#[Value.iface t v] ++ (⟨vs⟩ : Array Value))[0]? = some (.iface t v) := by simp
  simp only [execOp, resolve, hx, e, invoke, Sem.run_bind, Sem.run_pure, Result.andThen, e3, e2, callMethod]
  simp [hm w, hc, Sem.run_bind, Result.andThen]
theorem rj_invoke {d : Nat} {f : FuncId} {x : Operand} {nm : String} {xs : List Operand} {ts : Array TypeId} {t : TypeId} {v0 r : Value} {vs : List Value} {pre F : List Asn} {post : Value → Hp → List Asn → Prop} {pan : List PanicEntry → Hp → List Asn → Prop}
    (hw : Wn c ops E ⟨some d, .call { callee := .invoke x nm, args := ⟨xs⟩, argTypes := ts }, ty, p, af, g⟩ true) (hn : Nat.blt d c.n = true) (hx : ev E x = some (.iface t v0)) (hm : ∀ w, (method (c.P.types.size + Made.depth) t v0 nm).run c.P w = .ok (f, r) w) (hc : ∀ args w, (callFunc f args).run c.P w = .ok (.enter f args) w)
    (hv : evs E xs = some vs) (ht : Tri c.P f (r :: vs) R pre post pan) (hs : Split L pre F)
    (hp : ∀ ch R' L', R.le R' → pan ch R' L' → EJ c (Q (.panic ch)) E R' (L' ++ F))
    (h : ∀ v R' L', R.le R' → post v R' L' → RJ c ops Q rest ((d, v) :: E) R' (L' ++ F)) :
    RJ c ops Q (⟨some d, .call { callee := .invoke x nm, args := ⟨xs⟩, argTypes := ts }, ty, p, af, g⟩ :: rest) E R L := by
  intro a w hf hsat
  unfold wpList
  rw [if_pos (hw a hf)]
  refine .inl ?_
  unfold Oper.wp
  rw [run_invoke (hf.ev hx) hm hc (hf.evs hv)]
  simp only [Oper.upon]
  refine (ht _ _ _ (hs.sat hsat)).mono fun e w' ⟨R', L', hR, hw', hpost⟩ => ?_
  cases e with
  | returned v => exact h v R' L' hR hpost _ _ (hf.put hn v) hw'
  | panicked ch => exact hp ch R' L' hR hpost _ _ hf hw'
  | outgrown => exact hpost.elim
end
end V
end Go.Proofs.YtenfjpigffjgmaaGreat
