/- Parts that the texts behind stand on: T11b, T11c, T11d, T11e, T11f, T11g, T11h, T11i, T11j, T11k, T11n, T11q, T11r, T11t, T11o, T11u, T11w, T11x. -/
import Derived.Test.YtenfjpigffjgmaaGreatWL11Compacts3
set_option linter.unusedSimpArgs false
set_option linter.unusedVariables false
set_option maxRecDepth 100000
namespace Go.Proofs.YtenfjpigffjgmaaGreat
open Go.RowKit
namespace V
set_option maxHeartbeats 4000000
theorem Qax (A : Asn) : ∀ (L F : List Asn), Sub (A :: (L ++ F)) (L ++ A :: F)
 | [], F => .refl _
 | B :: L, F => zP (.tail (.head _)) (Qax A L F)
theorem QTri.eq3 {P : Program} {f : FuncId} {args : List Value} {R : Hp} {L : List Asn} {v v' : Value} (h : QTri P f args R L v) (e : v = v') : QTri P f args R L v' := e ▸ h
theorem QTri.big {P : Program} {f : FuncId} {args : List Value} {R : Hp} {l : List (List Asn)} {i : Nat} {As L : List Asn} {v : Value} (hi : l[i]? = some As) (h : QTri P f args R (As ++ L) v) : QTri P f args R (Yq l :: L) v := fun σ F w hs => by
 have h1 : Sat σ R (As ++ Yq (l.eraseIdx i) :: (L ++ F)) w := Sat.split (A := gA As) (fun _ k => k) (Sat.split (A := Yq l) (As := [gA As, Yq (l.eraseIdx i)]) (QbC hi) hs)
 have h2 : Sat σ R ((As ++ L) ++ Yq (l.eraseIdx i) :: F) w := by rw [List.append_assoc]; exact h1.sub (ja As (Qax _ L F))
 refine (h σ _ w h2).mono fun e w' ⟨he, hw⟩ => ⟨he, ?_⟩
 have h3 : Sat σ R (As ++ Yq (l.eraseIdx i) :: (L ++ F)) w' := by rw [List.append_assoc] at hw; exact hw.sub (ja As (jb _ L F))
 have h4 := h3.bigIn (l := l) (i := i) (As := As) (M := L ++ F) (List.getElem?_eq_some_iff.1 hi).1 (.refl _)
 rw [show l.set i As = l from by apply List.ext_getElem?; intro j; rw [List.getElem?_set]; split <;> first | rfl | (rename_i h; subst h; rw [if_pos (List.getElem?_eq_some_iff.1 hi).1, hi])] at h4
 exact h4
theorem Tri.big {P : Program} {f : FuncId} {args : List Value} {R : Hp} {l : List (List Asn)} {i : Nat} {As L : List Asn} {post : Value → Hp → List Asn → List Asn → Prop} (hi : l[i]? = some As)
  (h : Tri P f args R (As ++ L) (fun r R' L' => ∃ As' L1, post r R' As' L1 ∧ L' = As' ++ L1)) : Tri P f args R (Yq l :: L) (fun r R' L' => ∃ As' L1, post r R' As' L1 ∧ L' = Yq (l.set i As') :: L1) := fun σ F w hs => by
 have h1 : Sat σ R (As ++ Yq (l.eraseIdx i) :: (L ++ F)) w := Sat.split (A := gA As) (fun _ k => k) (Sat.split (A := Yq l) (As := [gA As, Yq (l.eraseIdx i)]) (QbC hi) hs)
 have h2 : Sat σ R ((As ++ L) ++ Yq (l.eraseIdx i) :: F) w := by rw [List.append_assoc]; exact h1.sub (ja As (Qax _ L F))
 refine (h σ _ w h2).mono fun e w' ⟨R', L', hR, hw, hp⟩ => ?_
 cases e with
 | panicked ch => exact hp.elim
 | outgrown => exact hp.elim
 | returned v =>
  obtain ⟨As', L1, hpost, rfl⟩ := hp
  have h3 : Sat σ R' (As' ++ Yq (l.eraseIdx i) :: (L1 ++ F)) w' := by rw [List.append_assoc] at hw; exact hw.sub (ja As' (jb _ L1 F))
  exact ⟨R', Yq (l.set i As') :: L1, hR, h3.bigIn (l := l) (i := i) (As := As') (M := L1 ++ F) (List.getElem?_eq_some_iff.1 hi).1 (.refl _), As', L1, hpost, rfl⟩
theorem QfI {c : Cx} {q : Act → World → Prop} {E : Env} {R : Hp} {L M : List Asn} {A : Asn} {p : Prop} (f : Find A L M) (k : ∀ h, A h → p) (h : p → EJ c q E R L) : EJ c q E R L := fun a w hf hs => h (Sat.pure k (hs.find f)) a w hf hs
structure MV where
 m : Nat
 b : NB
 l : Nat
 v : NV
 vl : Value
structure GV where
 g : Nat
 va : Value
 n : Nat
 vn : Value
 css : List (List Value)
 vo : Value
 cs : List MV
@[reducible] def ifV (l : Nat) : Value := .iface 103 (.pointer (some ⟨l, 0, none⟩))
@[reducible] def mbB (c : MV) (ap : Int) : Asn := blk c.m [.pointer (some ⟨c.b.d, 0, none⟩), .pointer (some ⟨c.b.x, 0, none⟩), ifV c.l, .int .u64 ap] 87
@[reducible] def Ye (c : MV) (m : MS) : List Asn := mbB c m.ap :: lsB c.l c.vl :: lsS c.vl m.l :: ndI c.b c.v m.x m.D
def ZR (cs : List MV) (ms : List MS) : List (List Asn) := List.zipWith Ye cs ms
theorem qL {cs : List MV} {ms : List MS} {i : Nat} {c : MV} {m : MS} (hc : cs[i]? = some c) (hm : ms[i]? = some m) : (ZR cs ms)[i]? = some (Ye c m) := by
 unfold ZR; rw [List.getElem?_zipWith, hc, hm]
theorem QiP {cs : List MV} {ms : List MS} {i : Nat} {c : MV} {m : MS} : (ZR cs ms).set i (Ye c m) = ZR (cs.set i c) (ms.set i m) := by
 unfold ZR
 apply List.ext_getElem?
 intro j
 rw [List.getElem?_set, List.getElem?_zipWith, List.getElem?_zipWith, List.getElem?_set, List.getElem?_set]
 by_cases h : i = j
 ·subst h
  rw [if_pos rfl, if_pos rfl, if_pos rfl]
  rw [List.length_zipWith]
  by_cases h1 : i < cs.length
  ·by_cases h2 : i < ms.length
   ·rw [if_pos (by omega), if_pos h1, if_pos h2]
   ·rw [if_neg (by omega), if_pos h1, if_neg h2]
  ·rw [if_neg (by omega), if_neg h1]
 ·rw [if_neg h, if_neg h, if_neg h]
def ZI (cs : List MV) : List Value := cs.map fun c => Value.pointer (some ⟨c.m, 0, none⟩)
@[reducible] def fnV : Value := .func (.func 20) ⟨[]⟩ ⟨[]⟩
@[reducible] def grB (w : GV) : Asn := blk w.g [w.va, fnV, .pointer (some ⟨w.n, 0, none⟩), w.vo] 90
@[reducible] def grS (w : GV) : Asn := slc 81 1 w.va w.cs.length (ZI w.cs)
def ocC (o : OC) : List Value := [.int .i64 o.node, .int .u64 o.index, .int .u64 o.term, .string (str o.out)]
def ocV (l : List OC) : List Value := (l.map ocC).flatten
@[reducible] def ocS (vo : Value) (l : List OC) : Asn := slc 41 4 vo l.length (ocV l)
@[reducible] def grR (w : GV) (G : GS) : List Asn := [grB w, grS w, Yz w.n w.vn G.last, Yt w.vn G.st w.css, ocS w.vo G.out]
@[reducible] def grL (w : GV) (G : GS) : List Asn := Yq (ZR w.cs G.ms) :: grR w G
structure GOk (R : Hp) (w : GV) (G : GS) : Prop where
 len : w.cs.length = G.ms.length
 nd : ∀ (i : Nat) (c : MV) (m : MS), w.cs[i]? = some c → G.ms[i]? = some m → NOk R c.v m.x
 els : Els oneE R G.st w.css
theorem GOk.at {R : Hp} {w : GV} {G : GS} (h : GOk R w G) {i : Nat} {m : MS} (hm : G.ms[i]? = some m) : ∃ c, w.cs[i]? = some c ∧ NOk R c.v m.x ∧ (ZR w.cs G.ms)[i]? = some (Ye c m) := by
 have hi := (List.getElem?_eq_some_iff.1 hm).1
 have hc : w.cs[i]? = some (w.cs[i]'(by rw [h.len]; exact hi)) := List.getElem?_eq_getElem _
 exact ⟨_, hc, h.nd i _ m hc hm, qL hc hm⟩
def yy (cs : List MV) (i : Int) : Value := if 0 ≤ i then (match cs[i.toNat]? with | some c => .pointer (some ⟨c.m, 0, none⟩) | none => .pointer none) else .pointer none
theorem Zk {cs : List MV} {i : Nat} {c : MV} (h : cs[i]? = some c) : yy cs (i : Int) = .pointer (some ⟨c.m, 0, none⟩) := by unfold yy; rw [if_pos (by omega), Int.toNat_natCast, h]
theorem qX {cs : List MV} {i : Int} (h : i < 0 ∨ (cs.length : Int) ≤ i) : yy cs i = .pointer none := by
 unfold yy
 by_cases h0 : 0 ≤ i
 ·rw [if_pos h0, List.getElem?_eq_none (by omega)]
 ·rw [if_neg h0]
theorem qu {R : Hp} (w : GV) (i : Int) : QTri Tryz.prog 33 [.pointer (some ⟨w.g, 0, none⟩), .int .i64 i] R [grB w, grS w] (yy w.cs i) := by
 refine Tri.q ?_
 refine Qn Tryz.func33 rfl Tryz.ntmps33 rfl (fun σ F Q hret hend hpan => ?_)
 try simp only [cA, nA]
 refine Qd fun K1 hK1 => Qc ?_
 refine Ps ?_
 refine Qe (hK1 _ _ _ (Qd fun K2 hK2 => Qd fun K3 hK3 => Qc ?_))
 refine Pm ?_
 refine Pa (XZ Tryz.underlying26 rfl rfl) ?_
 refine Pm ?_
 refine Pb (Qg rfl) ?_
 refine Pb (QU rfl rfl) ?_
 refine Pa (Qq rfl rfl) ?_
 refine Pm ?_
 refine QL 11 rfl (fun hg11 => ?_) (fun hg11 => ?_)
 try simp only [dT, dF, nT, nF, tF, fT] at hg11
 refine Pk ?_
 refine Pk ?_
 refine Pk ?_
 refine Pk ?_
 refine Pk ?_
 refine Pk ?_
 refine Pk ?_
 refine Pa (Qr rfl rfl) ?_
 refine Qe (hK3 _ _ _ (QC rfl (Qd fun K4 hK4 => Qc ?_)))
 refine Ps ?_
 refine Qe (hK4 _ _ _ (Qi (hret _ _ _ ?_)))
 refine Ea Tryz.results33 (.cons (Qh rfl) .nil) [grB w, grS w] le_ ?_
 rw [qX (.inl (by (try simp at hg11); omega))]; exact ⟨rfl, rfl, rfl⟩
 try simp only [dT, dF, nT, nF, tF, fT] at hg11
 refine Pb (Qg rfl) ?_
 refine Pb (Qg rfl) ?_
 refine Pb (Qf rfl) ?_
 refine Pb (Ga Tryz.underlying90 Tryz.sizeOf88) ?_
 first | refine Pb (La o88) ?_ | refine Pb (Ls o88) ?_
 first | refine Pb (QB Tryz.underlying88 rfl) ?_ | refine Pb (Qy Tryz.underlying88 rfl fd_) ?_
 refine Pb (Zi rfl rfl) ?_
 refine Pa (Qq rfl rfl) ?_
 refine Qe (hK3 _ _ _ ?_)
 refine Ql (eL 0 rfl (eL 1 rfl (eL 19 rfl eN))) ?_
 refine Qm rfl (fun hc19 => ?_) (fun hc19 => ?_)
 try simp only [dT, dF, nT, nF, tF, fT] at hc19
 refine Qd fun K6 hK6 => Qc ?_
 refine Ps ?_
 refine Qe (hK6 _ _ _ (Qi (hret _ _ _ ?_)))
 refine Ea Tryz.results33 (.cons (Qh rfl) .nil) [grB w, grS w] le_ ?_
 rw [qX (.inr (by (try simp at hc19); omega))]; exact ⟨rfl, rfl, rfl⟩
 try simp only [dT, dF, nT, nF, tF, fT] at hc19
 refine Qj (hK2 _ _ _ (Qd fun K7 hK7 => Qc ?_))
 obtain ⟨i, rfl⟩ := Int.eq_ofNat_of_zero_le (show 0 ≤ i by (try simp at hg11); omega)
 have hi2 : i < w.cs.length := by (try simp at hc19); omega
 obtain ⟨c, hc⟩ : ∃ c, w.cs[i]? = some c := ⟨_, List.getElem?_eq_getElem hi2⟩
 have hnth : nth (ZI w.cs) ((i : Int).toNat * 1 + 0) = some (.pointer (some ⟨c.m, 0, none⟩)) := by rw [Int.toNat_natCast, Zw]; simp [ZI, hc]
 refine Pm ?_
 refine Pa (Qf rfl) ?_
 refine Pa (Ga Tryz.underlying90 Tryz.sizeOf88) ?_
 first | refine Pa (La o88) ?_ | refine Pa (Ls o88) ?_
 refine Pm ?_
 refine Pa ((Qs (sz := 1) (n := w.cs.length) Tryz.underlying88 Tryz.sizeOf81 rfl rfl fd_ (by omega))) ?_
 refine Pa ((Xx o81 rfl fd_ hnth)) ?_
 refine Ps ?_
 refine Qe (hK7 _ _ _ (Qi (hret _ _ _ ?_)))
 refine Ea Tryz.results33 (.cons (Qh rfl) .nil) [grB w, grS w] le_ ?_
 rw [Zk hc]; exact ⟨rfl, rfl, rfl⟩
theorem QiU {R : Hp} (w : GV) (c : MV) (m : MS) (i : Nat) (hc : w.cs[i]? = some c) : QTri Tryz.prog 22 [.pointer (some ⟨w.g, 0, none⟩), .int .i64 (i : Int)] R (Ye c m ++ [grB w, grS w]) (.pointer (some ⟨c.b.x, 0, none⟩)) := by
 have ha := (qu (R := R) w (i : Int)).eq3 (Zk hc)
 refine Tri.q ?_
 refine Qn Tryz.func22 rfl Tryz.ntmps22 rfl (fun σ F Q hret hend hpan => ?_)
 try simp only [cA, nA]
 refine Qd fun K1 hK1 => Qc ?_
 refine Ps ?_
 refine Qe (hK1 _ _ _ (Qd fun K2 hK2 => Qd fun K3 hK3 => Qc ?_))
 refine Pm ?_
 refine Pm ?_
 refine Pa (Ca Tryz.call33 (ha)) ?_
 refine Ps ?_
 refine Qe (hK3 _ _ _ (Qd fun K4 hK4 => Qc ?_))
 refine Pm ?_
 refine Pa (qS Tryz.underlying81 rfl rfl) ?_
 refine Qe (hK4 _ _ _ (QC rfl (Qd fun K5 hK5 => Qc ?_)))
 refine Pm ?_
 refine Pa (Qf rfl) ?_
 refine Pa (Ga Tryz.underlying87 Tryz.sizeOf56) ?_
 first | refine Pa (La o56) ?_ | refine Pa (Ls o56) ?_
 refine Ps ?_
 refine Qe (hK5 _ _ _ (Qi (hret _ _ _ ?_)))
 refine Ea Tryz.results22 (.cons (Qh rfl) .nil) (Ye c m ++ [grB w, grS w]) le_ ?_
 exact ⟨rfl, rfl, rfl⟩
theorem Qe0 {R : Hp} (w : GV) (c : MV) (m : MS) (i : Nat) (hc : w.cs[i]? = some c) : QTri Tryz.prog 45 [.pointer (some ⟨w.g, 0, none⟩), .int .i64 (i : Int)] R (Ye c m ++ [grB w, grS w]) (ifV c.l) := by
 have ha := (qu (R := R) w (i : Int)).eq3 (Zk hc)
 refine Tri.q ?_
 refine Qn Tryz.func45 rfl Tryz.ntmps45 rfl (fun σ F Q hret hend hpan => ?_)
 try simp only [cA, nA]
 refine Qd fun K1 hK1 => Qc ?_
 refine Ps ?_
 refine Qe (hK1 _ _ _ (Qd fun K2 hK2 => Qd fun K3 hK3 => Qc ?_))
 refine Pm ?_
 refine Pm ?_
 refine Pa (Ca Tryz.call33 (ha)) ?_
 refine Ps ?_
 refine Qe (hK3 _ _ _ (Qd fun K4 hK4 => Qc ?_))
 refine Pm ?_
 refine Pa (qS Tryz.underlying81 rfl rfl) ?_
 refine Qe (hK4 _ _ _ (QC rfl (Qd fun K5 hK5 => Qc ?_)))
 refine Pm ?_
 refine Pa (Qf rfl) ?_
 refine Pa (Ga Tryz.underlying87 Tryz.sizeOf85) ?_
 first | refine Pa (La o85) ?_ | refine Pa (Ls o85) ?_
 refine Ps ?_
 refine Qe (hK5 _ _ _ (Qi (hret _ _ _ ?_)))
 refine Ea Tryz.results45 (.cons (Qh rfl) .nil) (Ye c m ++ [grB w, grS w]) le_ ?_
 exact ⟨rfl, rfl, rfl⟩
theorem Qe3 {R : Hp} (w : GV) (c : MV) (m : MS) (i : Nat) (hc : w.cs[i]? = some c) : QTri Tryz.prog 18 [.pointer (some ⟨w.g, 0, none⟩), .int .i64 (i : Int)] R (Ye c m ++ [grB w, grS w]) (.int .u64 m.ap) := by
 have ha := (qu (R := R) w (i : Int)).eq3 (Zk hc)
 refine Tri.q ?_
 refine Qn Tryz.func18 rfl Tryz.ntmps18 rfl (fun σ F Q hret hend hpan => ?_)
 try simp only [cA, nA]
 refine Qd fun K1 hK1 => Qc ?_
 refine Ps ?_
 refine Qe (hK1 _ _ _ (Qd fun K2 hK2 => Qd fun K3 hK3 => Qc ?_))
 refine Pm ?_
 refine Pm ?_
 refine Pa (Ca Tryz.call33 (ha)) ?_
 refine Ps ?_
 refine Qe (hK3 _ _ _ (Qd fun K4 hK4 => Qc ?_))
 refine Pm ?_
 refine Pa (qS Tryz.underlying81 rfl rfl) ?_
 refine Qe (hK4 _ _ _ (QC rfl (Qd fun K5 hK5 => Qc ?_)))
 refine Pm ?_
 refine Pa (Qf rfl) ?_
 refine Pa (Ga Tryz.underlying87 Tryz.sizeOf36) ?_
 first | refine Pa (La o36) ?_ | refine Pa (Ls o36) ?_
 refine Ps ?_
 refine Qe (hK5 _ _ _ (Qi (hret _ _ _ ?_)))
 refine Ea Tryz.results18 (.cons (Qh rfl) .nil) (Ye c m ++ [grB w, grS w]) le_ ?_
 exact ⟨rfl, rfl, rfl⟩
theorem QfA {R : Hp} (w : GV) : QTri Tryz.prog 28 [.pointer (some ⟨w.g, 0, none⟩)] R [grB w] (.pointer (some ⟨w.n, 0, none⟩)) := by
 refine Tri.q ?_
 refine Qn Tryz.func28 rfl Tryz.ntmps28 rfl (fun σ F Q hret hend hpan => ?_)
 try simp only [cA, nA]
 refine Qd fun K1 hK1 => Qc ?_
 refine Ps ?_
 refine Qe (hK1 _ _ _ (Qd fun K2 hK2 => Qd fun K3 hK3 => Qc ?_))
 refine Pm ?_
 refine Pa (XZ Tryz.underlying26 rfl rfl) ?_
 refine Qe (hK3 _ _ _ (Qt rfl (Qj (hK2 _ _ _ (Qd fun K4 hK4 => Qc ?_)))))
 refine Pm ?_
 refine Pa (Qf rfl) ?_
 refine Pa (Ga Tryz.underlying90 Tryz.sizeOf66) ?_
 first | refine Pa (La o66) ?_ | refine Pa (Ls o66) ?_
 refine Ps ?_
 refine Qe (hK4 _ _ _ (Qi (hret _ _ _ ?_)))
 refine Ea Tryz.results28 (.cons (Qh rfl) .nil) [grB w] le_ ?_
 exact ⟨rfl, rfl, rfl⟩
theorem QmB {R : Hp} (w : GV) (c : MV) (m : MS) (i : Nat) (hc : w.cs[i]? = some c) : QTri Tryz.prog 17 [.pointer (some ⟨w.g, 0, none⟩), .int .i64 (i : Int)] R (Ye c m ++ [grB w, grS w]) c.vl := by
 refine Tri.q ?_
 refine Qn Tryz.func17 rfl Tryz.ntmps17 rfl (fun σ F Q hret hend hpan => ?_)
 try simp only [cA, nA]
 refine Qd fun K1 hK1 => Qc ?_
 refine Ps ?_
 refine Qe (hK1 _ _ _ (Qd fun K2 hK2 => Qd fun K3 hK3 => Qc ?_))
 refine Pm ?_
 refine Pm ?_
 refine Pa (Ca Tryz.call45 (Qe0 w c m i hc)) ?_
 refine Qe (hK3 _ _ _ (Qp (Qd fun K4 hK4 => Qc ?_)))
 refine Pa ((QcF (r := .tuple ⟨[.pointer (some ⟨c.l, 0, none⟩), .bool true]⟩) (fun w => by kernel_rfl) rfl)) ?_
 refine Pa (Qo rfl rfl) ?_
 refine Pa (Qo rfl rfl) ?_
 refine Qe (hK4 _ _ _ (QC rfl (Qd fun K5 hK5 => Qc ?_)))
 refine Ps ?_
 refine Qe (hK5 _ _ _ (Qd fun K6 hK6 => Qc ?_))
 refine Pm ?_
 refine Pa (Qf rfl) ?_
 refine Pa (Ga Tryz.underlying105 Tryz.sizeOf42) ?_
 first | refine Pa (La o42) ?_ | refine Pa (Ls o42) ?_
 refine Ps ?_
 refine Qe (hK6 _ _ _ (Qi (hret _ _ _ ?_)))
 refine Ea Tryz.results17 (.cons (Qh rfl) .nil) (Ye c m ++ [grB w, grS w]) le_ ?_
 exact ⟨rfl, rfl, rfl⟩
end V
end Go.Proofs.YtenfjpigffjgmaaGreat
set_option linter.unusedSimpArgs false
set_option linter.unusedVariables false
set_option maxRecDepth 100000
namespace Go.Proofs.YtenfjpigffjgmaaGreat
open Go.RowKit
namespace V
set_option maxHeartbeats 4000000
def MS.apply (m : MS) (i : Int) (o : List OC) (k : Nat) : MS × List OC := (m.todo.take k).foldl (XY i) (m, o)
theorem Ql7 (i : Int) (r : MS × List OC) (e : Ent) : (XY i r e).1.x = r.1.x ∧ (XY i r e).1.D = r.1.D ∧ (XY i r e).1.ap = r.1.ap + 1 ∧ (XY i r e).1.l.length ≤ r.1.l.length + 1 ∧ (XY i r e).2.length ≤ r.2.length + 1 := by
 unfold XY
 split
 ·exact ⟨rfl, rfl, rfl, by simp, by simp⟩
 ·exact ⟨rfl, rfl, rfl, by simp, by simp⟩
theorem QaP (i : Int) : ∀ (l : List Ent) (r : MS × List OC), (l.foldl (XY i) r).1.x = r.1.x ∧ (l.foldl (XY i) r).1.D = r.1.D ∧ (l.foldl (XY i) r).1.ap = r.1.ap + l.length ∧ (l.foldl (XY i) r).1.l.length ≤ r.1.l.length + l.length ∧ (l.foldl (XY i) r).2.length ≤ r.2.length + l.length
 | [], r => ⟨rfl, rfl, by simp, by simp, by simp⟩
 | e :: l, r => by
  obtain ⟨a1, a2, a3, a4, a5⟩ := Ql7 i r e
  obtain ⟨b1, b2, b3, b4, b5⟩ := QaP i l (XY i r e)
  rw [List.foldl_cons]
  refine ⟨b1.trans a1, b2.trans a2, ?_, ?_, ?_⟩
  ·rw [b3, a3, List.length_cons]; omega
  ·rw [List.length_cons]; omega
  ·rw [List.length_cons]; omega
theorem Qh7 (i : Int) : ∀ (l : List Ent) (r : MS × List OC), r.1.l.length ≤ (l.foldl (XY i) r).1.l.length
 | [], r => Nat.le_refl _
 | e :: l, r => by
  rw [List.foldl_cons]
  refine Nat.le_trans ?_ (Qh7 i l (XY i r e))
  unfold XY
  split
  ·exact Nat.le_refl _
  ·simp
theorem QgO {m : MS} {i : Int} {o : List OC} {k : Nat} {e : Ent} (h : m.todo[k]? = some e) : m.apply i o (k + 1) = XY i (m.apply i o k) e := by
 unfold MS.apply
 rw [List.take_add_one, h]
 simp
theorem Qh6 {m : MS} {i : Int} {o : List OC} {k : Nat} (h : m.todo.length ≤ k) : m.apply i o k = m.todo.foldl (XY i) (m, o) := by unfold MS.apply; rw [List.take_of_length_le h]
theorem QjP {m : MS} (h : m.x.g.base ≤ m.ap) {k : Nat} (hk : m.ap + k < m.x.commit) : m.x.g.at (m.ap + k + 1) = m.todo[k]? := by
 unfold MS.todo
 rw [List.getElem?_take, if_pos (by omega), List.getElem?_drop]
 rw [show m.ap + (k : Int) + 1 = m.x.g.base + 1 + (((m.ap - m.x.g.base).toNat + k : Nat) : Int) by omega, LG.at_k]
theorem Qdy {m : MS} : m.todo.length ≤ (m.x.commit - m.ap).toNat ∧ m.todo.length ≤ m.x.g.all.length := by
 unfold MS.todo
 rw [List.length_take, List.length_drop]; omega
theorem jg (m : MS) : m.rest.x = m.x ∧ m.rest.D = m.D ∧ m.ap ≤ m.rest.ap ∧ m.x.g.base ≤ m.rest.ap := by
 unfold MS.rest
 split
 ·exact ⟨rfl, rfl, by dsimp only; omega, Int.le_refl _⟩
 ·exact ⟨rfl, rfl, Int.le_refl _, by omega⟩
theorem QiG (l : List OC) (o : OC) : ocV l ++ ocC o = ocV (l ++ [o]) := by simp [ocV]
theorem Qbv {R : Hp} (w : GV) (G : GS) (c : MV) (m : MS) (i : Nat) (ms : List Msg) (vl : Value) (hc : (w.cs[i]?).map MV.m = some c.m) (hms : FrX msgE R ms vl) (hsm : ∀ x ∈ ms, yE x) (hel : Els oneE R G.st w.css) (hv : NOk R c.v m.x)
  (hst : G.st.length + ms.length ≤ 1000000) (hla : 0 ≤ G.last ∧ G.last + ms.length ≤ 1000000) (hg : ¬ m.dn = true → m.x.g.ok ∧ m.x.commit ≤ 150000000000000 ∧ m.rest.l.length ≤ 100000) (hap : 0 ≤ m.ap ∧ m.ap ≤ 150000000000000) (hout : G.out.length ≤ 1000000000) :
  Tri Tryz.prog 44 [.pointer (some ⟨w.g, 0, none⟩), .int .i64 (i : Int), vl] R (Ye c m ++ grR w G)
   (fun r R' L' => ∃ vl' vn css vo, Els oneE R' (G.st ++ Xp G.last ms) css ∧ L' = Ye { c with vl := vl' } (XL i m G.out).1 ++ grR { w with vn := vn, css := css, vo := vo } { G with st := G.st ++ Xp G.last ms, last := G.last + ms.length, out := (XL i m G.out).2 }) := by
 obtain ⟨c0, hc0, hcm⟩ := Option.map_eq_some_iff.1 hc
 have hi2 : i < w.cs.length := (List.getElem?_eq_some_iff.1 hc0).1
 have hnth : nth (ZI w.cs) ((i : Int).toNat * 1 + 0) = some (.pointer (some ⟨c.m, 0, none⟩)) := by rw [Int.toNat_natCast, Zw]; simp [ZI, hc0, hcm]
 have hveo := hms.one
 obtain ⟨hrx, hrD, hrap, hrb⟩ := jg m
 refine Qn Tryz.func44 rfl Tryz.ntmps44 rfl (fun σ F Q hret hend hpan => ?_)
 try simp only [cA, nA]
 refine Qd fun K1 hK1 => Qc ?_
 refine Pm ?_
 refine Pa (Qf rfl) ?_
 refine Pa (Ga Tryz.underlying90 Tryz.sizeOf66) ?_
 first | refine Pa (La o66) ?_ | refine Pa (Ls o66) ?_
 refine Pm ?_
 refine Ra Tryz.call65 (QiJ w.n w.vn G.last G.st w.css hel vl ms hms hsm hla hst) ?_
 rintro r R2 L' hR2 ⟨vn, css, hels, rfl⟩
 have hv2 := hv.mono hR2
 try simp only [cA, nA]
 refine Qe (hK1 _ _ _ (Qd fun K2 hK2 => Qc ?_))
 refine Pm ?_
 refine Pa (Qf rfl) ?_
 refine Pa (Ga Tryz.underlying90 Tryz.sizeOf88) ?_
 first | refine Pa (La o88) ?_ | refine Pa (Ls o88) ?_
 refine Pm ?_
 refine Pa ((Qs (sz := 1) (n := w.cs.length) Tryz.underlying88 Tryz.sizeOf81 rfl rfl fd_ (by omega))) ?_
 refine Pa ((Xx o81 rfl fd_ hnth)) ?_
 refine Ps ?_
 refine Qe (hK2 _ _ _ (Qd fun K3 hK3 => Qd fun K4 hK4 => Qc ?_))
 refine Pm ?_
 refine Pa (Qf rfl) ?_
 refine Pa (Ga Tryz.underlying87 Tryz.sizeOf56) ?_
 first | refine Pa (La o56) ?_ | refine Pa (Ls o56) ?_
 refine Pa (Ca Tryz.call37 (qE c.b c.v m.x m.D)) ?_
 refine Qe (hK4 _ _ _ ?_)
 refine Ql (eL 0 rfl (eL 1 rfl (eL 6 rfl (eL 29 rfl eN)))) ?_
 refine Qm rfl (fun hc29 => ?_) (fun hc29 => ?_)
 have f0 : m.dn = true := hc29
 have e0 : XL i m G.out = (m, G.out) := by unfold XL; rw [if_pos f0]
 refine Qi (hret _ _ _ ?_)
 refine Ea Tryz.results44 .nil (Ye c m ++ grR { w with vn := vn, css := css, vo := w.vo } { G with st := G.st ++ Xp G.last ms, last := G.last + ms.length, out := G.out }) (by first | exact Hp.le_trans hR2 hR4 | exact hR2) ?_
 rw [e0]; exact ⟨c.vl, vn, css, w.vo, hels, rfl⟩
 have f0 : ¬ m.dn = true := by unfold MS.dn; rw [show Xo (m.x, m.D) = false from hc29]; decide
 obtain ⟨hgo, hco, hrl⟩ := hg f0
 have hgb := hgo.base
 have hgs := hgo.state
 have hga := hgo.alln
 have e0 : XL i m G.out = m.rest.todo.foldl (XY i) (m.rest, G.out) := by unfold XL; rw [if_neg f0]
 refine Qj (hK3 _ _ _ (Qd fun K6 hK6 => ?_))
 have hJ7 : ∀ (x : Value × MS × Hp), m.rest = x.2.1 ∧ R2.le x.2.2 → EJ ⟨Tryz.prog, 116, σ⟩ K6 [(0, .pointer (some ⟨w.g, 0, none⟩)), (1, .int .i64 (i : Int)), (6, .pointer (some ⟨c.m, 0, none⟩))] x.2.2 (mbB c x.2.1.ap :: lsB c.l x.1 :: lsS x.1 x.2.1.l :: (ndI c.b c.v m.x m.D ++ [grB w, grS w, Yz w.n vn (G.last + ms.length), Yt vn (G.st ++ Xp G.last ms) css, ocS w.vo G.out]) ++ F) := by
  rintro ⟨vl4, m4, R4⟩ ⟨hm4, hR4⟩
  try dsimp only
  dsimp only at hm4 hR4
  subst hm4
  refine QfI (A := lsS vl4 m.rest.l) fd_ qc (fun hvl4 => ?_)
  refine QfI (A := ocS w.vo G.out) fd_ qc (fun hvo4 => ?_)
  have hv4 := hv2.mono hR4
  have htl := Qdy (m := m.rest)
  rw [hrx] at htl
  refine hK6 _ _ _ (Qp ?_)
  rw [show mbB c m.rest.ap = mbB c (m.rest.ap + ((0 : Nat) : Int)) by simp, show lsS vl4 m.rest.l = lsS vl4 (m.rest.apply i G.out 0).1.l from rfl, show ocS w.vo G.out = ocS w.vo (m.rest.apply i G.out 0).2 from rfl]
  refine Ql (E' := (fun (y : Nat × Value × Value) => [(0, .pointer (some ⟨w.g, 0, none⟩)), (1, .int .i64 (i : Int)), (6, .pointer (some ⟨c.m, 0, none⟩))]) (0, vl4, w.vo)) (eC rfl (eC rfl (eC rfl eN))) ?_
  refine Xm (M := (fun (y : Nat × Value × Value) => mbB c (m.rest.ap + (y.1 : Int)) :: lsB c.l y.2.1 :: lsS y.2.1 (m.rest.apply i G.out y.1).1.l :: (ndI c.b c.v m.x m.D ++ [grB { w with vo := y.2.2 }, grS w, Yz w.n vn (G.last + ms.length), Yt vn (G.st ++ Xp G.last ms) css, ocS y.2.2 (m.rest.apply i G.out y.1).2]) ++ F) (0, vl4, w.vo)) sb_ ?_
  refine Xa (fun (y : Nat × Value × Value) => [(0, .pointer (some ⟨w.g, 0, none⟩)), (1, .int .i64 (i : Int)), (6, .pointer (some ⟨c.m, 0, none⟩))]) (fun (y : Nat × Value × Value) => R4) (fun (y : Nat × Value × Value) => mbB c (m.rest.ap + (y.1 : Int)) :: lsB c.l y.2.1 :: lsS y.2.1 (m.rest.apply i G.out y.1).1.l :: (ndI c.b c.v m.x m.D ++ [grB { w with vo := y.2.2 }, grS w, Yz w.n vn (G.last + ms.length), Yt vn (G.st ++ Xp G.last ms) css, ocS y.2.2 (m.rest.apply i G.out y.1).2]) ++ F) (fun (y : Nat × Value × Value) => y.1 ≤ m.rest.todo.length ∧ y.2.1.oneCell' = true ∧ y.2.2.oneCell' = true) (fun (y : Nat × Value × Value) => m.rest.todo.length - y.1) (0, vl4, w.vo) (⟨by simp, hvl4, hvo4⟩) ?_
  rintro ⟨k, vk, vo⟩ ⟨hk, hvk, hvo⟩
  try dsimp only
  dsimp only at hk hvk hvo
  obtain ⟨p1, p2, p3, p4, p5⟩ := QaP (i : Int) (m.rest.todo.take k) (m.rest, G.out)
  have p33 : (m.rest.apply i G.out k).1.ap = m.rest.ap + (k : Int) := by rw [show (m.rest.apply i G.out k) = (m.rest.todo.take k).foldl (XY i) (m.rest, G.out) from rfl, p3, List.length_take, Nat.min_eq_left (by omega)]
  have p55 : (m.rest.apply i G.out k).2.length ≤ 1000200000 := Nat.le_trans p5 (by have h9 : (m.rest.todo.take k).length = min k m.rest.todo.length := List.length_take; dsimp only; omega)
  have px : (m.rest.apply i G.out k).1.x = m.x := p1.trans hrx
  have pD : (m.rest.apply i G.out k).1.D = m.D := p2.trans hrD
  have pfin : m.rest.todo.length ≤ k → XL i m G.out = m.rest.apply i G.out k := fun h => by rw [e0, Qh6 h]
  refine Qd fun K7 hK7 => Qd fun K8 hK8 => ?_
  refine Xw (by kernel_rfl) (by kernel_rfl) ?_
  refine Qa (Qg rfl) ?_
  refine Qa (Qf rfl) ?_
  refine Qa (Ga Tryz.underlying87 Tryz.sizeOf36) ?_
  first | refine Qa (La o36) ?_ | refine Qa (Ls o36) ?_
  refine Qa (Qg rfl) ?_
  refine Qa (Qf rfl) ?_
  refine Qa (Ga Tryz.underlying87 Tryz.sizeOf56) ?_
  first | refine Qa (La o56) ?_ | refine Qa (Ls o56) ?_
  refine Qa (Ca Tryz.call39 (Qgu c.b c.v m.x)) ?_
  refine Qa (QU rfl rfl) ?_
  refine Xi ?_
  refine hK8 _ _ _ ?_
  refine Qm rfl (fun hc65 => ?_) (fun hc65 => ?_)
  have f2 : m.rest.ap + (k : Int) < m.x.commit := by simpa using hc65
  obtain ⟨e, ok, hev, hok1, hok2⟩ := jH (m.rest.todo[k]?)
  have hat : ∀ R1, R4.le R1 → QTri Tryz.prog 40 [.pointer (some ⟨c.b.l, 0, none⟩), .int .u64 (m.rest.ap + (k : Int) + 1)] R1 [lgN c.b c.v m.x] (QF [.agg ⟨Yv e⟩, .bool ok]) := fun R1 hR1 => by rw [← hev, show m.rest.todo[k]? = m.x.g.at (m.rest.ap + (k : Int) + 1) by rw [← hrx]; exact (QjP (by rw [hrx]; exact hrb) (by rw [hrx]; exact f2)).symm]; exact QbU (R := R1) c.b.l (some ⟨c.b.d, 0, none⟩) c.v.va m.x.g hgo (hv4.va.mono hR1) (m.rest.ap + (k : Int) + 1) (by unfold QN; omega)
  refine Qj (hK7 _ _ _ (Qp (Qd fun K10 hK10 => ?_)))
  refine Xf (L := [mbB c (m.rest.ap + (k : Int)), ndB c.b c.v m.x, lgN c.b c.v m.x]) [0, 1, 2, 3, 4, 5, 6, 7, 8, 9, 10, 11, 12, 13] [14, 15] [16] _ sb_ (by kernel_rfl) (by kernel_rfl) (by kernel_rfl) rfl ?_
  refine Wa rfl (fun R1 hR1 G => (Qg rfl)) ?_
  refine Wa rfl (fun R1 hR1 G => (Qf rfl)) ?_
  refine Wa rfl (fun R1 hR1 G => (Ga Tryz.underlying87 Tryz.sizeOf56)) ?_
  first | refine Wa rfl (fun R1 hR1 G => (La o56)) ?_ | refine Wa rfl (fun R1 hR1 G => (Ls o56)) ?_
  refine Wa rfl (fun R1 hR1 G => (Ca Tryz.call23 (Qct c.b c.v m.x))) ?_
  refine Wa rfl (fun R1 hR1 G => (Qg rfl)) ?_
  refine Wa rfl (fun R1 hR1 G => (Qf rfl)) ?_
  refine Wa rfl (fun R1 hR1 G => (Ga Tryz.underlying87 Tryz.sizeOf36)) ?_
  first | refine Wa rfl (fun R1 hR1 G => (La o36)) ?_ | refine Wa rfl (fun R1 hR1 G => (Ls o36)) ?_
  refine Wa rfl (fun R1 hR1 G => (Zn rfl rfl (by omega))) ?_
  refine Wa rfl (fun R1 hR1 G => (Ca Tryz.call40 (hat R1 hR1))) ?_
  refine Wa rfl (fun R1 hR1 G => (Qg rfl)) ?_
  refine Wa rfl (fun R1 hR1 G => (Qo rfl rfl)) ?_
  refine Wa rfl (fun R1 hR1 G => (Qo rfl rfl)) ?_
  refine QZ ?_
  refine QG rfl ?_
  try simp only [cA, nA, List.append_nil]
  refine QD (wn0 rfl) rfl Tryz.zeroValue93 rfl (fun be => ?_)
  refine QH le_ sb_ ?_
  refine QG rfl ?_
  try simp only [cA, nA, List.append_nil]
  refine Sm (vs := Yv e) m93 (entE.one (R := R4) (x := e) rfl) ?_
  refine QH le_ sb_ ?_
  refine Xg ?_
  try simp only [cA, nA, List.append_nil]
  refine Ps ?_
  refine Qe (hK10 _ _ _ ?_)
  refine Ql (eL 0 rfl (eL 1 rfl (eL 6 rfl (eL 10 rfl (eL 11 rfl eN))))) ?_
  refine Qd fun K11 hK11 => Qd fun K12 hK12 => Qc ?_
  refine Pm ?_
  refine Pa (Yf rfl) ?_
  refine Qe (hK12 _ _ _ ?_)
  refine Qm rfl (fun hc81 => ?_) (fun hc81 => ?_)
  have g1 := hok2 (by simpa using hc81)
  have f3 : m.rest.todo.length ≤ k := by rw [List.getElem?_eq_none_iff] at g1; exact g1
  refine Qi (hret _ _ _ ?_)
  refine Ea Tryz.results44 .nil (mbB c (m.rest.ap + (k : Int)) :: lsB c.l vk :: lsS vk (m.rest.apply i G.out k).1.l :: (ndI c.b c.v m.x m.D ++ [grB { w with vo := vo }, grS w, Yz w.n vn (G.last + ms.length), Yt vn (G.st ++ Xp G.last ms) css, ocS vo (m.rest.apply i G.out k).2])) (by first | exact Hp.le_trans hR2 hR4 | exact hR2) ?_
  refine ⟨vk, vn, css, vo, hels.mono hR4, ?_⟩
  rw [pfin f3]; simp only [Ye, px, pD, p33]; rfl
  have g1 := hok1 (by simpa using hc81)
  have g2 : k < m.rest.todo.length := (List.getElem?_eq_some_iff.1 g1).1
  have hs := QgO (i := (i : Int)) (o := G.out) g1
  have p44 : (m.rest.apply i G.out k).1.l.length ≤ 200000 := Nat.le_trans p4 (by have h9 : (m.rest.todo.take k).length = min k m.rest.todo.length := List.length_take; dsimp only; omega)
  refine Qj (hK11 _ _ _ (Qd fun K14 hK14 => Qc ?_))
  refine Pm ?_
  refine Pa (Qf rfl) ?_
  refine Pa (Ga Tryz.underlying87 Tryz.sizeOf36) ?_
  first | refine Pa (La o36) ?_ | refine Pa (Ls o36) ?_
  refine Pa ((Yld.to (u := .int .u64 (m.rest.ap + ((k + 1 : Nat) : Int))) (Zn rfl rfl (by omega)) (by congr 1; omega))) ?_
  refine Pa (Qf rfl) ?_
  refine Pa (Ga Tryz.underlying87 Tryz.sizeOf36) ?_
  refine Sa o36 ?_
  refine Qe (hK14 _ _ _ (Qd fun K15 hK15 => Qc ?_))
  refine Pa (Ga Tryz.underlying93 Tryz.sizeOf9) ?_
  first | refine Pa (La o9) ?_ | refine Pa (Ls o9) ?_
  refine Pa (jO rfl rfl) ?_
  refine Qe (hK15 _ _ _ ?_)
  refine Qm rfl (fun hc91 => ?_) (fun hc91 => ?_)
  have f4 : ¬ e.2 = [] := by simpa using hc91
  have q1 : (m.rest.apply i G.out (k + 1)).1.l = (m.rest.apply i G.out k).1.l ++ [e.2] := by rw [hs]; unfold XY; rw [if_neg f4]
  have q2 : (m.rest.apply i G.out (k + 1)).2 = (m.rest.apply i G.out k).2 ++ [⟨i, m.rest.ap + ((k + 1 : Nat) : Int), e.1, jo ((m.rest.apply i G.out k).1.l.length + 1)⟩] := by rw [hs]; unfold XY; rw [if_neg f4]; dsimp only; rw [p33]; congr 3; omega
  refine Xf (L := [grB { w with vo := vo }, mbB c (m.rest.ap + ((k + 1 : Nat) : Int)), blk be (Yv e) 93]) [0, 1, 2, 3, 4, 5, 6, 7, 8, 9, 10, 11, 12, 13, 14, 15, 16, 17] [18, 19, 20, 21] [22, 23, 24] _ sb_ (by kernel_rfl) (by kernel_rfl) (by kernel_rfl) rfl ?_
  refine Wa rfl (fun R1 hR1 G => (Qg rfl)) ?_
  refine Wa rfl (fun R1 hR1 G => (Qg rfl)) ?_
  refine Wa rfl (fun R1 hR1 G => (Qf rfl)) ?_
  refine Wa rfl (fun R1 hR1 G => (Ga Tryz.underlying90 Tryz.sizeOf34)) ?_
  first | refine Wa rfl (fun R1 hR1 G => (La o34)) ?_ | refine Wa rfl (fun R1 hR1 G => (Ls o34)) ?_
  refine Wa rfl (fun R1 hR1 G => (Qg rfl)) ?_
  refine Wa rfl (fun R1 hR1 G => (Qg rfl)) ?_
  refine Wa rfl (fun R1 hR1 G => (Qf rfl)) ?_
  refine Wa rfl (fun R1 hR1 G => (Ga Tryz.underlying87 Tryz.sizeOf36)) ?_
  first | refine Wa rfl (fun R1 hR1 G => (La o36)) ?_ | refine Wa rfl (fun R1 hR1 G => (Ls o36)) ?_
  refine Wa rfl (fun R1 hR1 G => (Ga Tryz.underlying93 Tryz.sizeOf36)) ?_
  first | refine Wa rfl (fun R1 hR1 G => (La o36)) ?_ | refine Wa rfl (fun R1 hR1 G => (Ls o36)) ?_
  refine Wa rfl (fun R1 hR1 G => (Qg rfl)) ?_
  refine Wa rfl (fun R1 hR1 G => (Qf rfl)) ?_
  refine Wa rfl (fun R1 hR1 G => (Ga Tryz.underlying87 Tryz.sizeOf85)) ?_
  first | refine Wa rfl (fun R1 hR1 G => (La o85)) ?_ | refine Wa rfl (fun R1 hR1 G => (Ls o85)) ?_
  refine Wa rfl (fun R1 hR1 G => (Ga Tryz.underlying93 Tryz.sizeOf9)) ?_
  first | refine Wa rfl (fun R1 hR1 G => (La o9)) ?_ | refine Wa rfl (fun R1 hR1 G => (Ls o9)) ?_
  refine QZ ?_
  refine QG rfl ?_
  try simp only [cA, nA, List.append_nil]
  refine zv (wn0 rfl) rfl rfl (fun w => by kernel_rfl) Tryz.call170 rfl (Qk6 c.l vk (m.rest.apply i G.out k).1.l e.2 p44) sp_ (fun _ _ _ _ h => h.elim) ?_
  rintro r R5 L' hR5 ⟨rfl, rfl, v110, rfl⟩
  rw [← q1]
  refine QaC (A := lsS v110 (m.rest.apply i G.out (k + 1)).1.l) fd_ qc (fun h110 => ?_)
  try simp only [cA, nA]
  refine QH le_ sb_ ?_
  refine QG rfl ?_
  try simp only [cA, nA, List.append_nil]
  refine Pa (QW (cells := [_, _, _, _]) [(0, 1), (1, 1), (2, 1), (3, 1)] Tryz.underlying41 Tryz.zeroValue41 (fun _ => rfl) rfl rfl) ?_
  refine QH le_ sb_ ?_
  refine QG rfl ?_
  try simp only [cA, nA, List.append_nil]
  refine QA (sz := 4) (wn0 rfl) rfl Tryz.underlying34 Tryz.sizeOf41 Tryz.zeroValue41 rfl rfl rfl (by decide) (by decide) (fun bo => ?_)
  refine QH le_ sb_ ?_
  refine QG rfl ?_
  try simp only [cA, nA, List.append_nil]
  refine XE (sz := 4) (by_ := 40) ⟨Tryz.underlying34, _, _, rfl, rfl, rfl, rfl, rfl⟩ (wn0 rfl) rfl rfl rfl fd_ (YP (xs := ocC ⟨i, m.rest.ap + ((k + 1 : Nat) : Int), e.1, jo ((m.rest.apply i G.out k).1.l.length + 1)⟩) Tryz.underlying34 fd_ (by unfold ocC; (first | (simp [Value.oneCell']; done) | (intro u hu; simp only [List.mem_cons, List.not_mem_nil, or_false] at hu; rcases hu with rfl | rfl | rfl | rfl <;> first | rfl | assumption)))) rfl om_ (by simp only [maxLen]; omega) (fun v113 ho113 hh113 => ?_)
  rw [QiG, ← q2]
  rw [show (m.rest.apply i G.out k).2.length + 1 = (m.rest.apply i G.out (k + 1)).2.length by rw [q2]; simp]
  refine QH le_ sb_ ?_
  refine Xg ?_
  try simp only [cA, nA, List.append_nil]
  refine Pa (Qf rfl) ?_
  refine Pa (Ga Tryz.underlying90 Tryz.sizeOf34) ?_
  refine Sa o34 ?_
  refine Qe ?_
  refine Xs (q' := QY _ _ _ _ _ _ _) rfl ?_
  refine QI ((k + 1, v110, v113)) (⟨by dsimp only; omega, by assumption, by assumption⟩) (by dsimp only; omega) (eC rfl (eC rfl (eC rfl eN))) rfl sb_
  have f4 : e.2 = [] := by simpa using hc91
  have q1 : (m.rest.apply i G.out (k + 1)).1.l = (m.rest.apply i G.out k).1.l := by rw [hs]; unfold XY; rw [if_pos f4]
  have q2 : (m.rest.apply i G.out (k + 1)).2 = (m.rest.apply i G.out k).2 := by rw [hs]; unfold XY; rw [if_pos f4]
  rw [← q1, ← q2]
  refine Qj ?_
  refine Xs (q' := QY _ _ _ _ _ _ _) rfl ?_
  refine QI ((k + 1, vk, vo)) (⟨by dsimp only; omega, hvk, hvo⟩) (by dsimp only; omega) (eC rfl (eC rfl (eC rfl eN))) rfl sb_
  have f2 : ¬ m.rest.ap + (k : Int) < m.x.commit := by simpa using hc65
  have f3 : m.rest.todo.length ≤ k := by omega
  refine QQ (hend _ _ _ ?_)
  apply QT Tryz.results44 .nil _ (mbB c (m.rest.ap + (k : Int)) :: lsB c.l vk :: lsS vk (m.rest.apply i G.out k).1.l :: (ndI c.b c.v m.x m.D ++ [grB { w with vo := vo }, grS w, Yz w.n vn (G.last + ms.length), Yt vn (G.st ++ Xp G.last ms) css, ocS vo (m.rest.apply i G.out k).2])) (by first | exact Hp.le_trans hR2 hR4 | exact hR2) rfl
  case hp =>
   refine ⟨vk, vn, css, vo, hels.mono hR4, ?_⟩
   rw [pfin f3]; simp only [Ye, px, pD, p33]; rfl
  case hS => exact sb_
 refine Qd fun K17 hK17 => Qc ?_
 refine Pm ?_
 refine Pa (Qf rfl) ?_
 refine Pa (Ga Tryz.underlying87 Tryz.sizeOf56) ?_
 first | refine Pa (La o56) ?_ | refine Pa (Ls o56) ?_
 refine Pa (Ca Tryz.call23 (Qct c.b c.v m.x)) ?_
 refine Pa (Ca Tryz.call25 (zo c.b.l (some ⟨c.b.d, 0, none⟩) c.v.va m.x.g)) ?_
 refine Pm ?_
 refine Pa (Qo rfl rfl) ?_
 refine Pa (Qo rfl rfl) ?_
 refine Pa (Qo rfl rfl) ?_
 refine Ps ?_
 refine Ps ?_
 refine Ps ?_
 refine Qe (hK17 _ _ _ ?_)
 refine Ql (eL 0 rfl (eL 1 rfl (eL 6 rfl (eL 7 rfl (eL 9 rfl eN))))) ?_
 refine Qd fun K18 hK18 => Qc ?_
 refine Pm ?_
 refine Pm ?_
 refine Pa (Qf rfl) ?_
 refine Pa (Ga Tryz.underlying87 Tryz.sizeOf36) ?_
 first | refine Pa (La o36) ?_ | refine Pa (Ls o36) ?_
 refine Pa (XI rfl rfl) ?_
 refine Qe (hK18 _ _ _ ?_)
 refine Qm rfl (fun hc45 => ?_) (fun hc45 => ?_)
 have f1 : m.x.g.base > m.ap := by simpa using hc45
 have e1 : m.rest = { m with l := unS m.x.g.state, ap := m.x.g.base } := by unfold MS.rest; rw [if_pos f1]
 refine Qd fun K20 hK20 => Qc ?_
 refine Pm ?_
 refine Pa (Qf rfl) ?_
 refine Pa (Ga Tryz.underlying87 Tryz.sizeOf85) ?_
 first | refine Pa (La o85) ?_ | refine Pa (Ls o85) ?_
 refine Pm ?_
 refine zv (wn0 rfl) rfl rfl (fun w => by kernel_rfl) Tryz.call171 rfl (QcS c.l c.vl m.l m.x.g.state (by omega)) sp_ (fun _ _ _ _ h => h.elim) ?_
 rintro r R3 L' hR3 ⟨rfl, vl3, rfl⟩
 try simp only [cA, nA]
 refine Qe (hK20 _ _ _ (Qc ?_))
 refine Pm ?_
 refine Pm ?_
 refine Pa (Qf rfl) ?_
 refine Pa (Ga Tryz.underlying87 Tryz.sizeOf36) ?_
 refine Sa o36 ?_
 refine Qe ?_
 refine QM hJ7 ((vl3, { m with l := unS m.x.g.state, ap := m.x.g.base }, R3)) (⟨e1, hR3⟩) (eC rfl (eC rfl (eC rfl eN))) rfl sb_
 have f1 : ¬ m.x.g.base > m.ap := by simpa using hc45
 have e1 : m.rest = m := by unfold MS.rest; rw [if_neg f1]
 refine Qj ?_
 refine QM hJ7 ((c.vl, m, R2)) (⟨e1, Hp.le_refl _⟩) (eC rfl (eC rfl (eC rfl eN))) rfl sb_
end V
end Go.Proofs.YtenfjpigffjgmaaGreat
set_option linter.unusedSimpArgs false
set_option linter.unusedVariables false
set_option maxRecDepth 100000
namespace Go.Proofs.YtenfjpigffjgmaaGreat
open Go.RowKit
namespace V
set_option maxHeartbeats 4000000
theorem QdO {R : Hp} (b : NB) (v : NV) (x : ND) (D : DK) (fk : FuncId) (caps : List Value) (Ex : List Asn) (hd : Xo (x, D) = true) :
  Tri Tryz.prog 62 [.pointer (some ⟨b.x, 0, none⟩), .func (.func fk) ⟨[]⟩ ⟨caps⟩] R (ndI b v x D ++ Ex) (fun r R' L' => r = .slice none 0 0 ∧ L' = ndI b v x D ++ Ex) := by
 refine Qdx Tryz.func62 rfl Tryz.ntmps62 rfl (fun σ F Q hret hend hpan hQ => ?_)
 try simp only [cA, nA]
 refine Qd fun K1 hK1 => ?_
 refine Qc ?_
 refine QD (wn0 rfl) rfl Tryz.zeroValue98 rfl (fun b4 => ?_)
 refine Qe ?_
 refine hK1 _ _ _ ?_
 refine Qd fun K2 hK2 => ?_
 refine Qd fun K3 hK3 => ?_
 refine Qc ?_
 refine Pm ?_
 refine Pa (Ca Tryz.call37 ((qE b v x D).eq3 (v' := .bool true) (by rw [hd]))) ?_
 refine Qe ?_
 refine hK3 _ _ _ ?_
 refine QC rfl ?_
 refine Qd fun K4 hK4 => ?_
 refine Qc ?_
 refine Sa o98 ?_
 refine Qe ?_
 refine hK4 _ _ _ ?_
 refine Qi ?_
 refine hret _ _ _ ?_
 apply XO Tryz.results62 (.cons (QaA o98 rfl fd_ rfl) .nil) _ (ndI b v x D ++ Ex) (Hp.le_refl _) rfl
 case hp => exact ⟨rfl, rfl⟩
 case hS => exact sb_
theorem QjR {R : Hp} (b : NB) (v : NV) (x : ND) (D : DK) (hd : Xo (x, D) = true) : Tri Tryz.prog 50 [.pointer (some ⟨b.x, 0, none⟩)] R (ndI b v x D) (fun r R' L' => r = .slice none 0 0 ∧ L' = ndI b v x D) := by
 refine Qn Tryz.func50 rfl Tryz.ntmps50 rfl (fun σ F Q hret hend hpan => ?_)
 try simp only [cA, nA]
 refine Qd fun K1 hK1 => Qc ?_
 refine Xd (wn0 rfl) rfl rfl rfl (fun bX => ?_)
 refine Ps ?_
 refine Qe (hK1 _ _ _ (Qd fun K2 hK2 => Qc ?_))
 first | refine Pa (La o56) ?_ | refine Pa (Ls o56) ?_
 refine Pa (YF rfl rfl) ?_
 refine Ra Tryz.call62 (QdO b v x D 68 [.pointer (some ⟨bX, 0, none⟩)] [blk bX [.pointer (some ⟨b.x, 0, none⟩)] 56] hd) ?_
 rintro r R2 L' hR2 ⟨rfl, rfl⟩
 try simp only [cA, nA]
 refine Ps ?_
 refine Qe (hK2 _ _ _ (Qi (hret _ _ _ ?_)))
 apply XO Tryz.results50 (.cons (Qh rfl) .nil) _ (ndI b v x D) hR2 rfl
 case hp => exact ⟨rfl, rfl⟩
 case hS => exact sb_
theorem Qgk {R : Hp} (b : NB) (v : NV) (x : ND) (D : DK) (m : Msg) (ve : Value) (hve : FrX entE R m.es ve) (hd : Xo (x, D) = true) : Tri Tryz.prog 53 [.pointer (some ⟨b.x, 0, none⟩), .agg ⟨QX m ve⟩] R (ndI b v x D) (fun r R' L' => r = .slice none 0 0 ∧ L' = ndI b v x D) := by
 have hveo := hve.one
 refine Qn Tryz.func53 rfl Tryz.ntmps53 rfl (fun σ F Q hret hend hpan => ?_)
 try simp only [cA, nA]
 refine Qd fun K1 hK1 => Qc ?_
 refine Xd (wn0 rfl) rfl rfl rfl (fun bX => ?_)
 refine Xd (wn0 rfl) rfl rfl rfl (fun bM => ?_)
 refine Ps ?_
 refine Qe (hK1 _ _ _ (Qd fun K2 hK2 => Qc ?_))
 first | refine Pa (La o56) ?_ | refine Pa (Ls o56) ?_
 refine Pa (YF rfl rfl) ?_
 refine Ra Tryz.call62 (QdO b v x D 73 [.pointer (some ⟨bM, 0, none⟩), .pointer (some ⟨bX, 0, none⟩)] [blk bX [.pointer (some ⟨b.x, 0, none⟩)] 56, blk bM (QX m ve) 117] hd) ?_
 rintro r R2 L' hR2 ⟨rfl, rfl⟩
 try simp only [cA, nA]
 refine Ps ?_
 refine Qe (hK2 _ _ _ (Qi (hret _ _ _ ?_)))
 apply XO Tryz.results53 (.cons (Qh rfl) .nil) _ (ndI b v x D) hR2 rfl
 case hp => exact ⟨rfl, rfl⟩
 case hS => exact sb_
theorem Qgp {R : Hp} (b : NB) (v : NV) (x : ND) (D : DK) (cmd : Bs) (hd : Xo (x, D) = true) : Tri Tryz.prog 43 [.pointer (some ⟨b.x, 0, none⟩), .string (str cmd)] R (ndI b v x D) (fun r R' L' => r = QF [.int .u64 0, .int .u64 0, .slice none 0 0] ∧ L' = ndI b v x D) := by
 refine Qn Tryz.func43 rfl Tryz.ntmps43 rfl (fun σ F Q hret hend hpan => ?_)
 try simp only [cA, nA]
 refine Qd fun K1 hK1 => Qc ?_
 refine Xd (wn0 rfl) rfl rfl rfl (fun bX => ?_)
 refine Xd (wn0 rfl) rfl rfl rfl (fun bC => ?_)
 refine Ps ?_
 refine Ps ?_
 refine Ps ?_
 refine Qe (hK1 _ _ _ (Qd fun K2 hK2 => Qd fun K3 hK3 => Qc ?_))
 first | refine Pa (La o56) ?_ | refine Pa (Ls o56) ?_
 refine Pa (Ca Tryz.call38 (Qbm b v x)) ?_
 refine Pa (XW rfl rfl) ?_
 refine Qe (hK3 _ _ _ ?_)
 refine Qm rfl (fun hc10 => ?_) (fun hc10 => ?_)
 try simp only [dT, dF, nT, nF, tF, fT] at hc10
 refine Qd fun K5 hK5 => Qc ?_
 refine Ps ?_
 refine Ps ?_
 refine Ps ?_
 refine Qe (hK5 _ _ _ (Qi (hret _ _ _ ?_)))
 refine Ea Tryz.results43 (.cons (Qh rfl) (.cons (Qh rfl) (.cons (Qh rfl) .nil))) (ndI b v x D) (by first | exact Hp.le_refl _ | assumption) ?_
 exact ⟨rfl, rfl⟩
 try simp only [dT, dF, nT, nF, tF, fT] at hc10
 refine Qj (hK2 _ _ _ (Qd fun K6 hK6 => Qc ?_))
 first | refine Pa (La o56) ?_ | refine Pa (Ls o56) ?_
 refine Pa (YF rfl rfl) ?_
 refine Ra Tryz.call62 (QdO b v x D 63 [.pointer (some ⟨bX, 0, none⟩), .pointer (some ⟨bC, 0, none⟩)] [blk bX [.pointer (some ⟨b.x, 0, none⟩)] 56, blk bC [.string (str cmd)] 9] hd) ?_
 rintro r R2 L' hR2 ⟨rfl, rfl⟩
 try simp only [cA, nA]
 refine Ps ?_
 refine Qe (hK6 _ _ _ (Qd fun K7 hK7 => Qd fun K8 hK8 => Qc ?_))
 first | refine Pa (La o56) ?_ | refine Pa (Ls o56) ?_
 refine Pa (Ca Tryz.call37 ((qE b v x D).eq3 (v' := .bool true) (by rw [hd]))) ?_
 refine Qe (hK8 _ _ _ (QC rfl (Qd fun K9 hK9 => Qc ?_)))
 refine Ps ?_
 refine Ps ?_
 refine Ps ?_
 refine Qe (hK9 _ _ _ (Qi (hret _ _ _ ?_)))
 refine Ea Tryz.results43 (.cons (Qh rfl) (.cons (Qh rfl) (.cons (Qh rfl) .nil))) (ndI b v x D) (by first | exact Hp.le_refl _ | assumption) ?_
 exact ⟨rfl, rfl⟩
theorem QgN {R : Hp} (b : NB) (v : NV) (x : ND) (D : DK) (i : Int) (t : Bs) (hd : Xo (x, D) = true) : Tri Tryz.prog 54 [.pointer (some ⟨b.x, 0, none⟩), .int .u64 i, .string (str t)] R (ndI b v x D) (fun r R' L' => r = .int .i64 3 ∧ L' = ndI b v x D) := by
 refine Qn Tryz.func54 rfl Tryz.ntmps54 rfl (fun σ F Q hret hend hpan => ?_)
 try simp only [cA, nA]
 refine Qd fun K1 hK1 => Qc ?_
 refine Ps ?_
 refine Qe (hK1 _ _ _ (Qd fun K2 hK2 => Qp (Qd fun K3 hK3 => Qc ?_)))
 refine Pm ?_
 refine Pa (Ca Tryz.call37 ((qE b v x D).eq3 (v' := .bool true) (by rw [hd]))) ?_
 refine Ps ?_
 refine Qe (hK3 _ _ _ (QC rfl (Qd fun K4 hK4 => Qc ?_)))
 refine Ps ?_
 refine Qe (hK4 _ _ _ (Qi (hret _ _ _ ?_)))
 refine Ea Tryz.results54 (.cons (Qh rfl) .nil) (ndI b v x D) le_ ?_
 exact ⟨rfl, rfl⟩
theorem qJ {x : ND} {D : DK} {f : NS → Bool × NS} (h : Xo (x, D) = true) : Xz (x, D) f = ([], (x, D)) := by unfold Xz; rw [if_pos h]
theorem Qkp {R : Hp} (b : NB) (v : NV) (m : MS) (hw : MW m) (hv : NOk R v m.x) :
  Tri Tryz.prog 50 [.pointer (some ⟨b.x, 0, none⟩)] R (ndI b v m.x m.D) (fun r R' L' => ∃ v', FrX msgE R' m.tick.2 r ∧ NOk R' v' m.tick.1.x ∧ L' = ndI b v' m.tick.1.x m.tick.1.D) := by
 by_cases hd : Xo (m.x, m.D) = true
 ·refine Tri.mono (QjR b v m.x m.D hd) (fun r R' L' hR h => ?_) (fun _ _ _ _ h => h)
  obtain ⟨rfl, rfl⟩ := h
  have e : m.tick = (m, []) := by unfold MS.tick MS.act; rw [qJ hd]; simp only [qn hw.out]
  rw [e]
  exact ⟨v, FrX.nil, hv.mono hR, rfl⟩
 ·refine Tri.mono (Qlg b v m.x m.D 0 690000000 (by omega) (hw.up hd) hv hw.ok (by omega)) (fun r R' L' _ h => ?_) (fun _ _ _ _ h => h)
  obtain ⟨v', hr, hv', rfl⟩ := h
  exact ⟨_, hr, hv'.q, rfl⟩
theorem Qkr {R : Hp} (b : NB) (v : NV) (m : MS) (g : Msg) (ve : Value) (hw : MW m) (hg : MIm 0 g) (hve : FrX entE R g.es ve) (hv : NOk R v m.x) :
  Tri Tryz.prog 53 [.pointer (some ⟨b.x, 0, none⟩), .agg ⟨QX g ve⟩] R (ndI b v m.x m.D) (fun r R' L' => ∃ v', FrX msgE R' (m.recv g).2 r ∧ NOk R' v' (m.recv g).1.x ∧ L' = ndI b v' (m.recv g).1.x (m.recv g).1.D) := by
 by_cases hd : Xo (m.x, m.D) = true
 ·refine Tri.mono (Qgk b v m.x m.D g ve hve hd) (fun r R' L' hR h => ?_) (fun _ _ _ _ h => h)
  obtain ⟨rfl, rfl⟩ := h
  have e : m.recv g = (m, []) := by unfold MS.recv MS.act; rw [qJ hd]; simp only [qn hw.out]
  rw [e]
  exact ⟨v, FrX.nil, hv.mono hR, rfl⟩
 ·refine Tri.mono (Qhi b v m.x m.D g ve 0 690000000 (by omega) (hw.up hd) hv hg hve hw.ok (by omega)) (fun r R' L' _ h => ?_) (fun _ _ _ _ h => h)
  obtain ⟨v', hr, hv', rfl⟩ := h
  exact ⟨_, hr, hv'.q, rfl⟩
theorem Qkt {R : Hp} (b : NB) (v : NV) (m : MS) (cmd : Bs) (hw : MW m) (hc : cmd.length ≤ 100) (hv : NOk R v m.x) :
  Tri Tryz.prog 43 [.pointer (some ⟨b.x, 0, none⟩), .string (str cmd)] R (ndI b v m.x m.D) (fun r R' L' => ∃ v' vl, r = QF [.int .u64 (m.prop cmd).1.1, .int .u64 (m.prop cmd).1.2, vl] ∧ FrX msgE R' (m.prop cmd).2.2 vl ∧ NOk R' v' (m.prop cmd).2.1.x ∧ L' = ndI b v' (m.prop cmd).2.1.x (m.prop cmd).2.1.D) := by
 by_cases hd : Xo (m.x, m.D) = true
 ·refine Tri.mono (Qgp b v m.x m.D cmd hd) (fun r R' L' hR h => ?_) (fun _ _ _ _ h => h)
  obtain ⟨rfl, rfl⟩ := h
  have e : XD (m.x, m.D) cmd = ((0, 0, []), (m.x, m.D)) := by
   unfold XD
   rw [qJ hd]
   by_cases h : m.x.role = 2
   ·rw [if_neg (by simp [h]), if_pos hd]
   ·rw [if_pos h]
  have e2 : m.prop cmd = ((0, 0), (m, [])) := by unfold MS.prop MS.act; rw [e]; simp only [qn hw.out]
  rw [e2]
  exact ⟨v, _, rfl, FrX.nil, hv.mono hR, rfl⟩
 ·refine Tri.mono (Qhp b v m.x m.D cmd 0 690000000 (by omega) (hw.up hd) hv hc hw.ok (by omega)) (fun r R' L' _ h => ?_) (fun _ _ _ _ h => h)
  obtain ⟨vl, v', rfl, hr, hv', rfl⟩ := h
  exact ⟨_, _, rfl, hr, hv'.q, rfl⟩
theorem Qkv {R : Hp} (b : NB) (v : NV) (m : MS) (hw : MW m) (hv : NOk R v m.x) :
  Tri Tryz.prog 54 [.pointer (some ⟨b.x, 0, none⟩), .int .u64 m.ap, .string (str (stB m.l))] R (ndI b v m.x m.D) (fun r R' L' => r = .int .i64 m.comp.1 ∧ ∃ v', NOk R' v' m.comp.2.x ∧ L' = ndI b v' m.comp.2.x m.comp.2.D) := by
 by_cases hd : Xo (m.x, m.D) = true
 ·refine Tri.mono (QgN b v m.x m.D _ _ hd) (fun r R' L' hR h => ?_) (fun _ _ _ _ h => h)
  obtain ⟨rfl, rfl⟩ := h
  have e : Yp (m.x, m.D) m.ap (stB m.l) = (3, (m.x, m.D)) := by unfold Yp; rw [if_pos hd]
  have e2 : m.comp = (3, m) := by unfold MS.comp; rw [e]; simp only [qn hw.out]
  rw [e2]
  exact ⟨rfl, v, hv.mono hR, rfl⟩
 ·have hsl := jc hw.l.2 (Nat.le_trans hw.l.1 (by decide))
  have hll := hw.l.1
  have hap := hw.ap
  refine Tri.mono (QeV b v m.x m.D m.ap (stB m.l) 0 690000000 (by omega) (hw.up hd) hv (by unfold QN; omega) (by omega) hw.ok) (fun r R' L' _ h => ?_) (fun _ _ _ _ h => h)
  obtain ⟨rfl, v', hv', rfl⟩ := h
  exact ⟨rfl, _, hv'.q, rfl⟩
end V
end Go.Proofs.YtenfjpigffjgmaaGreat
set_option linter.unusedSimpArgs false
set_option linter.unusedVariables false
set_option maxRecDepth 100000
namespace Go.Proofs.YtenfjpigffjgmaaGreat
open Go.RowKit
namespace V
set_option maxHeartbeats 4000000
theorem jn (i : Int) (m : MS) (o : List OC) : (XL i m o).1.x = m.x ∧ (XL i m o).1.D = m.D := by
 unfold XL
 split
 ·exact ⟨rfl, rfl⟩
 ·obtain ⟨a, b, _⟩ := QaP i m.rest.todo (m.rest, o)
  obtain ⟨c, d, _⟩ := jg m
  exact ⟨a.trans c, b.trans d⟩
def QcE (w : GV) (c : MV) (m' : MS) (G' : GS) (R' : Hp) (L' : List Asn) : Prop :=
 ∃ c' vn css vo, c'.m = c.m ∧ NOk R' c'.v m'.x ∧ Els oneE R' G'.st css ∧ L' = Ye c' m' ++ grR { w with vn := vn, css := css, vo := vo } G'
def GrP (w : GV) (G' : GS) (R' : Hp) (L' : List Asn) : Prop := ∃ vn css vo cs, GOk R' ⟨w.g, w.va, w.n, vn, css, vo, cs⟩ G' ∧ L' = grL ⟨w.g, w.va, w.n, vn, css, vo, cs⟩ G'
theorem QiD {cs : List MV} {i : Nat} {c c' : MV} (hc : cs[i]? = some c) (h : c'.m = c.m) : ZI (cs.set i c') = ZI cs := by
 have hi := (List.getElem?_eq_some_iff.1 hc).1
 unfold ZI
 apply List.ext_getElem?
 intro j
 rw [List.getElem?_map, List.getElem?_map, List.getElem?_set]
 by_cases hj : i = j
 ·subst hj; rw [if_pos rfl, if_pos hi, hc]; simp [h]
 ·rw [if_neg hj]
theorem jq {P : Program} {f : FuncId} {args : List Value} {R : Hp} {w : GV} {G G' : GS} {i : Nat} {c : MV} {m m' : MS} {Pr : Value → Prop} (hok : GOk R w G) (hc : w.cs[i]? = some c) (hm : G.ms[i]? = some m) (hms : G'.ms = G.ms.set i m')
  (h : Tri P f args R (Ye c m ++ grR w G) (fun r R' L' => Pr r ∧ QcE w c m' G' R' L')) : Tri P f args R (grL w G) (fun r R' L' => Pr r ∧ GrP w G' R' L') := by
 have h2 := Tri.big (post := fun r R' As' L1 => Pr r ∧ ∃ c' vn css vo, c'.m = c.m ∧ NOk R' c'.v m'.x ∧ Els oneE R' G'.st css ∧ As' = Ye c' m' ∧ L1 = grR { w with vn := vn, css := css, vo := vo } G') (qL hc hm)
  (Tri.mono h (fun r R' L' _ h => by
   obtain ⟨h0, c', vn, css, vo, h1, h2, h3, h4⟩ := h
   exact ⟨_, _, ⟨h0, c', vn, css, vo, h1, h2, h3, rfl, rfl⟩, h4⟩) (fun _ _ _ _ h => h))
 refine Tri.mono h2 (fun r R' L' hR h => ?_) (fun _ _ _ _ h => h)
 obtain ⟨As', L1, ⟨h0, c', vn, css, vo, hcm, h1, h2, rfl, rfl⟩, rfl⟩ := h
 have hi := (List.getElem?_eq_some_iff.1 hc).1
 refine ⟨h0, vn, css, vo, w.cs.set i c', ⟨?_, ?_, h2⟩, ?_⟩
 ·rw [hms]; simp [hok.len]
 ·intro j c1 m1 hc1 hm1
  rw [hms] at hm1
  dsimp only at hc1
  rw [List.getElem?_set] at hc1 hm1
  by_cases hj : i = j
  ·subst hj
   rw [if_pos rfl, if_pos hi] at hc1
   rw [if_pos rfl, if_pos (by rw [← hok.len]; exact hi)] at hm1
   cases hc1; cases hm1
   exact h1
  ·rw [if_neg hj] at hc1 hm1
   exact (hok.nd j c1 m1 hc1 hm1).mono hR
 ·have e1 := QiD hc hcm
  have e2 : (w.cs.set i c').length = w.cs.length := by simp
  simp only [grL, grR, grS, grB, e1, e2, hms]
  rw [QiP]
theorem Qbz {G : GS} {i : Nat} {m : MS} {l : List Msg} (hi : i < G.ms.length) (hw : GW (G.done i m l)) (hap : 0 ≤ m.ap ∧ m.ap ≤ 150000000000000) (hl : 0 ≤ G.last) :
  (∀ x ∈ l, yE x) ∧ G.st.length + l.length ≤ 1000000 ∧ (0 ≤ G.last ∧ G.last + l.length ≤ 1000000) ∧ (¬ m.dn = true → m.x.g.ok ∧ m.x.commit ≤ 150000000000000 ∧ m.rest.l.length ≤ 100000) := by
 have h1 := hw.st
 have h2 := hw.last
 have h3 : (G.st ++ Xp G.last l).length ≤ 900000 := h1
 have h4 : 0 ≤ G.last + l.length ∧ G.last + l.length ≤ 900000 := h2
 rw [List.length_append, qD] at h3
 refine ⟨fun x hx => ?_, by omega, ⟨hl, by omega⟩, fun hd => ?_⟩
 ·have : ∃ k, (k, x) ∈ Xp G.last l := by
   clear h1 h2 h3 h4 hw
   generalize G.last = q
   induction l generalizing q with
   | nil => cases hx
   | cons y l ih =>
    rcases List.mem_cons.1 hx with rfl | hx
    ·exact ⟨q + 1, by simp [Xp]⟩
    ·obtain ⟨k, hk⟩ := ih hx (q + 1)
     exact ⟨k, by rw [Xp]; exact List.mem_cons_of_mem _ hk⟩
  obtain ⟨k, hk⟩ := this
  exact (hw.msg (k, x) (List.mem_append_right _ hk)).2
 ·have hmem : (XL i m G.out).1 ∈ (G.done i m l).ms := by
   show _ ∈ G.ms.set i _
   exact List.mem_of_getElem? (i := i) (by rw [List.getElem?_set, if_pos rfl, if_pos hi])
  have hmw := hw.ms _ hmem
  obtain ⟨e1, e2⟩ := jn i m G.out
  have hn := hmw.up (by unfold MS.dn; rw [e1, e2]; exact hd)
  rw [e1] at hn
  have hc := hn.commit
  refine ⟨hn.g (by omega), by omega, ?_⟩
  have h5 := hmw.l.1
  unfold XL at h5
  rw [if_neg hd] at h5
  exact Nat.le_trans (Qh7 i m.rest.todo (m.rest, G.out)) (by omega)
theorem GOk.map {R : Hp} {w : GV} {G : GS} (h : GOk R w G) {i : Nat} {c : MV} (hc : w.cs[i]? = some c) : (w.cs[i]?).map MV.m = some c.m := by rw [hc]; rfl
theorem Qaw {G : GS} {i : Nat} {m : MS} (hm : G.ms[i]? = some m) : G.tick i = G.done i m.tick.1 m.tick.2 := by unfold GS.tick; rw [hm]
theorem QhI {R : Hp} (w : GV) (G : GS) (c : MV) (m : MS) (i : Nat) (hok : GOk R w G) (hc : w.cs[i]? = some c) (hm : G.ms[i]? = some m) (hw : GW G) (hw' : GW (G.tick i)) :
  Tri Tryz.prog 26 [.pointer (some ⟨w.g, 0, none⟩), .int .i64 (i : Int)] R (Ye c m ++ grR w G) (fun r R' L' => True ∧ QcE w c (XL i m.tick.1 G.out).1 (G.tick i) R' L') := by
 have hi := (List.getElem?_eq_some_iff.1 hm).1
 have hmw := hw.ms m (List.mem_of_getElem? hm)
 have hnd := hok.nd i c m hc hm
 rw [Qaw hm] at hw' ⊢
 obtain ⟨d1, d2, d3, d4⟩ := Qbz hi hw' hmw.ap hw.last.1
 have d5 := hw.out
 refine Qn Tryz.func26 rfl Tryz.ntmps26 rfl (fun σ F Q hret hend hpan => ?_)
 try simp only [cA, nA]
 refine Qd fun K1 hK1 => Qc ?_
 refine Pm ?_
 refine Pm ?_
 refine Pa (Ca Tryz.call33 ((qu w i).eq3 (Zk hc))) ?_
 refine Ps ?_
 refine Qe (hK1 _ _ _ (Qd fun K2 hK2 => Qc ?_))
 refine Pm ?_
 refine Pa (qS Tryz.underlying81 rfl rfl) ?_
 refine Qe (hK2 _ _ _ (QC rfl (Qc ?_)))
 refine Pm ?_
 refine Pm ?_
 refine Pm ?_
 refine Pa (Qf rfl) ?_
 refine Pa (Ga Tryz.underlying87 Tryz.sizeOf56) ?_
 first | refine Pa (La o56) ?_ | refine Pa (Ls o56) ?_
 refine Ra Tryz.call50 (Qkp c.b c.v m hmw hnd) ?_
 rintro r R2 L' hR2 ⟨v', hr, hv', rfl⟩
 have hro := hr.one
 try simp only [cA, nA]
 refine Ra Tryz.call44 (Qbv w G { c with v := v' } m.tick.1 i m.tick.2 r (by exact hok.map (c := c) hc) hr d1 (hok.els.mono hR2) hv' d2 d3 d4 hmw.ap (by omega)) ?_
 rintro r R3 L' hR3 ⟨vl', vn, css, vo, hels, rfl⟩
 try simp only [cA, nA]
 refine Qe (hend _ _ _ ?_)
 apply QT Tryz.results26 .nil _ (Ye { c with v := v', vl := vl' } (XL i m.tick.1 G.out).1 ++ grR { w with vn := vn, css := css, vo := vo } (G.done i m.tick.1 m.tick.2)) (Hp.le_trans hR2 hR3) rfl
 case hp => exact ⟨trivial, { c with v := v', vl := vl' }, vn, css, vo, rfl, by rw [(jn i m.tick.1 G.out).1]; exact hv'.mono hR3, hels, rfl⟩
 case hS => exact sb_
theorem QiT {R : Hp} (w : GV) (G : GS) (i : Nat) (hok : GOk R w G) (hi : i < G.ms.length) (hw : GW G) (hw' : GW (G.tick i)) :
  Tri Tryz.prog 26 [.pointer (some ⟨w.g, 0, none⟩), .int .i64 (i : Int)] R (grL w G) (fun r R' L' => GrP w (G.tick i) R' L') := by
 obtain ⟨m, hm⟩ : ∃ m, G.ms[i]? = some m := ⟨_, List.getElem?_eq_getElem hi⟩
 obtain ⟨c, hc, _, _⟩ := hok.at hm
 exact Tri.mono (jq hok hc hm (m' := (XL i m.tick.1 G.out).1) (by rw [Qaw hm]; rfl) (QhI w G c m i hok hc hm hw hw')) (fun _ _ _ _ h => h.2) (fun _ _ _ _ h => h)
theorem Qb7 {G : GS} {k : Int} {i : Nat} {m : MS} (hb : XX G.st k = true) (hto : (atM G.st k).2.to = (i : Int)) (hm : G.ms[i]? = some m) : G.deliver k = (G.take k).done i (m.recv (atM G.st k).2).1 (m.recv (atM G.st k).2).2 := by
 unfold GS.deliver
 rw [if_pos hb, if_pos (by omega), hto, Int.toNat_natCast, hm]
theorem QcL {G : GS} (hw : GW G) : QdJ G.st := fun x hx => (hw.msg x hx).2
theorem Ql6 {G : GS} (hw : GW G) {k : Int} (hb : XX G.st k = true) : MIm 0 (atM G.st k).2 := by
 obtain ⟨n, rfl⟩ := Int.eq_ofNat_of_zero_le (show 0 ≤ k by unfold XX at hb; simp at hb; omega)
 have hn : n < G.st.length := by unfold XX at hb; simp at hb; omega
 rw [(jM (x := G.st[n]) (by simp)).1]
 exact (hw.msg _ (List.getElem_mem hn)).1
theorem QiW {R : Hp} (w : GV) (G : GS) (c : MV) (m : MS) (i : Nat) (k : Int) (hok : GOk R w G) (hc : w.cs[i]? = some c) (hm : G.ms[i]? = some m) (hw : GW G) (hw' : GW (G.deliver k)) (hb : XX G.st k = true) (hto : (atM G.st k).2.to = (i : Int)) :
  Tri Tryz.prog 31 [.pointer (some ⟨w.g, 0, none⟩), .int .i64 k] R (Ye c m ++ grR w G) (fun r R' L' => r = .bool (XX G.st k) ∧ QcE w c (XL i (m.recv (atM G.st k).2).1 G.out).1 (G.deliver k) R' L') := by
 have hi := (List.getElem?_eq_some_iff.1 hm).1
 have hmw := hw.ms m (List.mem_of_getElem? hm)
 have hnd := hok.nd i c m hc hm
 rw [Qb7 hb hto hm] at hw' ⊢
 obtain ⟨d1, d2, d3, d4⟩ := Qbz (G := G.take k) hi hw' hmw.ap hw.last.1
 have d5 := hw.out
 have him := Ql6 hw hb
 have hst := hw.st
 obtain ⟨g, hg⟩ : ∃ g, g = (atM G.st k).2 := ⟨_, rfl⟩
 have ht := QcY (R := R) w.n w.vn G.last G.st w.css hok.els (QcL hw) (by omega) k
 rw [← hg] at hto him d1 d2 d3 d4 ht hw' ⊢
 rw [hb] at ht ⊢
 refine Qn Tryz.func31 rfl Tryz.ntmps31 rfl (fun σ F Q hret hend hpan => ?_)
 try simp only [cA, nA]
 refine Qd fun K1 hK1 => Qc ?_
 refine Ps ?_
 refine Qe (hK1 _ _ _ (Qd fun K2 hK2 => Qd fun K3 hK3 => Qc ?_))
 refine Pm ?_
 refine Pa (XZ Tryz.underlying26 rfl rfl) ?_
 refine Qe (hK3 _ _ _ (Qt rfl (Qj (hK2 _ _ _ (Qd fun K4 hK4 => Qc ?_)))))
 refine Pm ?_
 refine Pa (Qf rfl) ?_
 refine Pa (Ga Tryz.underlying90 Tryz.sizeOf66) ?_
 first | refine Pa (La o66) ?_ | refine Pa (Ls o66) ?_
 refine Pm ?_
 refine Ra Tryz.call52 (ht) ?_
 rintro r R2 L' hR2 ⟨⟨ve, rfl, hve⟩, vn2, css2, hk2, rfl⟩
 have hveo := hve.one
 try simp only [cA, nA]
 refine Pm ?_
 refine Pa (Qo rfl rfl) ?_
 refine Pa (Qo rfl rfl) ?_
 refine QD (wn0 rfl) rfl Tryz.zeroValue117 rfl (fun bg => ?_)
 refine Sm (vs := QX g ve) XA (Qbp hveo) ?_
 refine Ps ?_
 refine Qe (hK4 _ _ _ (Qd fun K5 hK5 => Qd fun K6 hK6 => Qc ?_))
 refine Pm ?_
 refine Pa (Ga Tryz.underlying117 Tryz.sizeOf3) ?_
 refine Pa ((Yld.to (u := .int .i64 (i : Int)) (La o3) (by rw [hto]))) ?_
 refine Pa (Ca Tryz.call33 ((qu w (i : Int)).eq3 (Zk hc))) ?_
 refine Ps ?_
 refine Qe (hK6 _ _ _ (Qd fun K7 hK7 => Qc ?_))
 refine Pm ?_
 refine Pm ?_
 refine Pb (Qg rfl) ?_
 refine Pb (qS Tryz.underlying81 rfl rfl) ?_
 refine Pa (Qr rfl rfl) ?_
 refine Qe (hK7 _ _ _ ?_)
 refine Ql (eL 0 rfl (eL 5 rfl (eL 6 rfl (eL 7 rfl (eL 27 rfl eN))))) ?_
 refine QC rfl ?_
 refine Xf (L := [blk bg (QX g ve) 117, mbB c m.ap]) [0, 1, 2, 3, 4, 5, 6, 7] [8] [9] _ sb_ (by kernel_rfl) (by kernel_rfl) (by kernel_rfl) rfl ?_
 refine Wa rfl (fun R1 hR1 G => (Qg rfl)) ?_
 refine Wa rfl (fun R1 hR1 G => (Ga Tryz.underlying117 Tryz.sizeOf3)) ?_
 refine Wa rfl (fun R1 hR1 G => (Yld.to (u := .int .i64 (i : Int)) (La o3) (by rw [hto]))) ?_
 refine Wa rfl (fun R1 hR1 G => (Qg rfl)) ?_
 refine Wa rfl (fun R1 hR1 G => (Qf rfl)) ?_
 refine Wa rfl (fun R1 hR1 G => (Ga Tryz.underlying87 Tryz.sizeOf56)) ?_
 first | refine Wa rfl (fun R1 hR1 G => (La o56)) ?_ | refine Wa rfl (fun R1 hR1 G => (Ls o56)) ?_
 refine Wa rfl (fun R1 hR1 G => (Lm (vs := QX g ve) XA)) ?_
 refine QZ ?_
 refine QG rfl ?_
 try simp only [cA, nA, List.append_nil]
 refine Ra Tryz.call53 (Qkr c.b c.v m g ve hmw him hve (hnd.mono hR2)) ?_
 rintro r R3 L' hR3 ⟨v', hr, hv', rfl⟩
 have hro := hr.one
 try simp only [cA, nA]
 refine QH le_ sb_ ?_
 refine Xg ?_
 try simp only [cA, nA, List.append_nil]
 refine Ra Tryz.call44 (Qbv { w with vn := vn2, css := css2 } (G.take k) { c with v := v' } (m.recv g).1 i (m.recv g).2 r (by exact hok.map (c := c) hc) hr d1 (hk2.mono hR3) hv' d2 d3 d4 hmw.ap (by exact Nat.le_trans d5 (by decide))) ?_
 rintro r R4 L' hR4 ⟨vl', vn, css, vo, hels, rfl⟩
 try simp only [cA, nA]
 refine Qe (hK5 _ _ _ (Qd fun K8 hK8 => Qc ?_))
 refine Pm ?_
 refine Ps ?_
 refine Qe (hK8 _ _ _ (Qi (hret _ _ _ ?_)))
 apply XO Tryz.results31 (.cons (Qh rfl) .nil) _ (Ye { c with v := v', vl := vl' } (XL i (m.recv g).1 G.out).1 ++ grR { w with vn := vn, css := css, vo := vo } ((G.take k).done i (m.recv g).1 (m.recv g).2)) (Hp.le_trans hR2 (Hp.le_trans hR3 hR4)) rfl
 case hp => exact ⟨rfl, { c with v := v', vl := vl' }, vn, css, vo, rfl, by rw [(jn i (m.recv g).1 G.out).1]; exact hv'.mono hR4, hels, rfl⟩
 case hS => exact sb_
theorem QiV {R : Hp} (w : GV) (G : GS) (k : Int) (hok : GOk R w G) (hw : GW G) (hno : XX G.st k = false ∨ yy w.cs (atM G.st k).2.to = .pointer none) :
  Tri Tryz.prog 31 [.pointer (some ⟨w.g, 0, none⟩), .int .i64 k] R (grR w G) (fun r R' L' => r = .bool (XX G.st k) ∧ ∃ vn css, Els oneE R' (G.take k).st css ∧ L' = grR { w with vn := vn, css := css } (G.take k)) := by
 have hst := hw.st
 obtain ⟨g, hg⟩ : ∃ g, g = (atM G.st k).2 := ⟨_, rfl⟩
 obtain ⟨bb, hbb⟩ : ∃ bb, bb = XX G.st k := ⟨_, rfl⟩
 have ht := QcY (R := R) w.n w.vn G.last G.st w.css hok.els (QcL hw) (by omega) k
 rw [← hg] at ht hno
 rw [← hbb] at ht hno ⊢
 obtain ⟨pt, hpt, hpo⟩ : ∃ pt, yy w.cs g.to = .pointer pt ∧ (bb = true → pt = none) := by
  obtain ⟨pt, hpt⟩ : ∃ pt, yy w.cs g.to = .pointer pt := by
   unfold yy
   split
   ·split <;> exact ⟨_, rfl⟩
   ·exact ⟨_, rfl⟩
  refine ⟨pt, hpt, fun h => ?_⟩
  rcases hno with h1 | h1
  ·rw [h1] at h; cases h
  ·rw [h1] at hpt; cases hpt; rfl
 refine Qn Tryz.func31 rfl Tryz.ntmps31 rfl (fun σ F Q hret hend hpan => ?_)
 try simp only [cA, nA]
 refine Qd fun K1 hK1 => Qc ?_
 refine Ps ?_
 refine Qe (hK1 _ _ _ (Qd fun K2 hK2 => Qd fun K3 hK3 => Qc ?_))
 refine Pm ?_
 refine Pa (XZ Tryz.underlying26 rfl rfl) ?_
 refine Qe (hK3 _ _ _ (Qt rfl (Qj (hK2 _ _ _ (Qd fun K4 hK4 => Qc ?_)))))
 refine Pm ?_
 refine Pa (Qf rfl) ?_
 refine Pa (Ga Tryz.underlying90 Tryz.sizeOf66) ?_
 first | refine Pa (La o66) ?_ | refine Pa (Ls o66) ?_
 refine Pm ?_
 refine Ra Tryz.call52 (ht) ?_
 rintro r R2 L' hR2 ⟨⟨ve, rfl, hve⟩, vn2, css2, hk2, rfl⟩
 have hveo := hve.one
 try simp only [cA, nA]
 refine Pm ?_
 refine Pa (Qo rfl rfl) ?_
 refine Pa (Qo rfl rfl) ?_
 refine QD (wn0 rfl) rfl Tryz.zeroValue117 rfl (fun bg => ?_)
 refine Sm (vs := QX g ve) XA (Qbp hveo) ?_
 refine Ps ?_
 refine Qe (hK4 _ _ _ (Qd fun K5 hK5 => Qd fun K6 hK6 => Qc ?_))
 refine Pm ?_
 refine Pa (Ga Tryz.underlying117 Tryz.sizeOf3) ?_
 first | refine Pa (La o3) ?_ | refine Pa (Ls o3) ?_
 refine Pa (Ca Tryz.call33 ((qu w g.to).eq3 hpt)) ?_
 refine Ps ?_
 refine Qe (hK6 _ _ _ (Qd fun K7 hK7 => Qc ?_))
 refine Pm ?_
 refine Pm ?_
 refine QL 24 rfl (fun hg24 => ?_) (fun hg24 => ?_)
 try simp only [dT, dF, nT, nF, tF, fT] at hg24
 refine Pb (Qg rfl) ?_
 refine Pb (qS Tryz.underlying81 rfl rfl) ?_
 refine Pa (Qr rfl rfl) ?_
 refine Qe (hK7 _ _ _ ?_)
 refine Ql (eL 0 rfl (eL 5 rfl (eL 6 rfl (eL 7 rfl (eL 27 rfl eN))))) ?_
 refine Qm rfl (fun hc27 => ?_) (fun hc27 => ?_)
 ·rw [hpo hg24] at hc27; simp at hc27
 try simp only [dT, dF, nT, nF, tF, fT] at hc27
 refine Qj (hK5 _ _ _ (Qd fun K9 hK9 => Qc ?_))
 refine Pm ?_
 refine Ps ?_
 refine Qe (hK9 _ _ _ (Qi (hret _ _ _ ?_)))
 apply XO Tryz.results31 (.cons (Qh rfl) .nil) _ (grR { w with vn := vn2, css := css2 } (G.take k)) hR2 rfl
 case hp => exact ⟨rfl, vn2, css2, hk2, rfl⟩
 case hS => exact sb_
 try simp only [dT, dF, nT, nF, tF, fT] at hg24
 refine Pk ?_
 refine Pk ?_
 refine Pa (Qq rfl rfl) ?_
 refine Qe (hK7 _ _ _ (Qt rfl (Qj (hK5 _ _ _ (Qd fun K10 hK10 => Qc ?_)))))
 refine Pm ?_
 refine Ps ?_
 refine Qe (hK10 _ _ _ (Qi (hret _ _ _ ?_)))
 apply XO Tryz.results31 (.cons (Qh rfl) .nil) _ (grR { w with vn := vn2, css := css2 } (G.take k)) hR2 rfl
 case hp => exact ⟨rfl, vn2, css2, hk2, rfl⟩
 case hS => exact sb_
end V
end Go.Proofs.YtenfjpigffjgmaaGreat
set_option linter.unusedSimpArgs false
set_option linter.unusedVariables false
set_option maxRecDepth 100000
namespace Go.Proofs.YtenfjpigffjgmaaGreat
open Go.RowKit
namespace V
set_option maxHeartbeats 4000000
theorem Tri.fr {P : Program} {f : FuncId} {args : List Value} {R : Hp} {L : List Asn} {A : Asn} {post : Value → Hp → List Asn → Prop} (h : Tri P f args R L post) : Tri P f args R (A :: L) (fun r R' L' => ∃ L1, post r R' L1 ∧ L' = A :: L1) := fun σ F w hs => by
 refine (h σ (A :: F) w (hs.sub (Qax A L F))).mono fun e w' ⟨R', L', hR, hw, hp⟩ => ?_
 cases e with
 | panicked ch => exact hp.elim
 | outgrown => exact hp.elim
 | returned v => exact ⟨R', A :: L', hR, hw.sub (jb A L' F), L', hp, rfl⟩
theorem Qe1 {R : Hp} (w : GV) (G : GS) (k : Int) (hok : GOk R w G) (hw : GW G) (hw' : GW (G.deliver k)) :
  Tri Tryz.prog 31 [.pointer (some ⟨w.g, 0, none⟩), .int .i64 k] R (grL w G) (fun r R' L' => r = .bool (XX G.st k) ∧ GrP w (G.deliver k) R' L') := by
 have hno : (XX G.st k = false ∨ yy w.cs (atM G.st k).2.to = .pointer none) → G.deliver k = G.take k → Tri Tryz.prog 31 [.pointer (some ⟨w.g, 0, none⟩), .int .i64 k] R (grL w G) (fun r R' L' => r = .bool (XX G.st k) ∧ GrP w (G.deliver k) R' L') := fun h he => by
  refine Tri.mono (Tri.fr (QiV w G k hok hw h)) (fun r R' L' hR h2 => ?_) (fun _ _ _ _ h => h)
  obtain ⟨L1, ⟨h0, vn, css, h1, rfl⟩, rfl⟩ := h2
  rw [he]
  exact ⟨h0, vn, css, w.vo, w.cs, ⟨hok.len, fun i c m hc hm => (hok.nd i c m hc hm).mono hR, h1⟩, rfl⟩
 by_cases hb : XX G.st k = true
 ·by_cases h0 : 0 ≤ (atM G.st k).2.to
  ·obtain ⟨i, hi⟩ := Int.eq_ofNat_of_zero_le h0
   cases hm : G.ms[i]? with
   | none =>
    refine hno (.inr ?_) ?_
    ·rw [hi]
     refine qX (.inr ?_)
     rw [List.getElem?_eq_none_iff] at hm
     rw [hok.len]; omega
    ·unfold GS.deliver
     rw [if_pos hb, if_pos h0, hi, Int.toNat_natCast, hm]
   | some m =>
    obtain ⟨c, hc, _, _⟩ := hok.at hm
    exact jq hok hc hm (by rw [Qb7 hb hi hm]; rfl) (QiW w G c m i k hok hc hm hw hw' hb hi)
  ·refine hno (.inr (qX (.inl (by omega)))) ?_
   unfold GS.deliver
   rw [if_pos hb, if_neg h0]
 ·refine hno (.inl (by simpa using hb)) ?_
  unfold GS.deliver GS.take
  rw [if_neg hb, (qF (by simpa using hb)).2]
theorem QaD {G : GS} {i : Nat} {m : MS} {cmd : Bs} (hm : G.ms[i]? = some m) : G.propose i cmd = ((m.prop cmd).1, G.done i (m.prop cmd).2.1 (m.prop cmd).2.2) := by unfold GS.propose; rw [hm]
theorem QhJ {R : Hp} (w : GV) (G : GS) (c : MV) (m : MS) (i : Nat) (cmd : Bs) (hcl : cmd.length ≤ 100) (hok : GOk R w G) (hc : w.cs[i]? = some c) (hm : G.ms[i]? = some m) (hw : GW G) (hw' : GW (G.propose i cmd).2) :
  Tri Tryz.prog 16 [.pointer (some ⟨w.g, 0, none⟩), .int .i64 (i : Int), .string (str cmd)] R (Ye c m ++ grR w G) (fun r R' L' => r = QF [.int .u64 (G.propose i cmd).1.1, .int .u64 (G.propose i cmd).1.2] ∧ QcE w c (XL i (m.prop cmd).2.1 G.out).1 (G.propose i cmd).2 R' L') := by
 have hi := (List.getElem?_eq_some_iff.1 hm).1
 have hmw := hw.ms m (List.mem_of_getElem? hm)
 have hnd := hok.nd i c m hc hm
 rw [QaD hm] at hw' ⊢
 obtain ⟨d1, d2, d3, d4⟩ := Qbz hi hw' hmw.ap hw.last.1
 have d5 := hw.out
 refine Qn Tryz.func16 rfl Tryz.ntmps16 rfl (fun σ F Q hret hend hpan => ?_)
 try simp only [cA, nA]
 refine Qd fun K1 hK1 => Qc ?_
 refine Ps ?_
 refine Ps ?_
 refine Qe (hK1 _ _ _ (Qd fun K2 hK2 => Qc ?_))
 refine Pm ?_
 refine Pm ?_
 refine Pa (Ca Tryz.call33 ((qu w i).eq3 (Zk hc))) ?_
 refine Ps ?_
 refine Qe (hK2 _ _ _ (Qd fun K3 hK3 => Qd fun K4 hK4 => Qc ?_))
 refine Pm ?_
 refine Pa (XZ Tryz.underlying81 rfl rfl) ?_
 refine Qe (hK4 _ _ _ (Qt rfl (Qj (hK3 _ _ _ (Qd fun K5 hK5 => Qc ?_)))))
 refine Pm ?_
 refine Pa (Qf rfl) ?_
 refine Pa (Ga Tryz.underlying87 Tryz.sizeOf56) ?_
 first | refine Pa (La o56) ?_ | refine Pa (Ls o56) ?_
 refine Pm ?_
 refine Ra Tryz.call43 (Qkt c.b c.v m cmd hmw hcl hnd) ?_
 rintro r R2 L' hR2 ⟨v', vl, rfl, hr, hv', rfl⟩
 have hro := hr.one
 try simp only [cA, nA]
 refine Pm ?_
 refine Pa (Qo rfl rfl) ?_
 refine Pa (Qo rfl rfl) ?_
 refine Pa (Qo rfl rfl) ?_
 refine Ps ?_
 refine Ps ?_
 refine Ps ?_
 refine Qe (hK5 _ _ _ ?_)
 refine Ql (eL 0 rfl (eL 1 rfl (eL 9 rfl (eL 10 rfl (eL 11 rfl eN))))) ?_
 refine Qd fun K6 hK6 => Qc ?_
 refine Pm ?_
 refine Pm ?_
 refine Pm ?_
 refine Ra Tryz.call44 (Qbv w G { c with v := v' } (m.prop cmd).2.1 i (m.prop cmd).2.2 vl (by exact hok.map (c := c) hc) hr d1 (hok.els.mono hR2) hv' d2 d3 d4 hmw.ap (by omega)) ?_
 rintro r R3 L' hR3 ⟨vl', vn, css, vo, hels, rfl⟩
 try simp only [cA, nA]
 refine Qe (hK6 _ _ _ (Qd fun K7 hK7 => Qc ?_))
 refine Pm ?_
 refine Pm ?_
 refine Ps ?_
 refine Ps ?_
 refine Qe (hK7 _ _ _ (Qi (hret _ _ _ ?_)))
 apply XO Tryz.results16 (.cons (Qh rfl) (.cons (Qh rfl) .nil)) _ (Ye { c with v := v', vl := vl' } (XL i (m.prop cmd).2.1 G.out).1 ++ grR { w with vn := vn, css := css, vo := vo } (G.done i (m.prop cmd).2.1 (m.prop cmd).2.2)) (Hp.le_trans hR2 hR3) rfl
 case hp => exact ⟨rfl, { c with v := v', vl := vl' }, vn, css, vo, rfl, by rw [(jn i (m.prop cmd).2.1 G.out).1]; exact hv'.mono hR3, hels, rfl⟩
 case hS => exact sb_
theorem Qa2 {R : Hp} (w : GV) (G : GS) (i : Nat) (cmd : Bs) (hcl : cmd.length ≤ 100) (hok : GOk R w G) (hi : i < G.ms.length) (hw : GW G) (hw' : GW (G.propose i cmd).2) :
  Tri Tryz.prog 16 [.pointer (some ⟨w.g, 0, none⟩), .int .i64 (i : Int), .string (str cmd)] R (grL w G) (fun r R' L' => r = QF [.int .u64 (G.propose i cmd).1.1, .int .u64 (G.propose i cmd).1.2] ∧ GrP w (G.propose i cmd).2 R' L') := by
 obtain ⟨m, hm⟩ : ∃ m, G.ms[i]? = some m := ⟨_, List.getElem?_eq_getElem hi⟩
 obtain ⟨c, hc, _, _⟩ := hok.at hm
 exact jq hok hc hm (m' := (XL i (m.prop cmd).2.1 G.out).1) (by rw [QaD hm]; rfl) (QhJ w G c m i cmd hcl hok hc hm hw hw')
theorem QaN {G : GS} {i : Nat} {m : MS} (hm : G.ms[i]? = some m) : G.compact i = (m.comp.1, { G with ms := G.ms.set i m.comp.2 }) := by unfold GS.compact; rw [hm]
theorem QhL {R : Hp} (w : GV) (G : GS) (c : MV) (m : MS) (i : Nat) (hok : GOk R w G) (hc : w.cs[i]? = some c) (hm : G.ms[i]? = some m) (hw : GW G) :
  Tri Tryz.prog 32 [.pointer (some ⟨w.g, 0, none⟩), .int .i64 (i : Int)] R (Ye c m ++ grR w G) (fun r R' L' => r = .int .i64 (G.compact i).1 ∧ QcE w c m.comp.2 (G.compact i).2 R' L') := by
 have hmw := hw.ms m (List.mem_of_getElem? hm)
 have hnd := hok.nd i c m hc hm
 rw [QaN hm]
 refine Qn Tryz.func32 rfl Tryz.ntmps32 rfl (fun σ F Q hret hend hpan => ?_)
 try simp only [cA, nA]
 refine Qd fun K1 hK1 => Qc ?_
 refine Ps ?_
 refine Qe (hK1 _ _ _ (Qd fun K2 hK2 => Qc ?_))
 refine Pm ?_
 refine Pm ?_
 refine Pa (Ca Tryz.call33 ((qu w i).eq3 (Zk hc))) ?_
 refine Ps ?_
 refine Qe (hK2 _ _ _ (Qd fun K3 hK3 => Qd fun K4 hK4 => Qc ?_))
 refine Pm ?_
 refine Pa (XZ Tryz.underlying81 rfl rfl) ?_
 refine Qe (hK4 _ _ _ (Qt rfl (Qj (hK3 _ _ _ (Qd fun K5 hK5 => ?_)))))
 refine Xf (L := [mbB c m.ap]) [0, 1, 2, 3, 4, 5, 6, 7, 8, 9, 10, 11] [12] [13, 14] _ sb_ (by kernel_rfl) (by kernel_rfl) (by kernel_rfl) rfl ?_
 refine Wa rfl (fun R1 hR1 G => (Qg rfl)) ?_
 refine Wa rfl (fun R1 hR1 G => (Qf rfl)) ?_
 refine Wa rfl (fun R1 hR1 G => (Ga Tryz.underlying87 Tryz.sizeOf56)) ?_
 first | refine Wa rfl (fun R1 hR1 G => (La o56)) ?_ | refine Wa rfl (fun R1 hR1 G => (Ls o56)) ?_
 refine Wa rfl (fun R1 hR1 G => (Qg rfl)) ?_
 refine Wa rfl (fun R1 hR1 G => (Qf rfl)) ?_
 refine Wa rfl (fun R1 hR1 G => (Ga Tryz.underlying87 Tryz.sizeOf36)) ?_
 first | refine Wa rfl (fun R1 hR1 G => (La o36)) ?_ | refine Wa rfl (fun R1 hR1 G => (Ls o36)) ?_
 refine Wa rfl (fun R1 hR1 G => (Qg rfl)) ?_
 refine Wa rfl (fun R1 hR1 G => (Qf rfl)) ?_
 refine Wa rfl (fun R1 hR1 G => (Ga Tryz.underlying87 Tryz.sizeOf85)) ?_
 first | refine Wa rfl (fun R1 hR1 G => (La o85)) ?_ | refine Wa rfl (fun R1 hR1 G => (Ls o85)) ?_
 refine QZ ?_
 refine QG rfl ?_
 try simp only [cA, nA, List.append_nil]
 refine zv (wn0 rfl) rfl rfl (fun w => by kernel_rfl) Tryz.call172 rfl (QjX c.l c.vl m.l hmw.l.2 (Nat.le_trans hmw.l.1 (by decide))) sp_ (fun _ _ _ _ h => h.elim) ?_
 rintro r R2 L' hR2 ⟨rfl, rfl⟩
 try simp only [cA, nA]
 refine QH le_ sb_ ?_
 refine Xg ?_
 try simp only [cA, nA, List.append_nil]
 refine Ra Tryz.call54 (Qkv c.b c.v m hmw (hnd.mono hR2)) ?_
 rintro r R3 L' hR3 ⟨rfl, v', hv', rfl⟩
 try simp only [cA, nA]
 refine Ps ?_
 refine Qe (hK5 _ _ _ ?_)
 refine Ql (eL 4 rfl eN) ?_
 refine Qi (hret _ _ _ ?_)
 apply XO Tryz.results32 (.cons (Qh rfl) .nil) _ (Ye { c with v := v' } m.comp.2 ++ grR w G) (Hp.le_trans hR2 hR3) rfl
 case hp => exact ⟨rfl, { c with v := v' }, w.vn, w.css, w.vo, rfl, hv', hok.els.mono (Hp.le_trans hR2 hR3), rfl⟩
 case hS => exact sb_
theorem Qe2 {R : Hp} (w : GV) (G : GS) (i : Nat) (hok : GOk R w G) (hi : i < G.ms.length) (hw : GW G) :
  Tri Tryz.prog 32 [.pointer (some ⟨w.g, 0, none⟩), .int .i64 (i : Int)] R (grL w G) (fun r R' L' => r = .int .i64 (G.compact i).1 ∧ GrP w (G.compact i).2 R' L') := by
 obtain ⟨m, hm⟩ : ∃ m, G.ms[i]? = some m := ⟨_, List.getElem?_eq_getElem hi⟩
 obtain ⟨c, hc, _, _⟩ := hok.at hm
 exact jq hok hc hm (m' := m.comp.2) (by rw [QaN hm]) (QhL w G c m i hok hc hm hw)
theorem QkK {G : GS} {i : Nat} {m : MS} {n : Int} (hm : G.ms[i]? = some m) : G.fuel i n = { G with ms := G.ms.set i { m with D := m.D.setFuel n } } := by unfold GS.fuel; rw [hm]
end V
end Go.Proofs.YtenfjpigffjgmaaGreat
set_option linter.unusedSimpArgs false
set_option linter.unusedVariables false
set_option maxRecDepth 100000
namespace Go.Proofs.YtenfjpigffjgmaaGreat
open Go.RowKit
namespace V
set_option maxHeartbeats 4000000
theorem Qdq {c : Cx} {E : Env} {R : Hp} {L : List Asn} {ty : TypeId} {p : String} {af : Array Edge} {g : Option (Nat × Bool)} {d : Option Tmp} {x : Operand} {t e : TypeId} {u : Value} (hT : c.P.underlying t = some (.pointer e)) (e1 : ev E x = some u) : Yld c E R L ⟨d, .makeInterface t x, ty, p, af, g⟩ (.iface t u) := fun a w hf hs => by
 have r : (Instr.makeInterface t u).run c.P w = .ok (.iface t u) w := by
  unfold Instr.makeInterface
  simp [run_underlying hT]
 simp [execOp, hf.ev e1, r, Oper.quietUpon]
theorem Qkx {R : Hp} : Tri Tryz.prog 20 [] R [] (fun r R' L' => R = R' ∧ ∃ b, r = ifV b ∧ L' = [lsB b (.slice none 0 0), lsS (.slice none 0 0) []]) := by
 refine Qn Tryz.func20 rfl Tryz.ntmps20 rfl (fun σ F Q hret hend hpan => ?_)
 try simp only [cA, nA]
 refine Ql eN ?_
 refine Qd fun K1 hK1 => Qc ?_
 refine Ps ?_
 refine Qe (hK1 _ _ _ (Qd fun K2 hK2 => Qc ?_))
 refine YO (A := lsS (.slice none 0 0) []) (Yk _ _) ?_
 refine Pa (QW (cells := [_]) [(0, 1)] Tryz.underlying105 Tryz.zeroValue105 (fun _ => rfl) rfl rfl) ?_
 refine Xd (wn0 rfl) rfl rfl rfl (fun b => ?_)
 refine Pa ((Qdq Tryz.underlying103 rfl)) ?_
 refine Ps ?_
 refine Qe (hK2 _ _ _ (Qi (hret _ _ _ ?_)))
 refine Ea Tryz.results20 (.cons (Qh rfl) .nil) [lsB b (.slice none 0 0), lsS (.slice none 0 0) []] le_ ?_
 exact ⟨rfl, b, rfl, rfl⟩
theorem Qc5 {R : Hp} (w : GV) (bm bd : Nat) (px im ap : Value) (u : Value) (D : DK) (rs : List Rec) (p : Bs) (g : LG) (i n : Nat) (hc : (w.cs[i]?).map MV.m = some bm) (hn : i < n ∧ n ≤ 9) (ho : px.oneCell' = true ∧ im.oneCell' = true) (hD : D.ok 690000000) (hd : D.down = false) (ht : yC D.b rs p g) (hgd : g.down = false) (hop : (D.open rs p).1 = 0 ∧ (D.open rs p).2.down = false) :
  Tri Tryz.prog 35 [.pointer (some ⟨w.g, 0, none⟩), .int .i64 (i : Int), .int .i64 (n : Int)] R [blk bm [.pointer (some ⟨bd, 0, none⟩), px, im, ap] 87, dkB bd u D, dkS u D, grB w, grS w]
   (fun r R' L' => ∃ c : MV, c.m = bm ∧ NOk R' c.v (ND.start i n g) ∧ L' = Ye c (Yx i n g (D.open rs p).2) ++ [grB w, grS w]) := by
 obtain ⟨c0, hc0, hcm⟩ := Option.map_eq_some_iff.1 hc
 have hi2 : i < w.cs.length := (List.getElem?_eq_some_iff.1 hc0).1
 have hnth : nth (ZI w.cs) ((i : Int).toNat * 1 + 0) = some (.pointer (some ⟨bm, 0, none⟩)) := by rw [Int.toNat_natCast, Zw]; simp [ZI, hc0, hcm]
 obtain ⟨h1, h2, h3⟩ := ht
 obtain ⟨h4, h5⟩ := hop
 have hgs := (Plays.okR h3).state
 have hop2 := QlH (R := R) bd u D 690000000 rs p g hD (by omega) h1 h2 h3
 rw [h4] at hop2
 refine Qn Tryz.func35 rfl Tryz.ntmps35 rfl (fun σ F Q hret hend hpan => ?_)
 try simp only [cA, nA]
 refine Qd fun K1 hK1 => Qc ?_
 refine Pm ?_
 refine Pa (Qf rfl) ?_
 refine Pa (Ga Tryz.underlying90 Tryz.sizeOf88) ?_
 first | refine Pa (La o88) ?_ | refine Pa (Ls o88) ?_
 refine Pm ?_
 refine Pa ((Qs (sz := 1) (n := w.cs.length) Tryz.underlying88 Tryz.sizeOf81 rfl rfl fd_ (by omega))) ?_
 refine Pa ((Xx o81 rfl fd_ hnth)) ?_
 refine Ps ?_
 refine Qe (hK1 _ _ _ (Qd fun K2 hK2 => Qc ?_))
 refine Pm ?_
 refine Pa (Qf rfl) ?_
 refine Pa (Ga Tryz.underlying87 Tryz.sizeOf83) ?_
 first | refine Pa (La o83) ?_ | refine Pa (Ls o83) ?_
 refine Ra Tryz.call56 (hop2) ?_
 rintro r R2 L' hR2 ⟨pl, u2, rfl, (⟨_, hx, _⟩ | ⟨bl, va, rfl, _, hva, rfl⟩)⟩; exact absurd rfl hx
 try simp only [cA, nA]
 refine Pm ?_
 refine Pa (Qo rfl rfl) ?_
 refine Pa (Qo rfl rfl) ?_
 refine Ps ?_
 refine Ps ?_
 refine Qe (hK2 _ _ _ (Qd fun K3 hK3 => Qc ?_))
 refine Pm ?_
 refine Pm ?_
 refine Pm ?_
 refine Pm ?_
 refine Ra Tryz.call57 (QjY bl bd i n u2 va g (D.open rs p).2 hn hva) ?_
 rintro r R3 L' hR3 (⟨hx, _, _⟩ | ⟨_, bx, rfl, hv, rfl⟩); simp [hgd, h5] at hx
 try simp only [cA, nA]
 refine Pm ?_
 refine Pa (Qo rfl rfl) ?_
 refine Pa (Qo rfl rfl) ?_
 refine Pa (Qf rfl) ?_
 refine Pa (Ga Tryz.underlying87 Tryz.sizeOf56) ?_
 refine Sa o56 ?_
 refine Qe (hK3 _ _ _ ?_)
 refine Ql (eL 0 rfl (eL 6 rfl (eL 7 rfl eN))) ?_
 refine Qd fun K4 hK4 => Qc ?_
 refine Pm ?_
 refine Pm ?_
 refine Pm ?_
 refine Pa (Qf rfl) ?_
 refine Pa (Ga Tryz.underlying90 Tryz.sizeOf49) ?_
 first | refine Pa (La o49) ?_ | refine Pa (Ls o49) ?_
 refine Qis (wn0 rfl) rfl rfl Tryz.call20 rfl (Qkx) sp_ (fun _ _ _ _ h => h.elim) ?_
 rintro r R4 L' hR4 ⟨rfl, bl2, rfl, rfl⟩
 try simp only [cA, nA]
 refine Pa (Qf rfl) ?_
 refine Pa (Ga Tryz.underlying87 Tryz.sizeOf85) ?_
 refine Sa o85 ?_
 refine Pa (Qf rfl) ?_
 refine Pa (Ga Tryz.underlying87 Tryz.sizeOf36) ?_
 refine Sa o36 ?_
 refine Qe (hK4 _ _ _ (Qd fun K5 hK5 => Qc ?_))
 refine Pm ?_
 refine Pa (Ca Tryz.call25 (zo bl (some ⟨bd, 0, none⟩) va g)) ?_
 refine Pm ?_
 refine Pa (Qo rfl rfl) ?_
 refine Pa (Qo rfl rfl) ?_
 refine Pa (Qo rfl rfl) ?_
 refine Ps ?_
 refine Ps ?_
 refine Ps ?_
 refine Qe (hK5 _ _ _ ?_)
 refine Ql (eL 6 rfl (eL 9 rfl (eL 11 rfl eN))) ?_
 refine Qd fun K6 hK6 => Qc ?_
 refine Pm ?_
 refine Pa (XI rfl rfl) ?_
 refine Qe (hK6 _ _ _ ?_)
 refine Qm rfl (fun hc55 => ?_) (fun hc55 => ?_)
 have f1 : g.base > 0 := by simpa using hc55
 have e1 : Yx i n g (D.open rs p).2 = ⟨ND.start i n g, (D.open rs p).2, unS g.state, g.base⟩ := by unfold Yx; rw [if_pos f1]
 refine Qd fun K8 hK8 => Qc ?_
 refine Pm ?_
 refine Pa (Qf rfl) ?_
 refine Pa (Ga Tryz.underlying87 Tryz.sizeOf85) ?_
 first | refine Pa (La o85) ?_ | refine Pa (Ls o85) ?_
 refine Pm ?_
 refine zv (wn0 rfl) rfl rfl (fun w => by kernel_rfl) Tryz.call171 rfl (QcS bl2 (.slice none 0 0) [] g.state (by omega)) sp_ (fun _ _ _ _ h => h.elim) ?_
 rintro r R5 L' hR5 ⟨rfl, vl3, rfl⟩
 try simp only [cA, nA]
 refine Qe (hK8 _ _ _ (Qc ?_))
 refine Pm ?_
 refine Pm ?_
 refine Pa (Qf rfl) ?_
 refine Pa (Ga Tryz.underlying87 Tryz.sizeOf36) ?_
 refine Sa o36 ?_
 refine Qe (hend _ _ _ ?_)
 apply QT Tryz.results35 .nil _ (Ye ⟨bm, ⟨bx, bl, bd⟩, bl2, NV.new u2 va, vl3⟩ ⟨ND.start i n g, (D.open rs p).2, unS g.state, g.base⟩ ++ [grB w, grS w]) (by first | exact Hp.le_trans hR2 (Hp.le_trans hR3 hR5) | exact Hp.le_trans hR2 hR3) rfl
 case hp => rw [e1]; exact ⟨⟨bm, ⟨bx, bl, bd⟩, bl2, NV.new u2 va, vl3⟩, rfl, hv.mono hR5, rfl⟩
 case hS => exact sb_
 have f1 : ¬ g.base > 0 := by simpa using hc55
 have e1 : Yx i n g (D.open rs p).2 = ⟨ND.start i n g, (D.open rs p).2, [], 0⟩ := by unfold Yx; rw [if_neg f1]
 refine Qj (hend _ _ _ ?_)
 apply QT Tryz.results35 .nil _ (Ye ⟨bm, ⟨bx, bl, bd⟩, bl2, NV.new u2 va, .slice none 0 0⟩ ⟨ND.start i n g, (D.open rs p).2, [], 0⟩ ++ [grB w, grS w]) (by first | exact Hp.le_trans hR2 (Hp.le_trans hR3 hR5) | exact Hp.le_trans hR2 hR3) rfl
 case hp => rw [e1]; exact ⟨⟨bm, ⟨bx, bl, bd⟩, bl2, NV.new u2 va, .slice none 0 0⟩, rfl, hv, rfl⟩
 case hS => exact sb_
theorem Plays.down : ∀ {rs : List Rec} {g h : LG}, Plays g rs h → h.down = g.down
 | _, _, _, .nil _ _ => rfl
 | _, _, _, .cons _ _ _ p => by rw [Plays.down p, zw]
theorem QlI {D : DK} {rs : List Rec} {p : Bs} (h1 : D.down = false) (h2 : D.bound = false) : (D.open rs p).1 = 0 ∧ (D.open rs p).2.down = false ∧ (D.open rs p).2.bound = false := by
 unfold DK.open
 rw [if_neg (by rw [h1]; decide)]
 split
 ·exact ⟨rfl, h1, h2⟩
 ·unfold DK.swap
  rw [jV ⟨h1, h2⟩]
  exact ⟨rfl, h1, h2⟩
theorem DK.crash_ok {D : DK} {m : Nat} (h : D.ok m) (keep : Int) : (D.crash keep).ok m := by
 obtain ⟨k1, k2, k3, k4, k5⟩ := h
 have hkl : D.keeps keep ≤ D.b.length := by unfold DK.keeps; omega
 have hbl : (D.crash keep).b.length = D.keeps keep := by unfold DK.crash; simp; omega
 exact ⟨by show D.keeps keep ≤ _; rw [hbl]; exact Nat.le_refl _, by rw [hbl]; omega, k3, k4, fun h => by have h : false = true := h; cases h⟩
def Qdo (D : DK) (keep : Int) : Prop := ∃ rs p g, yC (D.crash keep).b rs p g
theorem jJ {G : GS} {i : Nat} {m : MS} {keep : Int} (hm : G.ms[i]? = some m) : G.crash i keep = { G with ms := G.ms.set i (m.crash i G.ms.length keep) } := by unfold GS.crash; rw [hm]
theorem QkR (m : MS) (i n : Nat) (keep : Int) : (m.crash i n keep).x = ND.start i n (Qba (m.D.crash keep).b) := by
 unfold MS.crash Yx
 split <;> rfl
theorem QgC {R : Hp} (w : GV) (G : GS) (c : MV) (m : MS) (i : Nat) (keep : Int) (hok : GOk R w G) (hc : w.cs[i]? = some c) (hm : G.ms[i]? = some m) (hw : GW G) (ho : Qdo m.D keep) :
  Tri Tryz.prog 12 [.pointer (some ⟨w.g, 0, none⟩), .int .i64 (i : Int), .int .i64 keep] R (Ye c m ++ grR w G) (fun r R' L' => True ∧ QcE w c (m.crash i G.ms.length keep) (G.crash i keep) R' L') := by
 have hi := (List.getElem?_eq_some_iff.1 hm).1
 have hmw := hw.ms m (List.mem_of_getElem? hm)
 have hn := hw.n
 have ht := Qdz ho
 have hoc := QlI (D := m.D.crash keep) (rs := jT (m.D.crash keep).b) (p := Qa9 (m.D.crash keep).b) rfl rfl
 have hst := fun (R : Hp) (u : Value) => Qc5 (R := R) w c.m c.b.d (.pointer (some ⟨c.b.x, 0, none⟩)) (ifV c.l) (.int .u64 m.ap) u (m.D.crash keep) _ _ _ i G.ms.length (hok.map hc) ⟨hi, hn⟩ ⟨rfl, rfl⟩ (DK.crash_ok hmw.ok keep) rfl ht (ht.2.2.down) ⟨hoc.1, hoc.2.1⟩
 rw [jJ hm]
 refine Qn Tryz.func12 rfl Tryz.ntmps12 rfl (fun σ F Q hret hend hpan => ?_)
 try simp only [cA, nA]
 refine Qd fun K1 hK1 => Qc ?_
 refine Pm ?_
 refine Pm ?_
 refine Pa (Ca Tryz.call33 ((qu w i).eq3 (Zk hc))) ?_
 refine Ps ?_
 refine Qe (hK1 _ _ _ (Qd fun K2 hK2 => Qc ?_))
 refine Pm ?_
 refine Pa (qS Tryz.underlying81 rfl rfl) ?_
 refine Qe (hK2 _ _ _ (QC rfl (Qd fun K3 hK3 => Qc ?_)))
 refine Pm ?_
 refine Pa (Qf rfl) ?_
 refine Pa (Ga Tryz.underlying87 Tryz.sizeOf83) ?_
 first | refine Pa (La o83) ?_ | refine Pa (Ls o83) ?_
 refine Pm ?_
 refine Ra Tryz.call34 (QkS c.b.d c.v.u m.D 690000000 hmw.ok (by omega) keep) ?_
 rintro r R2 L' hR2 ⟨rfl, u2, rfl⟩
 have hst2 := hst R u2
 rw [← hok.len] at hst2
 try simp only [cA, nA]
 refine Qe (hK3 _ _ _ (Qc ?_))
 refine Pm ?_
 refine Pm ?_
 refine Pm ?_
 refine Pa (Qf rfl) ?_
 refine Pa (Ga Tryz.underlying90 Tryz.sizeOf88) ?_
 first | refine Pa (La o88) ?_ | refine Pa (Ls o88) ?_
 first | refine Pa (QB Tryz.underlying88 rfl) ?_ | refine Pa (Qy Tryz.underlying88 rfl fd_) ?_
 refine Ra Tryz.call35 (hst2) ?_
 rintro r R3 L' hR3 ⟨c', hcm, hv', rfl⟩
 rw [hok.len] at hv' ⊢
 try simp only [cA, nA]
 refine Qe (hend _ _ _ ?_)
 apply QT Tryz.results12 .nil _ (Ye c' (m.crash i G.ms.length keep) ++ grR w { G with ms := G.ms.set i (m.crash i G.ms.length keep) }) hR3 rfl
 case hp => exact ⟨trivial, c', w.vn, w.css, w.vo, hcm, by rw [QkR]; exact hv', hok.els.mono hR3, rfl⟩
 case hS => exact sb_
theorem QhK {R : Hp} (w : GV) (G : GS) (i : Nat) (keep : Int) (hok : GOk R w G) (hi : i < G.ms.length) (hw : GW G) (ho : ∀ m, G.ms[i]? = some m → Qdo m.D keep) :
  Tri Tryz.prog 12 [.pointer (some ⟨w.g, 0, none⟩), .int .i64 (i : Int), .int .i64 keep] R (grL w G) (fun r R' L' => GrP w (G.crash i keep) R' L') := by
 obtain ⟨m, hm⟩ : ∃ m, G.ms[i]? = some m := ⟨_, List.getElem?_eq_getElem hi⟩
 obtain ⟨c, hc, _, _⟩ := hok.at hm
 exact Tri.mono (jq hok hc hm (by rw [jJ hm]) (QgC w G c m i keep hok hc hm hw (ho m hm))) (fun _ _ _ _ h => h.2) (fun _ _ _ _ h => h)
end V
end Go.Proofs.YtenfjpigffjgmaaGreat
set_option linter.unusedSimpArgs false
set_option linter.unusedVariables false
set_option maxRecDepth 100000
namespace Go.Proofs.YtenfjpigffjgmaaGreat
open Go.RowKit
namespace V
set_option maxHeartbeats 4000000
theorem Qco {P : Program} (n : Nat) {t : TypeId} {a b : Array TypeId} {v : Bool} {f : Fn} {fs cs : Array Value} {w : World} (hT : P.underlying t = some (.func a b v)) : (Op.equalIn (n + 1) t (.func f fs cs) .nilFunc).run P w = .ok false w := by
 simp [Op.equalIn, run_underlying hT]
theorem QdM {P : Program} {t : TypeId} {a b : Array TypeId} {v : Bool} {f : Fn} {fs cs : Array Value} {w : World} (hT : P.underlying t = some (.func a b v)) : (Op.equal t (.func f fs cs) .nilFunc).run P w = .ok false w := Qco 9999 hT
theorem Qla {c : Cx} {E : Env} {R : Hp} {L : List Asn} {ty : TypeId} {p : String} {af : Array Edge} {g : Option (Nat × Bool)} {d : Option Tmp} {x y : Operand} {t t' : TypeId} {a b : Array TypeId} {v : Bool} {f : Fn} {fs cs : Array Value} (hT : c.P.underlying t = some (.func a b v)) (e1 : ev E x = some (.func f fs cs)) (e2 : ev E y = some .nilFunc) :
  Yld c E R L ⟨d, .binOp .eql t x y t', ty, p, af, g⟩ (.bool false) :=
 fun _ w hf _ => by simp [execOp, hf.ev e1, hf.ev e2, eqGuard, binOp, QdM hT, Oper.quietUpon]
theorem QhS (l : List (List Asn)) (As : List Asn) : Find (gA As) ((l ++ [As]).map gA) (l.map gA) := by
 induction l with
 | nil => exact .head _
 | cons B l ih => exact .tail ih
theorem Qh2 {l : List (List Asn)} {As : List Asn} (g : Hp) (k : stars [gA As, Yq l] g) : Yq (l ++ [As]) g := by
 obtain ⟨h1, h2, a, b, c, d, k1, _, a2, _, _, d2, _⟩ := k
 exact (QhS l As).back ⟨h1, k1, a, Hp.le_trans a2 b, Hp.dis_le c a2, d, d2⟩
theorem Sat.bigSnoc {L M : List Asn} {R : Hp} {σ : World} {w : World} {l : List (List Asn)} {As : List Asn} (hS : Sub L (As ++ Yq l :: M)) (hs : Sat σ R L w) : Sat σ R (Yq (l ++ [As]) :: M) w :=
 Sat.join (A := Yq (l ++ [As])) (As := [gA As, Yq l]) Qh2 (Sat.join (A := gA As) (As := As) (fun _ k => k) (hs.sub hS))
theorem Qgh {c : Cx} {ops : Array Oper} {Q : Exit → Act → World → Prop} {E : Env} {R : Hp} {L M : List Asn} {o : List Oper} {l : List (List Asn)} {As : List Asn} (hS : Sub L (As ++ Yq l :: M)) (h : RJ c ops Q o E R (Yq (l ++ [As]) :: M)) : RJ c ops Q o E R L := fun a w hf hs => h a w hf (hs.bigSnoc hS)
def ym (n k : Nat) : GS := ⟨(List.range k).map fun i => Yx i n LG.new DK.new, [], 0, []⟩
theorem jC (n k : Nat) : (ym n k).ms.length = k := by simp [ym]
theorem Qhz {cs : List MV} {ms : List MS} (h : cs.length = ms.length) (c : MV) (m : MS) : ZR cs ms ++ [Ye c m] = ZR (cs ++ [c]) (ms ++ [m]) := by
 unfold ZR
 rw [List.zipWith_append h]; rfl
theorem QcX (n k : Nat) : (ym n (k + 1)).ms = (ym n k).ms ++ [Yx k n LG.new DK.new] := by simp [ym, List.range_succ]
theorem QlX : yC DK.new.b [] [] LG.new := ⟨rfl, zh, .nil _ LG.new_ok⟩
def mv0 (b : Nat) : MV := ⟨b, ⟨0, 0, 0⟩, 0, NV.new (.slice none 0 0) (.slice none 0 0), .slice none 0 0⟩
theorem Qaf (cs : List MV) (c : MV) : ZI cs ++ [.pointer (some ⟨c.m, 0, none⟩)] = ZI (cs ++ [c]) := by simp [ZI]
theorem QhH {R R' : Hp} {w : GV} {n k : Nat} {c' : MV} (hok : GOk R w (ym n k)) (hwn : w.cs.length = k) (hR : R.le R') (hv : NOk R' c'.v (ND.start k n LG.new)) (va : Value) : GOk R' { w with va := va, cs := w.cs ++ [c'] } (ym n (k + 1)) := by
 refine ⟨by rw [jC]; simp [hwn], fun i c m hc hm => ?_, hok.els.mono hR⟩
 rw [QcX] at hm
 dsimp only at hc
 by_cases hi : i < k
 ·rw [List.getElem?_append_left (by rw [hwn]; exact hi)] at hc
  rw [List.getElem?_append_left (by rw [jC]; exact hi)] at hm
  exact (hok.nd i c m hc hm).mono hR
 ·rw [List.getElem?_append_right (by omega), hwn] at hc
  rw [List.getElem?_append_right (by rw [jC]; omega), jC] at hm
  by_cases h0 : i - k = 0
  ·rw [h0] at hc hm
   simp at hc hm
   subst hc; subst hm
   have e : (Yx k n LG.new DK.new).x = ND.start k n LG.new := by unfold Yx; split <;> rfl
   rw [e]; exact hv
  ·rw [List.getElem?_eq_none (by simp; omega)] at hc; cases hc
theorem Qfz {R : Hp} (n : Nat) (hn : 1 ≤ n ∧ n ≤ 9) : Tri Tryz.prog 19 [.int .i64 (n : Int), fnV] R []
  (fun r R' L' => ∃ w, r = QF [.pointer (some ⟨w.g, 0, none⟩), .int .i64 0] ∧ GOk R' w (GS.new n) ∧ L' = grL w (GS.new n)) := by
 refine Qn Tryz.func19 rfl Tryz.ntmps19 rfl (fun σ F Q hret hend hpan => ?_)
 try simp only [cA, nA]
 refine Qd fun K1 hK1 => Qc ?_
 refine Ps ?_
 refine Ps ?_
 refine Qe (hK1 _ _ _ (Qd fun K2 hK2 => Qd fun K3 hK3 => Qc ?_))
 refine Pm ?_
 refine Pa ((Yld.to (u := .bool false) (QU rfl rfl) (by rw [decide_eq_false (by omega)]))) ?_
 refine Pm ?_
 refine Pb (Qg rfl) ?_
 refine Pb ((Yld.to (u := .bool false) (XI rfl rfl) (by rw [decide_eq_false (by omega)]))) ?_
 refine Pa (Qq rfl rfl) ?_
 refine Pm ?_
 refine Pb (Qg rfl) ?_
 refine Pb ((Qla Tryz.underlying49 rfl rfl)) ?_
 refine Pa (Qq rfl rfl) ?_
 refine Qe (hK3 _ _ _ (Qt rfl (Qj (hK2 _ _ _ (Qd fun K4 hK4 => Qc ?_)))))
 refine Pm ?_
 refine Ra Tryz.call46 (QiK) ?_
 rintro r R1 L' hR1 ⟨rfl, bn, rfl, rfl⟩
 refine YO (A := slc 81 1 (.slice none 0 0) 0 []) (Yk _ _) ?_
 refine YO (A := ocS (.slice none 0 0) []) (Yk _ _) ?_
 refine YO (A := Yq []) (fun _ => trivial) ?_
 try simp only [cA, nA]
 refine Pa (QW (cells := [_, _, _, _]) [(0, 1), (1, 1), (2, 1), (3, 1)] Tryz.underlying90 Tryz.zeroValue90 (fun _ => rfl) rfl rfl) ?_
 refine Xd (wn0 rfl) rfl rfl rfl (fun bg => ?_)
 refine Ps ?_
 refine Qe (hK4 _ _ _ (Qd fun K5 hK5 => Qd fun K6 hK6 => Qc ?_))
 refine Pm ?_
 refine Pm ?_
 refine Qe (hK6 _ _ _ (Qp ?_))
 refine Ql (E' := (fun (x : Nat × GV × Hp) => [(0, .int .i64 (n : Int)), (6, .pointer (some ⟨x.2.1.g, 0, none⟩)), (23, .int .i64 (n : Int)), (24, .int .i64 (x.1 : Int))]) (0, ⟨bg, .slice none 0 0, bn, .slice none 0 0, [], .slice none 0 0, []⟩, R)) (eC rfl (eC rfl (eC rfl (eC rfl eN)))) ?_
 refine Xm (M := (fun (x : Nat × GV × Hp) => grL x.2.1 (ym n x.1) ++ F) (0, ⟨bg, .slice none 0 0, bn, .slice none 0 0, [], .slice none 0 0, []⟩, R)) sb_ ?_
 refine Xa (fun (x : Nat × GV × Hp) => [(0, .int .i64 (n : Int)), (6, .pointer (some ⟨x.2.1.g, 0, none⟩)), (23, .int .i64 (n : Int)), (24, .int .i64 (x.1 : Int))]) (fun (x : Nat × GV × Hp) => x.2.2) (fun (x : Nat × GV × Hp) => grL x.2.1 (ym n x.1) ++ F) (fun (x : Nat × GV × Hp) => x.1 ≤ n ∧ x.2.1.cs.length = x.1 ∧ GOk x.2.2 x.2.1 (ym n x.1) ∧ R.le x.2.2) (fun (x : Nat × GV × Hp) => n - x.1) (0, ⟨bg, .slice none 0 0, bn, .slice none 0 0, [], .slice none 0 0, []⟩, R) (⟨by simp, rfl, ⟨rfl, fun i c m hc _ => (by simp at hc), Els.nil⟩, Hp.le_refl _⟩) ?_
 rintro ⟨k, w, R4⟩ ⟨hk, hwn, hok, hR4⟩
 try dsimp only
 dsimp only at hk hwn hok hR4
 refine Qd fun K7 hK7 => Qc ?_
 refine Pa (QU rfl rfl) ?_
 refine Qe (hK7 _ _ _ (Qd fun K8 hK8 => ?_))
 refine Qm rfl (fun hc25 => ?_) (fun hc25 => ?_)
 try simp only [dT, dF, nT, nF, tF, fT] at hc25
 refine Qj (hK8 _ _ _ (Qd fun K10 hK10 => Qp (Qd fun K11 hK11 => Qc ?_)))
 refine Pm ?_
 refine Ps ?_
 refine Qe (hK11 _ _ _ (Qd fun K12 hK12 => ?_))
 have hk2 : k < n := by (try simp at hc25); omega
 refine Qc ?_
 refine Ra Tryz.call47 (Qmq) ?_
 rintro r R2 L' hR2 ⟨rfl, bd, u0, rfl, rfl⟩
 try simp only [cA, nA]
 refine Pa (QW (cells := [_, _, _, _]) [(0, 1), (1, 1), (2, 1), (3, 1)] Tryz.underlying87 Tryz.zeroValue87 (fun _ => rfl) rfl rfl) ?_
 refine Xd (wn0 rfl) rfl rfl rfl (fun bm => ?_)
 refine Ps ?_
 refine Qe (hK12 _ _ _ ?_)
 refine Ql (eL 0 rfl (eL 6 rfl (eL 7 rfl (eL 8 rfl (eL 23 rfl (eL 24 rfl eN)))))) ?_
 refine Qd fun K13 hK13 => Qc ?_
 refine Pm ?_
 refine Pm ?_
 refine Pa (Qf rfl) ?_
 refine Pa (Ga Tryz.underlying90 Tryz.sizeOf88) ?_
 first | refine Pa (La o88) ?_ | refine Pa (Ls o88) ?_
 refine Pm ?_
 refine QA (sz := 1) (wn0 rfl) rfl Tryz.underlying88 Tryz.sizeOf81 Tryz.zeroValue81 rfl rfl rfl (by decide) (by decide) (fun bz => ?_)
 refine XE (sz := 1) (by_ := 8) ⟨Tryz.underlying88, _, _, rfl, rfl, rfl, rfl, rfl⟩ (wn0 rfl) rfl rfl rfl fd_ (YP (xs := [.pointer (some ⟨bm, 0, none⟩)]) Tryz.underlying88 fd_ (by (first | (simp [Value.oneCell']; done) | (intro u hu; simp only [List.mem_cons, List.not_mem_nil, or_false] at hu; rcases hu with rfl | rfl | rfl | rfl <;> first | rfl | assumption)))) rfl om_ (by simp only [maxLen]; omega) (fun v37 ho37 hh37 => ?_)
 rw [show ZI w.cs ++ [.pointer (some ⟨bm, 0, none⟩)] = ZI (w.cs ++ [mv0 bm]) from Qaf w.cs (mv0 bm), show w.cs.length + 1 = (w.cs ++ [mv0 bm]).length by simp]
 refine Pa (Qf rfl) ?_
 refine Pa (Ga Tryz.underlying90 Tryz.sizeOf88) ?_
 refine Sa o88 ?_
 refine Qe (hK13 _ _ _ (Qc ?_))
 refine Pm ?_
 refine Pm ?_
 refine Pm ?_
 have hst := Qc5 (R := R4) { w with va := v37, cs := w.cs ++ [mv0 bm] } bm bd (.pointer none) .nilIface (.int .u64 0) u0 DK.new [] [] LG.new k n (by simp [← hwn, mv0]) ⟨hk2, hn.2⟩ ⟨rfl, rfl⟩ (by exact ⟨by decide, by decide, by decide, by decide, by decide⟩) rfl QlX rfl ⟨rfl, rfl⟩
 rw [show (DK.new.open [] []).2 = DK.new from rfl] at hst
 refine Ra Tryz.call35 (hst) ?_
 rintro r R5 L' hR5 ⟨c', hcm, hv', rfl⟩
 refine Qgh (l := ZR w.cs (ym n k).ms) (As := Ye c' (Yx k n LG.new DK.new)) sb_ ?_
 have hgs : grS { w with va := v37, cs := w.cs ++ [mv0 bm] } = grS { w with va := v37, cs := w.cs ++ [c'] } := by unfold grS; dsimp only; rw [← Qaf w.cs (mv0 bm), ← Qaf w.cs c', hcm]; simp [mv0]
 refine Xt (A := grS { w with va := v37, cs := w.cs ++ [mv0 bm] }) (B := grS { w with va := v37, cs := w.cs ++ [c'] }) fd_ (fun h hh => hgs ▸ hh) ?_
 have hok2 : GOk R5 { w with va := v37, cs := w.cs ++ [c'] } (ym n (k + 1)) := QhH hok hwn hR5 hv' v37
 rw [Qhz hok.len, ← QcX]
 try simp only [cA, nA]
 refine Qe (hK10 _ _ _ (Qc ?_))
 first | refine Pa (Qz rfl rfl om_) ?_ | refine Pa (QS rfl rfl) ?_
 refine Pm ?_
 refine Qe ?_
 refine Xs (q' := QY _ _ _ _ _ _ _) rfl ?_
 refine QI ((k + 1, { w with va := v37, cs := w.cs ++ [c'] }, R5)) (⟨by dsimp only; omega, by simp [hwn], hok2, Hp.le_trans hR4 hR5⟩) (by dsimp only; omega) (eC rfl (eC rfl (eC rfl (eC rfl eN)))) rfl sb_
 try simp only [dT, dF, nT, nF, tF, fT] at hc25
 refine QQ (hK5 _ _ _ (Qd fun K14 hK14 => ?_))
 obtain rfl : k = n := by (try simp at hc25); omega
 refine Qc ?_
 refine Pm ?_
 refine Ps ?_
 refine Ps ?_
 refine Qe (hK14 _ _ _ (Qi (hret _ _ _ ?_)))
 apply XO Tryz.results19 (.cons (Qh rfl) (.cons (Qh rfl) .nil)) _ (grL w (ym k k)) hR4 rfl
 case hp => exact ⟨w, rfl, hok, rfl⟩
 case hS => exact sb_
end V
end Go.Proofs.YtenfjpigffjgmaaGreat
set_option linter.unusedSimpArgs false
set_option linter.unusedVariables false
set_option maxRecDepth 100000
namespace Go.Proofs.YtenfjpigffjgmaaGreat
open Go.RowKit
namespace V
set_option maxHeartbeats 4000000
theorem QTri.split {P : Program} {f : FuncId} {args : List Value} {R : Hp} {L pre F : List Asn} {v : Value} (h : QTri P f args R pre v) (s : Split L pre F) : QTri P f args R L v := fun σ G w hs => by
 have s2 := s.app G
 refine (h σ (F ++ G) w (s2.sat hs)).mono fun e w' ⟨he, hw⟩ => ⟨he, s2.satBack hw⟩
theorem QTri.mem {P : Program} {f : FuncId} {args : List Value} {R : Hp} {cs : List MV} {ms : List MS} {i : Nat} {c : MV} {m : MS} {pre F : List Asn} {v : Value} (hc : cs[i]? = some c) (hm : ms[i]? = some m) (h : QTri P f args R pre v) (s : Split (Ye c m) pre F) : QTri P f args R [Yq (ZR cs ms)] v :=
 QTri.big (qL hc hm) (h.split (by simpa using s))
@[reducible] def grA (w : GV) (G : GS) : Asn := Yq (ZR w.cs G.ms)
section
variable {R : Hp} {w : GV} {G : GS} {i : Nat} {c : MV} {m : MS}
theorem Qcy (hc : w.cs[i]? = some c) (hm : G.ms[i]? = some m) : QTri Tryz.prog 22 [.pointer (some ⟨w.g, 0, none⟩), .int .i64 (i : Int)] R [grA w G, grB w, grS w] (.pointer (some ⟨c.b.x, 0, none⟩)) := QTri.big (qL hc hm) (QiU w c m i hc)
theorem QgD (hc : w.cs[i]? = some c) (hm : G.ms[i]? = some m) : QTri Tryz.prog 18 [.pointer (some ⟨w.g, 0, none⟩), .int .i64 (i : Int)] R [grA w G, grB w, grS w] (.int .u64 m.ap) := QTri.big (qL hc hm) (Qe3 w c m i hc)
theorem QhP (hc : w.cs[i]? = some c) (hm : G.ms[i]? = some m) : QTri Tryz.prog 17 [.pointer (some ⟨w.g, 0, none⟩), .int .i64 (i : Int)] R [grA w G, grB w, grS w] c.vl := QTri.big (qL hc hm) (QmB w c m i hc)
theorem Qc6 (hc : w.cs[i]? = some c) (hm : G.ms[i]? = some m) : QTri Tryz.prog 58 [.pointer (some ⟨c.b.x, 0, none⟩)] R [grA w G] (.int .i64 m.x.leader) := QTri.mem hc hm (Qgt c.b c.v m.x) sp_
theorem QkG (hc : w.cs[i]? = some c) (hm : G.ms[i]? = some m) : QTri Tryz.prog 38 [.pointer (some ⟨c.b.x, 0, none⟩)] R [grA w G] (.int .i64 m.x.role) := QTri.mem hc hm (Qbm c.b c.v m.x) sp_
theorem QhO (hc : w.cs[i]? = some c) (hm : G.ms[i]? = some m) : QTri Tryz.prog 23 [.pointer (some ⟨c.b.x, 0, none⟩)] R [grA w G] (.pointer (some ⟨c.b.l, 0, none⟩)) := QTri.mem hc hm (Qct c.b c.v m.x) sp_
theorem QfB (hc : w.cs[i]? = some c) (hm : G.ms[i]? = some m) : QTri Tryz.prog 24 [.pointer (some ⟨c.b.l, 0, none⟩)] R [grA w G] (.int .u64 m.x.g.term) := QTri.mem hc hm (YU c.b.l (some ⟨c.b.d, 0, none⟩) c.v.va m.x.g) sp_
end
theorem QhN {R : Hp} (w : GV) (i : Int) (h : i < 0 ∨ (w.cs.length : Int) ≤ i) : QTri Tryz.prog 22 [.pointer (some ⟨w.g, 0, none⟩), .int .i64 i] R [grB w, grS w] (.pointer none) := by
 have ha := (qu (R := R) w i).eq3 (qX h)
 refine Tri.q ?_
 refine Qn Tryz.func22 rfl Tryz.ntmps22 rfl (fun σ F Q hret hend hpan => ?_)
 try simp only [cA, nA]
 refine Qd fun K1 hK1 => Qc ?_
 refine Ps ?_
 refine Qe (hK1 _ _ _ (Qd fun K2 hK2 => Qd fun K3 hK3 => Qc ?_))
 refine Pm ?_
 refine Pm ?_
 refine Pa (Ca Tryz.call33 (ha)) ?_
 refine Ps ?_
 refine Qe (hK3 _ _ _ (Qd fun K4 hK4 => Qc ?_))
 refine Pm ?_
 refine Pa (qS Tryz.underlying81 rfl rfl) ?_
 refine Qe (hK4 _ _ _ (Qt rfl (Qj (hK2 _ _ _ ?_))))
 refine Ql eN ?_
 refine Qd fun K5 hK5 => Qc ?_
 refine Ps ?_
 refine Qe (hK5 _ _ _ (Qi (hret _ _ _ ?_)))
 refine Ea Tryz.results22 (.cons (Qh rfl) .nil) [grB w, grS w] le_ ?_
 exact ⟨rfl, rfl, rfl⟩
theorem ndNoRole_q {R : Hp} : QTri Tryz.prog 38 [.pointer none] R [] (.int .i64 0) := by
 refine Tri.q ?_
 refine Qn Tryz.func38 rfl Tryz.ntmps38 rfl (fun σ F Q hret hend hpan => ?_)
 try simp only [cA, nA]
 refine Qd fun K1 hK1 => Qc ?_
 refine Ps ?_
 refine Qe (hK1 _ _ _ (Qd fun K2 hK2 => Qd fun K3 hK3 => Qc ?_))
 refine Pm ?_
 refine Pa (XZ Tryz.underlying56 rfl rfl) ?_
 refine Qe (hK3 _ _ _ (QC rfl (Qd fun K4 hK4 => Qc ?_)))
 refine Ps ?_
 refine Qe (hK4 _ _ _ (Qi (hret _ _ _ ?_)))
 refine Ea Tryz.results38 (.cons (Qh rfl) .nil) [] le_ ?_
 exact ⟨rfl, rfl, rfl⟩
def GS.leader (G : GS) (i : Nat) : Int := match G.ms[i]? with | some m => m.x.leader | none => -1
def GS.term (G : GS) (i : Nat) : Int := match G.ms[i]? with | some m => m.x.g.term | none => 0
def GS.role (G : GS) (i : Int) : Int := if 0 ≤ i then (match G.ms[i.toNat]? with | some m => m.x.role | none => 0) else 0
def GS.alike (G : GS) (k : Nat) : Bool := (List.range k).all fun i => decide (G.leader i = G.leader 0 ∧ G.term i = G.term 0)
def GS.leads (G : GS) (n : Nat) : Int × Bool := if G.alike n = true then (G.leader 0, decide (¬ G.leader 0 = -1) && decide (G.role (G.leader 0) = 2)) else (-1, false)
theorem QgP {G : GS} {k : Nat} (h : G.alike k = true) : G.alike (k + 1) = decide (G.leader k = G.leader 0 ∧ G.term k = G.term 0) := by
 unfold GS.alike at *
 rw [List.range_succ, List.all_append, h]; simp
theorem QeF {G : GS} {k n : Nat} (hk : k < n) (h : ¬ (G.leader k = G.leader 0 ∧ G.term k = G.term 0)) : ¬ G.alike n = true := fun ha => by
 unfold GS.alike at ha
 rw [List.all_eq_true] at ha
 exact h (of_decide_eq_true (ha k (by simpa using hk)))
theorem GS.at_l {G : GS} {i : Nat} {m : MS} (hm : G.ms[i]? = some m) : G.leader i = m.x.leader ∧ G.term i = m.x.g.term ∧ G.role (i : Int) = m.x.role := by
 unfold GS.leader GS.term GS.role
 rw [if_pos (by omega), Int.toNat_natCast, hm]
 exact ⟨rfl, rfl, rfl⟩
theorem QkH {R : Hp} {w : GV} {G : GS} (hl : w.cs.length = G.ms.length) (i : Int) : ∃ p, QTri Tryz.prog 22 [.pointer (some ⟨w.g, 0, none⟩), .int .i64 i] R [grA w G, grB w, grS w] (.pointer p) ∧ QTri Tryz.prog 38 [.pointer p] R [grA w G] (.int .i64 (G.role i)) := by
 by_cases h : 0 ≤ i ∧ i < G.ms.length
 ·obtain ⟨i, rfl⟩ := Int.eq_ofNat_of_zero_le h.1
  obtain ⟨m, hm⟩ : ∃ m, G.ms[i]? = some m := ⟨_, List.getElem?_eq_getElem (by omega)⟩
  obtain ⟨c, hc⟩ : ∃ c, w.cs[i]? = some c := ⟨_, List.getElem?_eq_getElem (by omega)⟩
  exact ⟨_, Qcy hc hm, by rw [(GS.at_l hm).2.2]; exact QkG hc hm⟩
 ·refine ⟨none, (QhN w i (by omega)).split (F := [grA w G]) sp_, ?_⟩
  have e : G.role i = 0 := by
   unfold GS.role
   by_cases h0 : 0 ≤ i
   ·rw [if_pos h0, List.getElem?_eq_none (by omega)]
   ·rw [if_neg h0]
  rw [e]
  exact ndNoRole_q.split (F := [grA w G]) sp_
theorem Qky {R : Hp} (w : GV) (G : GS) (n : Nat) (hl : w.cs.length = G.ms.length) (hn : 0 < n ∧ n ≤ G.ms.length) (hn9 : n ≤ 9) : QTri Tryz.prog 36 [.pointer (some ⟨w.g, 0, none⟩), .int .i64 (n : Int)] R [grA w G, grB w, grS w] (QF [.int .i64 (G.leads n).1, .bool (G.leads n).2]) := by
 obtain ⟨m0, hm0⟩ : ∃ m, G.ms[0]? = some m := ⟨_, List.getElem?_eq_getElem (by omega)⟩
 obtain ⟨c0, hc0⟩ : ∃ c, w.cs[0]? = some c := ⟨_, List.getElem?_eq_getElem (by omega)⟩
 obtain ⟨l0, t0, _⟩ := GS.at_l hm0
 have hnd0 := Qcy (R := R) (i := 0) hc0 hm0
 obtain ⟨pw, hpw, hpr⟩ := QkH (R := R) hl (G.leader 0)
 refine Tri.q ?_
 refine Qn Tryz.func36 rfl Tryz.ntmps36 rfl (fun σ F Q hret hend hpan => ?_)
 try simp only [cA, nA]
 refine Qd fun K1 hK1 => Qc ?_
 refine Ps ?_
 refine Ps ?_
 refine Qe (hK1 _ _ _ (Qd fun K2 hK2 => Qc ?_))
 refine Pm ?_
 refine Pa (Ca Tryz.call22 (hnd0)) ?_
 refine Pa (Ca Tryz.call58 ((Qc6 hc0 hm0).eq3 (by rw [← l0]))) ?_
 refine Ps ?_
 refine Qe (hK2 _ _ _ (Qd fun K3 hK3 => Qd fun K4 hK4 => Qc ?_))
 refine Pm ?_
 refine Pm ?_
 refine Qe (hK4 _ _ _ (Qp ?_))
 refine Ql (E' := (fun (x : Nat) => [(0, .pointer (some ⟨w.g, 0, none⟩)), (6, .int .i64 (G.leader 0)), (12, .int .i64 (n : Int)), (13, .int .i64 (x : Int))]) 0) (eC rfl (eC rfl (eC rfl (eC rfl eN)))) ?_
 refine Xm (M := (fun (x : Nat) => grA w G :: grB w :: grS w :: F) 0) sb_ ?_
 refine Xa (fun (x : Nat) => [(0, .pointer (some ⟨w.g, 0, none⟩)), (6, .int .i64 (G.leader 0)), (12, .int .i64 (n : Int)), (13, .int .i64 (x : Int))]) (fun (x : Nat) => R) (fun (x : Nat) => grA w G :: grB w :: grS w :: F) (fun (x : Nat) => x ≤ n ∧ G.alike x = true) (fun (x : Nat) => n - x) 0 (⟨by omega, rfl⟩) ?_
 rintro k ⟨hk, ha⟩
 try dsimp only
 refine Qd fun K5 hK5 => Qc ?_
 refine Pa (QU rfl rfl) ?_
 refine Qe (hK5 _ _ _ (Qd fun K6 hK6 => ?_))
 refine Qm rfl (fun hc14 => ?_) (fun hc14 => ?_)
 try simp only [dT, dF, nT, nF, tF, fT] at hc14
 refine Qj (hK6 _ _ _ (Qd fun K8 hK8 => Qp (Qd fun K9 hK9 => Qc ?_)))
 refine Pm ?_
 refine Ps ?_
 refine Qe (hK9 _ _ _ (Qd fun K10 hK10 => ?_))
 have hk2 : k < n := by (try simp at hc14); omega
 obtain ⟨m, hm⟩ : ∃ m, G.ms[k]? = some m := ⟨_, List.getElem?_eq_getElem (by omega)⟩
 obtain ⟨c, hc⟩ : ∃ c, w.cs[k]? = some c := ⟨_, List.getElem?_eq_getElem (by omega)⟩
 obtain ⟨lk, tk, _⟩ := GS.at_l hm
 refine Qc ?_
 refine Pm ?_
 refine Pm ?_
 refine Pa (Ca Tryz.call22 (Qcy hc hm)) ?_
 refine Ps ?_
 refine Qe (hK10 _ _ _ (Qd fun K11 hK11 => Qc ?_))
 refine Pm ?_
 refine Pa (Ca Tryz.call58 ((Qc6 hc hm).eq3 (by rw [← lk]))) ?_
 refine Pm ?_
 refine Pa (XW rfl rfl) ?_
 refine Pm ?_
 refine QL 23 rfl (fun hg23 => ?_) (fun hg23 => ?_)
 try simp only [dT, dF, nT, nF, tF, fT] at hg23
 refine Pk ?_
 refine Pk ?_
 refine Pk ?_
 refine Pk ?_
 refine Pk ?_
 refine Pk ?_
 refine Pk ?_
 refine Pk ?_
 refine Pa (Qr rfl rfl) ?_
 refine Qe (hK11 _ _ _ ?_)
 refine Ql (eL 0 rfl (eL 6 rfl (eL 12 rfl (eL 13 rfl (eL 32 rfl eN))))) ?_
 refine QC rfl (Qd fun K12 hK12 => Qc ?_)
 refine Ps ?_
 refine Ps ?_
 refine Qe (hK12 _ _ _ (Qi (hret _ _ _ ?_)))
 refine Ea Tryz.results36 (.cons (Qh rfl) (.cons (Qh rfl) .nil)) [grA w G, grB w, grS w] le_ ?_
 have hno : ¬ (G.leader k = G.leader 0 ∧ G.term k = G.term 0) := by simp_all
 rw [show G.leads n = (-1, false) by unfold GS.leads; rw [if_neg (QeF hk2 hno)]]; exact ⟨rfl, rfl, rfl⟩
 try simp only [dT, dF, nT, nF, tF, fT] at hg23
 refine Pb (Qg rfl) ?_
 refine Pb (Ca Tryz.call23 (QhO hc hm)) ?_
 refine Pb (Ca Tryz.call24 ((QfB hc hm).eq3 (by rw [← tk]))) ?_
 refine Pb (Qg rfl) ?_
 refine Pb (Ca Tryz.call22 (hnd0)) ?_
 refine Pb (Ca Tryz.call23 (QhO hc0 hm0)) ?_
 refine Pb (Ca Tryz.call24 ((QfB hc0 hm0).eq3 (by rw [← t0]))) ?_
 refine Pb (XW rfl rfl) ?_
 refine Pa (Qq rfl rfl) ?_
 refine Qe (hK11 _ _ _ ?_)
 refine Qm rfl (fun hc32 => ?_) (fun hc32 => ?_)
 try simp only [dT, dF, nT, nF, tF, fT] at hc32
 refine Qd fun K14 hK14 => Qc ?_
 refine Ps ?_
 refine Ps ?_
 refine Qe (hK14 _ _ _ (Qi (hret _ _ _ ?_)))
 refine Ea Tryz.results36 (.cons (Qh rfl) (.cons (Qh rfl) .nil)) [grA w G, grB w, grS w] le_ ?_
 have hno : ¬ (G.leader k = G.leader 0 ∧ G.term k = G.term 0) := by simp_all
 rw [show G.leads n = (-1, false) by unfold GS.leads; rw [if_neg (QeF hk2 hno)]]; exact ⟨rfl, rfl, rfl⟩
 try simp only [dT, dF, nT, nF, tF, fT] at hc32
 refine Qj (hK8 _ _ _ (Qc ?_))
 first | refine Pa (Qz rfl rfl om_) ?_ | refine Pa (QS rfl rfl) ?_
 refine Pm ?_
 refine Qe ?_
 refine Xs (q' := QY _ _ _ _ _ _ _) rfl ?_
 refine QI (k + 1) (⟨by omega, by rw [QgP ha]; simp_all⟩) (by omega) (eC rfl (eC rfl (eC rfl (eC rfl eN)))) rfl sb_
 try simp only [dT, dF, nT, nF, tF, fT] at hc14
 refine QQ (hK3 _ _ _ (Qd fun K15 hK15 => ?_))
 have hkn : k = n := by (try simp at hc14); omega
 have el : G.leads n = (G.leader 0, decide (¬ G.leader 0 = -1) && decide (G.role (G.leader 0) = 2)) := by unfold GS.leads; rw [if_pos (by rw [← hkn]; exact ha)]
 refine Qc ?_
 refine Pm ?_
 refine Pm ?_
 refine Pa (XW rfl rfl) ?_
 refine Pm ?_
 refine QL 37 rfl (fun hg37 => ?_) (fun hg37 => ?_)
 try simp only [dT, dF, nT, nF, tF, fT] at hg37
 refine Pb (Qg rfl) ?_
 refine Pb (Qg rfl) ?_
 refine Pb (Ca Tryz.call22 (hpw)) ?_
 refine Pb (Ca Tryz.call38 (hpr)) ?_
 refine Pb (QO rfl rfl) ?_
 refine Pa (Qr rfl rfl) ?_
 refine Ps ?_
 refine Ps ?_
 refine Qe (hK15 _ _ _ ?_)
 refine Ql (eL 4 rfl (eL 5 rfl eN)) ?_
 refine Qi (hret _ _ _ ?_)
 refine Ea Tryz.results36 (.cons (Qh rfl) (.cons (Qh rfl) .nil)) [grA w G, grB w, grS w] le_ ?_
 refine ⟨?_, rfl, rfl⟩; rw [el]; simp_all [QF]
 try simp only [dT, dF, nT, nF, tF, fT] at hg37
 refine Pk ?_
 refine Pk ?_
 refine Pk ?_
 refine Pk ?_
 refine Pk ?_
 refine Pa (Qq rfl rfl) ?_
 refine Ps ?_
 refine Ps ?_
 refine Qe (hK15 _ _ _ (Qi (hret _ _ _ ?_)))
 refine Ea Tryz.results36 (.cons (Qh rfl) (.cons (Qh rfl) .nil)) [grA w G, grB w, grS w] le_ ?_
 refine ⟨?_, rfl, rfl⟩; rw [el]; simp_all [QF]
end V
end Go.Proofs.YtenfjpigffjgmaaGreat
set_option linter.unusedSimpArgs false
set_option linter.unusedVariables false
set_option maxRecDepth 100000
namespace Go.Proofs.YtenfjpigffjgmaaGreat
open Go.RowKit
namespace V
set_option maxHeartbeats 4000000
def GS.drop (G : GS) (k : Int) : GS := { G with st := Zd G.st k }
def GS.twice (G : GS) (k : Int) : GS := { G with st := twL G.st G.last k, last := twN G.st G.last k }
def GS.outs (G : GS) : GS := { G with out := [] }
structure Bud (n C : Nat) (J : Nat → Nat → GS → Prop) : Prop where
 gw : ∀ c d G, J c d G → GW G
 ln : ∀ c d G, J c d G → G.ms.length = n
 le : ∀ c d G, J (c + 1) d G → J c d G
 le2 : ∀ c d G, J c (d + 1) G → J c d G
 tick : ∀ c d G i, i < n → J (c + 1) (d + 1) G → J c d (G.tick i)
 del : ∀ c d G k, J (c + 1) d G → J c d (G.deliver k)
 prop : ∀ c d G i cmd, i < n → cmd.length ≤ 100 → J (c + 1) (d + 1) G → J c d (G.propose i cmd).2
 comp : ∀ c d G i, i < n → J (c + 1) d G → J c d (G.compact i).2
 fuel : ∀ c d G i k, i < n → QgA k → J (c + 1) d G → J c d (G.fuel i k)
 opens : ∀ (c d : Nat) (G : GS) (i : Nat) (m : MS) (k : Int), J (c + 1) d G → G.ms[i]? = some m → Qdo m.D k
 crash : ∀ c d G i k, i < n → J (c + 1) d G → J c d (G.crash i k)
 drop : ∀ c d G k, J (c + 1) d G → J c d (G.drop k)
 twice : ∀ c d G k, J (c + 1) d G → J c d (G.twice k)
 last : ∀ c d G, J c d G → G.last + n * c ≤ n * C ∧ G.st.length + n * c ≤ n * C
 outs : ∀ c d G, J c d G → J c d G.outs
theorem Bud.les {n C : Nat} {J : Nat → Nat → GS → Prop} (h : Bud n C J) {G : GS} {d : Nat} : ∀ (k : Nat) {c : Nat}, J (c + k) d G → J c d G
 | 0, _, hj => hj
 | k + 1, c, hj => h.les k (h.le _ _ _ (by rw [show c + k + 1 = c + (k + 1) by omega]; exact hj))
theorem Bud.les2 {n C : Nat} {J : Nat → Nat → GS → Prop} (h : Bud n C J) {G : GS} {c : Nat} : ∀ (k : Nat) {d : Nat}, J c (d + k) G → J c d G
 | 0, _, hj => hj
 | k + 1, d, hj => h.les2 k (h.le2 _ _ _ (by rw [show d + k + 1 = d + (k + 1) by omega]; exact hj))
theorem Bud.leq {n C : Nat} {J : Nat → Nat → GS → Prop} (h : Bud n C J) {G : GS} {c c' d d' : Nat} (hc : c ≤ c') (hd : d ≤ d') (hj : J c' d' G) : J c d G :=
 h.les (c' - c) (h.les2 (d' - d) (by rw [show c + (c' - c) = c' by omega, show d + (d' - d) = d' by omega]; exact hj))
def GS.ticks (G : GS) (k : Nat) : GS := (List.range k).foldl GS.tick G
theorem yT (G : GS) (k : Nat) : G.ticks (k + 1) = (G.ticks k).tick k := by unfold GS.ticks; rw [List.range_succ, List.foldl_append]; rfl
def GS.del1 (G : GS) : GS := if G.st.length > 0 then G.deliver 0 else G
def GS.dels (G : GS) : Nat → GS
 | 0 => G
 | k + 1 => (G.dels k).del1
theorem Qda {G : GS} {k : Nat} (h : (G.dels k).st.length = 0) : ∀ j, G.dels (k + j) = G.dels k
 | 0 => rfl
 | j + 1 => by
  show (G.dels (k + j)).del1 = _
  rw [Qda h j]
  unfold GS.del1
  rw [if_neg (by omega)]
theorem QbA {G : GS} {k n : Nat} (hk : k ≤ n) (h : (G.dels k).st.length = 0) : G.dels n = G.dels k := by
 have := Qda h (n - k)
 rw [show k + (n - k) = n by omega] at this
 exact this
def GS.round (G : GS) (n : Nat) : GS := (G.ticks n).dels 200
def GS.rounds (G : GS) (n : Nat) : Nat → GS
 | 0 => G
 | k + 1 => (G.rounds n k).round n
theorem Bud.ticks {n C : Nat} {J : Nat → Nat → GS → Prop} (h : Bud n C J) {G : GS} {c d : Nat} : ∀ {k : Nat}, k ≤ n → J (c + k) (d + k) G → J c d (G.ticks k)
 | 0, _, hj => hj
 | k + 1, hk, hj => by
  rw [yT]
  exact h.tick _ _ _ _ (by omega) (h.ticks (c := c + 1) (d := d + 1) (by omega) (by rw [show c + 1 + k = c + (k + 1) by omega, show d + 1 + k = d + (k + 1) by omega]; exact hj))
theorem Bud.dels {n C : Nat} {J : Nat → Nat → GS → Prop} (h : Bud n C J) {G : GS} {d : Nat} : ∀ {k c : Nat}, J (c + k) d G → J c d (G.dels k)
 | 0, _, hj => hj
 | k + 1, c, hj => by
  have h1 := h.dels (k := k) (c := c + 1) (by rw [show c + 1 + k = c + (k + 1) by omega]; exact hj)
  show J c d (G.dels k).del1
  unfold GS.del1
  split
  ·exact h.del _ _ _ _ h1
  ·exact h.le _ _ _ h1
theorem Bud.round {n C : Nat} {J : Nat → Nat → GS → Prop} (h : Bud n C J) {G : GS} {c d : Nat} (hj : J (c + (n + 200)) (d + n) G) : J c d (G.round n) :=
 h.dels (h.ticks (Nat.le_refl n) (by rw [show c + 200 + n = c + (n + 200) by omega]; exact hj))
theorem Bud.rounds {n C : Nat} {J : Nat → Nat → GS → Prop} (h : Bud n C J) {G : GS} : ∀ {k c d : Nat}, J (c + k * (n + 200)) (d + k * n) G → J c d (G.rounds n k)
 | 0, c, d, hj => by simpa [GS.rounds] using hj
 | k + 1, c, d, hj => h.round (h.rounds (k := k) (by rw [show c + (n + 200) + k * (n + 200) = c + (k + 1) * (n + 200) by rw [Nat.add_mul]; omega, show d + n + k * n = d + (k + 1) * n by rw [Nat.add_mul]; omega]; exact hj))
theorem zl {R : Hp} (w : GV) (G : GS) (n r c d C : Nat) {J : Nat → Nat → GS → Prop} (hB : Bud n C J) (hn : 0 < n ∧ n ≤ 9) (hr : r ≤ 1000) (hok : GOk R w G) (hj : J (c + r * (n + 200)) (d + r * n) G) :
  Tri Tryz.prog 13 [.pointer (some ⟨w.g, 0, none⟩), .int .i64 (n : Int), .int .i64 (r : Int)] R (grL w G)
   (fun x R' L' => x = QF [.int .i64 ((G.rounds n r).leads n).1, .bool ((G.rounds n r).leads n).2] ∧ GrP w (G.rounds n r) R' L') := by
 refine Qn Tryz.func13 rfl Tryz.ntmps13 rfl (fun σ F Q hret hend hpan => ?_)
 try simp only [cA, nA]
 refine Qd fun K1 hK1 => Qc ?_
 refine Ps ?_
 refine Ps ?_
 refine Qe (hK1 _ _ _ (Qd fun K2 hK2 => Qd fun K3 hK3 => Qc ?_))
 refine Pm ?_
 refine Pm ?_
 refine Qe (hK3 _ _ _ (Qp ?_))
 refine Ql (E' := (fun (x : Nat × GV × Hp) => [(0, .pointer (some ⟨w.g, 0, none⟩)), (1, .int .i64 (n : Int)), (10, .int .i64 (r : Int)), (11, .int .i64 (x.1 : Int))]) (0, w, R)) (eC rfl (eC rfl (eC rfl (eC rfl eN)))) ?_
 refine Xm (M := (fun (x : Nat × GV × Hp) => grL x.2.1 (G.rounds n x.1) ++ F) (0, w, R)) sb_ ?_
 refine Xa (fun (x : Nat × GV × Hp) => [(0, .pointer (some ⟨w.g, 0, none⟩)), (1, .int .i64 (n : Int)), (10, .int .i64 (r : Int)), (11, .int .i64 (x.1 : Int))]) (fun (x : Nat × GV × Hp) => x.2.2) (fun (x : Nat × GV × Hp) => grL x.2.1 (G.rounds n x.1) ++ F) (fun (x : Nat × GV × Hp) => x.1 ≤ r ∧ (∃ vn css vo cs, x.2.1 = ⟨w.g, w.va, w.n, vn, css, vo, cs⟩) ∧ GOk x.2.2 x.2.1 (G.rounds n x.1) ∧ J (c + (r - x.1) * (n + 200)) (d + (r - x.1) * n) (G.rounds n x.1) ∧ R.le x.2.2) (fun (x : Nat × GV × Hp) => r - x.1) (0, w, R) (⟨by simp, ⟨_, _, _, _, rfl⟩, hok, by simpa [GS.rounds] using hj, Hp.le_refl _⟩) ?_
 rintro ⟨k, w1, R1⟩ ⟨hk, hg1, hok1, hj1, hR1⟩
 try dsimp only
 dsimp only at hk hg1 hok1 hj1 hR1
 obtain ⟨vn1, css1, vo1, cs1, rfl⟩ := hg1
 refine Qd fun K4 hK4 => Qc ?_
 refine Pa (QU rfl rfl) ?_
 refine Qe (hK4 _ _ _ (Qd fun K5 hK5 => ?_))
 refine Qm rfl (fun hc12 => ?_) (fun hc12 => ?_)
 try simp only [dT, dF, nT, nF, tF, fT] at hc12
 refine Qj (hK5 _ _ _ (Qd fun K7 hK7 => Qp (Qd fun K8 hK8 => Qd fun K9 hK9 => ?_)))
 have hk2 : k < r := by (try simp at hc12); omega
 have hj2 : J (c + (r - (k + 1)) * (n + 200) + 200 + n) (d + (r - (k + 1)) * n + n) (G.rounds n k) := by rw [show c + (r - (k + 1)) * (n + 200) + 200 + n = c + (r - k) * (n + 200) by rw [show r - k = (r - (k + 1)) + 1 by omega, Nat.add_mul]; omega, show d + (r - (k + 1)) * n + n = d + (r - k) * n by rw [show r - k = (r - (k + 1)) + 1 by omega, Nat.add_mul]; omega]; exact hj1
 obtain ⟨cc, hcc⟩ : ∃ cc, cc = c + (r - (k + 1)) * (n + 200) := ⟨_, rfl⟩
 obtain ⟨dd, hdd⟩ : ∃ dd, dd = d + (r - (k + 1)) * n := ⟨_, rfl⟩
 rw [← hcc, ← hdd] at hj2
 obtain ⟨G1, hG1⟩ : ∃ G1, G1 = G.rounds n k := ⟨_, rfl⟩
 rw [← hG1] at hj2 hok1 ⊢
 refine Qc ?_
 refine Pm ?_
 refine Pm ?_
 refine Qe (hK9 _ _ _ (Qp ?_))
 refine Ql (E' := (fun (y : Nat × GV × Hp) => [(0, .pointer (some ⟨w.g, 0, none⟩)), (1, .int .i64 (n : Int)), (10, .int .i64 (r : Int)), (11, .int .i64 (k : Int)), (13, .int .i64 (n : Int)), (14, .int .i64 (y.1 : Int))]) (0, ⟨w.g, w.va, w.n, vn1, css1, vo1, cs1⟩, R1)) (eC rfl (eC rfl (eC rfl (eC rfl (eC rfl (eC rfl eN)))))) ?_
 refine Xm (M := (fun (y : Nat × GV × Hp) => grL y.2.1 (G1.ticks y.1) ++ F) (0, ⟨w.g, w.va, w.n, vn1, css1, vo1, cs1⟩, R1)) sb_ ?_
 refine Xa (fun (y : Nat × GV × Hp) => [(0, .pointer (some ⟨w.g, 0, none⟩)), (1, .int .i64 (n : Int)), (10, .int .i64 (r : Int)), (11, .int .i64 (k : Int)), (13, .int .i64 (n : Int)), (14, .int .i64 (y.1 : Int))]) (fun (y : Nat × GV × Hp) => y.2.2) (fun (y : Nat × GV × Hp) => grL y.2.1 (G1.ticks y.1) ++ F) (fun (y : Nat × GV × Hp) => y.1 ≤ n ∧ (∃ vn css vo cs, y.2.1 = ⟨w.g, w.va, w.n, vn, css, vo, cs⟩) ∧ GOk y.2.2 y.2.1 (G1.ticks y.1) ∧ R1.le y.2.2) (fun (y : Nat × GV × Hp) => n - y.1) (0, ⟨w.g, w.va, w.n, vn1, css1, vo1, cs1⟩, R1) (⟨by simp, ⟨_, _, _, _, rfl⟩, hok1, Hp.le_refl _⟩) ?_
 rintro ⟨j, w2, R2⟩ ⟨hj3, hg2, hok2, hR2⟩
 try dsimp only
 dsimp only at hj3 hg2 hok2 hR2
 obtain ⟨vn2, css2, vo2, cs2, rfl⟩ := hg2
 refine Qd fun K10 hK10 => Qc ?_
 refine Pa (QU rfl rfl) ?_
 refine Qe (hK10 _ _ _ (Qd fun K11 hK11 => ?_))
 refine Qm rfl (fun hc15 => ?_) (fun hc15 => ?_)
 try simp only [dT, dF, nT, nF, tF, fT] at hc15
 refine Qj (hK11 _ _ _ (Qd fun K13 hK13 => Qp (Qd fun K14 hK14 => ?_)))
 have hj4 : j < n := by (try simp at hc15); omega
 have hjt := hB.ticks (c := cc + 200 + (n - j)) (d := dd + (n - j)) (k := j) (by omega) (by rw [show cc + 200 + (n - j) + j = cc + 200 + n by omega, show dd + (n - j) + j = dd + n by omega]; exact hj2)
 have hjt2 := hB.tick (cc + 200 + (n - (j + 1))) (dd + (n - (j + 1))) _ j hj4 (by rw [show cc + 200 + (n - (j + 1)) + 1 = cc + 200 + (n - j) by omega, show dd + (n - (j + 1)) + 1 = dd + (n - j) by omega]; exact hjt)
 refine Qc ?_
 refine Pm ?_
 refine Ps ?_
 refine Qe (hK14 _ _ _ (Qc ?_))
 refine Pm ?_
 refine Pm ?_
 refine Ra Tryz.call26 (QiT ⟨w.g, w.va, w.n, vn2, css2, vo2, cs2⟩ (G1.ticks j) j hok2 (by rw [hB.ln _ _ _ hjt]; exact hj4) (hB.gw _ _ _ hjt) (hB.gw _ _ _ hjt2)) ?_
 rintro x R4 L' hR4 ⟨vn4, css4, vo4, cs4, hok4, rfl⟩
 rw [← yT]
 try simp only [cA, nA]
 refine Qe (hK13 _ _ _ (Qc ?_))
 first | refine Pa (Qz rfl rfl om_) ?_ | refine Pa (QS rfl rfl) ?_
 refine Pm ?_
 refine Qe ?_
 refine Xs (q' := QY _ _ _ _ _ _ _) rfl ?_
 refine QI ((j + 1, ⟨w.g, w.va, w.n, vn4, css4, vo4, cs4⟩, R4)) (⟨by dsimp only; omega, ⟨_, _, _, _, rfl⟩, by dsimp only; rw [yT]; exact hok4, Hp.le_trans hR2 hR4⟩) (by dsimp only; omega) (eC rfl (eC rfl (eC rfl (eC rfl (eC rfl (eC rfl eN)))))) rfl sb_
 try simp only [dT, dF, nT, nF, tF, fT] at hc15
 refine QQ (hK8 _ _ _ (Qd fun K15 hK15 => ?_))
 have hjn0 : j = n := by (try simp at hc15); omega
 have hjt := hB.ticks (c := cc + 200) (d := dd) (k := n) (Nat.le_refl n) hj2
 rw [hjn0] at hok2 ⊢
 obtain ⟨G2, hG2⟩ : ∃ G2, G2 = G1.ticks n := ⟨_, rfl⟩
 rw [← hG2] at hjt hok2 ⊢
 refine Qc ?_
 refine Ps ?_
 refine Qe (hK15 _ _ _ (Qp ?_))
 refine Ql (E' := (fun (z : Nat × GV × Hp) => [(0, .pointer (some ⟨w.g, 0, none⟩)), (1, .int .i64 (n : Int)), (9, .int .i64 (z.1 : Int)), (10, .int .i64 (r : Int)), (11, .int .i64 (k : Int))]) (0, ⟨w.g, w.va, w.n, vn2, css2, vo2, cs2⟩, R2)) (eC rfl (eC rfl (eC rfl (eC rfl (eC rfl eN))))) ?_
 refine Xm (M := (fun (z : Nat × GV × Hp) => grL z.2.1 (G2.dels z.1) ++ F) (0, ⟨w.g, w.va, w.n, vn2, css2, vo2, cs2⟩, R2)) sb_ ?_
 refine Xa (fun (z : Nat × GV × Hp) => [(0, .pointer (some ⟨w.g, 0, none⟩)), (1, .int .i64 (n : Int)), (9, .int .i64 (z.1 : Int)), (10, .int .i64 (r : Int)), (11, .int .i64 (k : Int))]) (fun (z : Nat × GV × Hp) => z.2.2) (fun (z : Nat × GV × Hp) => grL z.2.1 (G2.dels z.1) ++ F) (fun (z : Nat × GV × Hp) => z.1 ≤ 200 ∧ (∃ vn css vo cs, z.2.1 = ⟨w.g, w.va, w.n, vn, css, vo, cs⟩) ∧ GOk z.2.2 z.2.1 (G2.dels z.1) ∧ R2.le z.2.2) (fun (z : Nat × GV × Hp) => 200 - z.1) (0, ⟨w.g, w.va, w.n, vn2, css2, vo2, cs2⟩, R2) (⟨by simp, ⟨_, _, _, _, rfl⟩, hok2, Hp.le_refl _⟩) ?_
 rintro ⟨q, w3, R3⟩ ⟨hq, hg3, hok3, hR3⟩
 try dsimp only
 dsimp only at hq hg3 hok3 hR3
 obtain ⟨vn3, css3, vo3, cs3, rfl⟩ := hg3
 refine Qd fun K16 hK16 => Qd fun K17 hK17 => Qc ?_
 refine Pm ?_
 refine Pa (QU rfl rfl) ?_
 refine Pm ?_
 refine QL 23 rfl (fun hg23 => ?_) (fun hg23 => ?_)
 try simp only [dT, dF, nT, nF, tF, fT] at hg23
 refine Pb (Qg rfl) ?_
 refine Pb (Ca Tryz.call28 (QfA ⟨w.g, w.va, w.n, vn3, css3, vo3, cs3⟩)) ?_
 refine Pb (Ca Tryz.call29 (Qbl w.n vn3 (G2.dels q).last (G2.dels q).st css3)) ?_
 refine Pb (XI rfl rfl) ?_
 refine Pa (Qr rfl rfl) ?_
 refine Qe (hK17 _ _ _ ?_)
 refine Ql (eL 0 rfl (eL 1 rfl (eL 9 rfl (eL 10 rfl (eL 11 rfl (eL 28 rfl eN)))))) ?_
 refine Qm rfl (fun hc28 => ?_) (fun hc28 => ?_)
 try simp only [dT, dF, nT, nF, tF, fT] at hc28
 refine Qj (hK16 _ _ _ (Qd fun K19 hK19 => Qp ?_))
 have hq2 : q < 200 := by (try simp at hg23); omega
 have hln : (G2.dels q).st.length > 0 := by (try simp at hc28); omega
 have hd1 : (G2.dels q).deliver 0 = G2.dels (q + 1) := by show _ = (G2.dels q).del1; unfold GS.del1; rw [if_pos hln]
 have hjd := hB.dels (c := cc + (200 - q)) (k := q) (by rw [show cc + (200 - q) + q = cc + 200 by omega]; exact hjt)
 have hjd2 := hB.del (cc + (200 - (q + 1))) dd _ 0 (by rw [show cc + (200 - (q + 1)) + 1 = cc + (200 - q) by omega]; exact hjd)
 refine Qc ?_
 refine Pm ?_
 refine Ra Tryz.call31 (Qe1 ⟨w.g, w.va, w.n, vn3, css3, vo3, cs3⟩ (G2.dels q) 0 hok3 (hB.gw _ _ _ hjd) (hB.gw _ _ _ hjd2)) ?_
 rintro x R5 L' hR5 ⟨rfl, vn5, css5, vo5, cs5, hok5, rfl⟩
 rw [hd1]
 try simp only [cA, nA]
 refine Qe (hK19 _ _ _ (Qc ?_))
 refine Pm ?_
 first | refine Pa (Qz rfl rfl om_) ?_ | refine Pa (QS rfl rfl) ?_
 refine Ps ?_
 refine Qe ?_
 refine Xs (q' := QY _ _ _ _ _ _ _) rfl ?_
 refine QI ((q + 1, ⟨w.g, w.va, w.n, vn5, css5, vo5, cs5⟩, R5)) (⟨by dsimp only; omega, ⟨_, _, _, _, rfl⟩, by dsimp only; rw [hd1] at hok5; exact hok5, Hp.le_trans hR3 hR5⟩) (by dsimp only; omega) (eC rfl (eC rfl (eC rfl (eC rfl (eC rfl eN))))) rfl sb_
 try simp only [dT, dF, nT, nF, tF, fT] at hc28
 refine QQ (hK7 _ _ _ ?_)
 have hfin : G2.dels q = G2.dels 200 := by first | (exact (QbA (by omega) (by omega)).symm) | (rw [show q = 200 by omega])
 have hrd : G2.dels 200 = G.rounds n (k + 1) := by rw [hG2, hG1]; rfl
 have hjn : J (c + (r - (k + 1)) * (n + 200)) (d + (r - (k + 1)) * n) (G.rounds n (k + 1)) := by rw [← hrd, ← hcc, ← hdd]; exact hB.dels hjt
 rw [hfin, hrd] at hok3 ⊢
 refine Qc ?_
 first | refine Pa (Qz rfl rfl om_) ?_ | refine Pa (QS rfl rfl) ?_
 refine Pm ?_
 refine Qe ?_
 refine Xs (q' := QY _ _ _ _ _ _ _) rfl ?_
 refine QI ((k + 1, ⟨w.g, w.va, w.n, vn3, css3, vo3, cs3⟩, R3)) (⟨by dsimp only; omega, ⟨_, _, _, _, rfl⟩, hok3, by dsimp only; exact hjn, Hp.le_trans hR1 (Hp.le_trans hR2 hR3)⟩) (by dsimp only; omega) (eC rfl (eC rfl (eC rfl (eC rfl eN)))) rfl sb_
 try simp only [dT, dF, nT, nF, tF, fT] at hg23
 refine Pk ?_
 refine Pk ?_
 refine Pk ?_
 refine Pk ?_
 refine Pa (Qq rfl rfl) ?_
 refine Qe (hK17 _ _ _ (Qt rfl (QQ (hK7 _ _ _ ?_))))
 have hfin : G2.dels q = G2.dels 200 := by first | (exact (QbA (by omega) (by omega)).symm) | (rw [show q = 200 by omega])
 have hrd : G2.dels 200 = G.rounds n (k + 1) := by rw [hG2, hG1]; rfl
 have hjn : J (c + (r - (k + 1)) * (n + 200)) (d + (r - (k + 1)) * n) (G.rounds n (k + 1)) := by rw [← hrd, ← hcc, ← hdd]; exact hB.dels hjt
 rw [hfin, hrd] at hok3 ⊢
 refine Qc ?_
 first | refine Pa (Qz rfl rfl om_) ?_ | refine Pa (QS rfl rfl) ?_
 refine Pm ?_
 refine Qe ?_
 refine Xs (q' := QY _ _ _ _ _ _ _) rfl ?_
 refine QI ((k + 1, ⟨w.g, w.va, w.n, vn3, css3, vo3, cs3⟩, R3)) (⟨by dsimp only; omega, ⟨_, _, _, _, rfl⟩, hok3, by dsimp only; exact hjn, Hp.le_trans hR1 (Hp.le_trans hR2 hR3)⟩) (by dsimp only; omega) (eC rfl (eC rfl (eC rfl (eC rfl eN)))) rfl sb_
 try simp only [dT, dF, nT, nF, tF, fT] at hc12
 refine QQ (hK2 _ _ _ (Qd fun K20 hK20 => ?_))
 have hkr : k = r := by (try simp at hc12); omega
 have hms := hB.ln _ _ _ hj1
 rw [hkr] at hok1 hms ⊢
 refine Qc ?_
 refine Pm ?_
 refine Pm ?_
 refine Pa (Ca Tryz.call36 (Qky ⟨w.g, w.va, w.n, vn1, css1, vo1, cs1⟩ (G.rounds n r) n hok1.len (by rw [hms]; omega) hn.2)) ?_
 refine Pa (Qo rfl rfl) ?_
 refine Pa (Qo rfl rfl) ?_
 refine Ps ?_
 refine Ps ?_
 refine Qe (hK20 _ _ _ ?_)
 refine Ql (eL 6 rfl (eL 7 rfl eN)) ?_
 refine Qi (hret _ _ _ ?_)
 apply XO Tryz.results13 (.cons (Qh rfl) (.cons (Qh rfl) .nil)) _ (grL ⟨w.g, w.va, w.n, vn1, css1, vo1, cs1⟩ (G.rounds n r)) hR1 rfl
 case hp => exact ⟨rfl, vn1, css1, vo1, cs1, hok1, rfl⟩
 case hS => exact sb_
end V
end Go.Proofs.YtenfjpigffjgmaaGreat
set_option linter.unusedSimpArgs false
set_option linter.unusedVariables false
set_option maxRecDepth 100000
namespace Go.Proofs.YtenfjpigffjgmaaGreat
open Go.RowKit
namespace V
set_option maxHeartbeats 4000000
theorem Qe4 {R : Hp} (w : GV) (G : GS) (hok : GOk R w G) : Tri Tryz.prog 15 [.pointer (some ⟨w.g, 0, none⟩)] R (grL w G)
  (fun r R' L' => r = w.vo ∧ R' = R ∧ ∃ vn css vo cs, GOk R' ⟨w.g, w.va, w.n, vn, css, vo, cs⟩ G.outs ∧ L' = grL ⟨w.g, w.va, w.n, vn, css, vo, cs⟩ G.outs ++ [ocS w.vo G.out]) := by
 refine Qn Tryz.func15 rfl Tryz.ntmps15 rfl (fun σ F Q hret hend hpan => ?_)
 try simp only [cA, nA]
 refine Qd fun K1 hK1 => Qc ?_
 refine Ps ?_
 refine Qe (hK1 _ _ _ (Qd fun K2 hK2 => Qd fun K3 hK3 => Qc ?_))
 refine Pm ?_
 refine Pa (XZ Tryz.underlying26 rfl rfl) ?_
 refine Qe (hK3 _ _ _ (Qt rfl (Qj (hK2 _ _ _ (Qd fun K4 hK4 => Qc ?_)))))
 refine Pm ?_
 refine Pa (Qf rfl) ?_
 refine Pa (Ga Tryz.underlying90 Tryz.sizeOf34) ?_
 first | refine Pa (La o34) ?_ | refine Pa (Ls o34) ?_
 refine Ps ?_
 refine Qe (hK4 _ _ _ (Qd fun K5 hK5 => Qc ?_))
 refine Pm ?_
 refine Pa (Qf rfl) ?_
 refine Pa (Ga Tryz.underlying90 Tryz.sizeOf34) ?_
 refine Sa o34 ?_
 refine YO (A := ocS (.slice none 0 0) []) (Yk _ _) ?_
 refine Qe (hK5 _ _ _ (Qd fun K6 hK6 => Qc ?_))
 refine Pm ?_
 refine Ps ?_
 refine Qe (hK6 _ _ _ (Qi (hret _ _ _ ?_)))
 refine Ea Tryz.results15 (.cons (Qh rfl) .nil) (grL ⟨w.g, w.va, w.n, w.vn, w.css, .slice none 0 0, w.cs⟩ G.outs ++ [ocS w.vo G.out]) le_ ?_
 exact ⟨rfl, rfl, w.vn, w.css, .slice none 0 0, w.cs, ⟨hok.len, hok.nd, hok.els⟩, rfl⟩
theorem Qdv {cs : List MV} {ms : List MS} {i : Nat} {c : MV} {m : MS} (hc : cs[i]? = some c) (hm : ms[i]? = some m) : ∀ h, Yq (ZR cs ms) h → ∃ q cap, c.vl = .slice q m.l.length cap := fun h k => by
 obtain ⟨h1, h2, _, _, _, d, _⟩ := QbC (qL hc hm) h k
 obtain ⟨_, h3, _, _, _, _, e⟩ := d
 obtain ⟨_, h4, _, _, _, _, e⟩ := e
 obtain ⟨h5, _, _, _, _, f, _⟩ := e
 obtain ⟨q, cap, hq, _⟩ := Zu _ f
 exact ⟨q, cap, hq⟩
structure AwOK (t : Int) : Prop where
 l1 : ((GS.new 3).rounds 3 60).leads 3 = (0, true)
 p : (((GS.new 3).rounds 3 60).propose 0 [97]).1 = (2, t)
 t0 : t > 0
 l2 : ((((GS.new 3).rounds 3 60).propose 0 [97]).2.rounds 3 10).leads 3 = (0, true)
 o : ((((GS.new 3).rounds 3 60).propose 0 [97]).2.rounds 3 10).out.length = 3
 d : ∀ m, ((((GS.new 3).rounds 3 60).propose 0 [97]).2.rounds 3 10).ms[0]? = some m → m.l.length = 1
 a : ∀ m, ((((GS.new 3).rounds 3 60).propose 0 [97]).2.rounds 3 10).ms[1]? = some m → m.ap = 2
theorem Qh5 {R : Hp} {C c d : Nat} {J : Nat → Nat → GS → Prop} (hB : Bud 3 C J) (hj : J (c + 10 * (3 + 200) + 1 + 60 * (3 + 200)) (d + 10 * 3 + 1 + 60 * 3) (GS.new 3)) (t : Int) (ha : AwOK t) : Tri Tryz.prog 9 [] R [] (fun v R' L' => v = .bool true ∧ L' = []) := by
 have hj1 := hB.rounds (k := 60) (c := c + 10 * (3 + 200) + 1) (d := d + 10 * 3 + 1) hj
 have hj2 := hB.prop _ _ _ 0 [97] (by omega) (by decide) hj1
 have hj3 := hB.rounds (k := 10) (c := c) (d := d) hj2
 have h1 := ha.l1
 have h2 := ha.p
 have h3 := ha.l2
 have h4 := ha.o
 have h5 := ha.d
 have h6 := ha.a
 have ht := ha.t0
 have hw1 := hB.gw _ _ _ hj1
 have hw2 := hB.gw _ _ _ hj2
 obtain ⟨G1, hG1⟩ : ∃ G1, G1 = (GS.new 3).rounds 3 60 := ⟨_, rfl⟩
 rw [← hG1] at h1 h2 h3 h4 h5 h6 hj1 hj2 hj3 hw1 hw2
 obtain ⟨G2, hG2⟩ : ∃ G2, G2 = (G1.propose 0 [97]).2 := ⟨_, rfl⟩
 rw [← hG2] at h3 h4 h5 h6 hj2 hj3 hw2
 obtain ⟨G3, hG3⟩ : ∃ G3, G3 = G2.rounds 3 10 := ⟨_, rfl⟩
 rw [← hG3] at h3 h4 h5 h6 hj3
 have hn1 := hB.ln _ _ _ hj1
 have hn3 := hB.ln _ _ _ hj3
 obtain ⟨m0, hm0⟩ : ∃ m, G3.outs.ms[0]? = some m := ⟨_, List.getElem?_eq_getElem (by show 0 < G3.ms.length; omega)⟩
 obtain ⟨m1, hm1⟩ : ∃ m, G3.outs.ms[1]? = some m := ⟨_, List.getElem?_eq_getElem (by show 1 < G3.ms.length; omega)⟩
 have h5 := h5 m0 hm0
 have h6 := h6 m1 hm1
 refine Qn Tryz.func9 rfl Tryz.ntmps9 rfl (fun σ F Q hret hend hpan => ?_)
 try simp only [cA, nA]
 refine Ql eN ?_
 refine Qd fun K1 hK1 => Qc ?_
 refine Ps ?_
 refine Qe (hK1 _ _ _ (Qd fun K2 hK2 => Qc ?_))
 refine Ra Tryz.call19 (Qfz 3 (by decide)) ?_
 rintro r R1 L' hR1 ⟨w, rfl, hok, rfl⟩
 try simp only [cA, nA]
 refine Pm ?_
 refine Pa (Qo rfl rfl) ?_
 refine Pa (Qo rfl rfl) ?_
 refine Ps ?_
 refine Ps ?_
 refine Qe (hK2 _ _ _ (Qd fun K3 hK3 => Qd fun K4 hK4 => Qc ?_))
 refine Pm ?_
 refine Pa ((Yld.to (u := .bool false) (XW rfl rfl) (by simp))) ?_
 refine Pm ?_
 refine Pb (Qg rfl) ?_
 refine Pb (Ca Tryz.call28 ((QfA w))) ?_
 refine Pb (XZ Tryz.underlying66 rfl rfl) ?_
 refine Pa (Qq rfl rfl) ?_
 refine Qe (hK4 _ _ _ (Qt rfl (Qj (hK3 _ _ _ (Qd fun K5 hK5 => Qc ?_)))))
 refine Pm ?_
 refine Ra Tryz.call13 (zl w (GS.new 3) 3 60 (c + 10 * (3 + 200) + 1) (d + 10 * 3 + 1) C hB (by decide) (by decide) hok hj) ?_
 rintro r R2 L' hR2 ⟨rfl, vn2, css2, vo2, cs2, hok2, rfl⟩
 rw [← hG1] at hok2 ⊢
 rw [h1]
 dsimp only
 try simp only [cA, nA]
 refine Pm ?_
 refine Pa (Qo rfl rfl) ?_
 refine Pa (Qo rfl rfl) ?_
 refine Ps ?_
 refine Ps ?_
 refine Qe (hK5 _ _ _ ?_)
 refine Ql (eL 1 rfl (eL 3 rfl (eL 4 rfl eN))) ?_
 refine Qd fun K6 hK6 => Qc ?_
 refine Pm ?_
 refine Pm ?_
 refine Ra Tryz.call16 (Qa2 ⟨w.g, w.va, w.n, vn2, css2, vo2, cs2⟩ G1 0 [97] (by decide) hok2 (by omega) hw1 (by rw [← hG2]; exact hw2)) ?_
 rintro r R3 L' hR3 ⟨rfl, vn3, css3, vo3, cs3, hok3, rfl⟩
 rw [← hG2] at hok3 ⊢
 rw [h2]
 dsimp only
 try simp only [cA, nA]
 refine Pm ?_
 refine Pa (Qo rfl rfl) ?_
 refine Pa (Qo rfl rfl) ?_
 refine Ps ?_
 refine Ps ?_
 refine Qe (hK6 _ _ _ (Qd fun K7 hK7 => Qc ?_))
 refine Pm ?_
 refine Ra Tryz.call13 (zl ⟨w.g, w.va, w.n, vn3, css3, vo3, cs3⟩ G2 3 10 c d C hB (by decide) (by decide) hok3 hj2) ?_
 rintro r R4 L' hR4 ⟨rfl, vn4, css4, vo4, cs4, hok4, rfl⟩
 rw [← hG3] at hok4 ⊢
 rw [h3]
 dsimp only
 refine QaC (A := ocS vo4 G3.out) fd_ qc (fun hvo4 => ?_)
 try simp only [cA, nA]
 refine Pm ?_
 refine Pa (Qo rfl rfl) ?_
 refine Pa (Qo rfl rfl) ?_
 refine Ps ?_
 refine Ps ?_
 refine Qe (hK7 _ _ _ (Qd fun K8 hK8 => Qc ?_))
 refine Pm ?_
 refine Pm ?_
 refine Pb (Qg rfl) ?_
 refine Pa (Qr rfl rfl) ?_
 refine Pm ?_
 refine Pb (Qg rfl) ?_
 refine Pb ((Yld.to (u := .bool true) (QO rfl rfl) (by simp))) ?_
 refine Pa (Qr rfl rfl) ?_
 refine Pm ?_
 refine Pb (Qg rfl) ?_
 refine Pb ((Yld.to (u := .bool true) (XI rfl rfl) (by simp; omega))) ?_
 refine Pa (Qr rfl rfl) ?_
 refine Pm ?_
 refine Pb (Qg rfl) ?_
 refine XP (wn1 rfl rfl rfl rfl) rfl Tryz.call15 rfl (Qe4 ⟨w.g, w.va, w.n, vn4, css4, vo4, cs4⟩ G3 hok4) sp_ (fun _ _ _ _ h => h.elim) ?_
 rintro r R5 L' hR5 ⟨rfl, rfl, vn5, css5, vo5, cs5, hok5, rfl⟩
 obtain ⟨c0, hc0, _, _⟩ := hok5.at hm0
 obtain ⟨c1, hc1, _, _⟩ := hok5.at hm1
 refine QaC (A := grA ⟨w.g, w.va, w.n, vn5, css5, vo5, cs5⟩ G3.outs) fd_ (Qdv hc0 hm0) (fun hq => ?_)
 obtain ⟨q0, cap0, hq0⟩ := hq
 try simp only [cA, nA]
 first | refine Pb (QB Tryz.underlying34 rfl) ?_ | refine Pb (Qy Tryz.underlying34 rfl fd_) ?_
 refine Pb ((Yld.to (u := .bool true) (QO rfl rfl) (by rw [h4]; simp))) ?_
 refine Pa (Qr rfl rfl) ?_
 refine Pm ?_
 refine Pb (Qg rfl) ?_
 refine Pb (Ca Tryz.call17 ((QhP (w := ⟨w.g, w.va, w.n, vn5, css5, vo5, cs5⟩) (i := 0) hc0 hm0).eq3 hq0)) ?_
 first | refine Pb (QB Tryz.underlying42 rfl) ?_ | refine Pb (Qy Tryz.underlying42 rfl fd_) ?_
 refine Pb ((Yld.to (u := .bool true) (QO rfl rfl) (by rw [h5]; simp))) ?_
 refine Pa (Qr rfl rfl) ?_
 refine Pm ?_
 refine Pb (Qg rfl) ?_
 refine Pb (Ca Tryz.call18 ((QgD (w := ⟨w.g, w.va, w.n, vn5, css5, vo5, cs5⟩) (i := 1) hc1 hm1).eq3 (by rw [h6]))) ?_
 refine Pb ((Yld.to (u := .bool true) (QO rfl rfl) (by simp))) ?_
 refine Pa (Qr rfl rfl) ?_
 refine Ps ?_
 refine Qe (hK8 _ _ _ ?_)
 refine Ql (eL 0 rfl eN) ?_
 refine Qi (hret _ _ _ ?_)
 refine Ea Tryz.results9 (.cons (Qh rfl) .nil) [] (by exact Hp.le_trans hR1 (Hp.le_trans hR2 (Hp.le_trans hR3 hR4))) ?_
 exact ⟨rfl, rfl⟩
end V
end Go.Proofs.YtenfjpigffjgmaaGreat
set_option linter.unusedSimpArgs false
set_option linter.unusedVariables false
set_option maxRecDepth 100000
namespace Go.Proofs.YtenfjpigffjgmaaGreat
open Go.RowKit
namespace V
set_option maxHeartbeats 4000000
def Qln : Elt Bs where
 P := fun R s cs => cs = [.string (str s)]
 sz := 1
 mono := fun hR h => h
 len := fun h => by subst h; rfl
 one := fun h u hu => by subst h; simp at hu; subst hu; rfl
def QjC : Elt Bool where
 P := fun R b cs => cs = [.bool b]
 sz := 1
 mono := fun hR h => h
 len := fun h => by subst h; rfl
 one := fun h u hu => by subst h; simp at hu; subst hu; rfl
theorem QjV {R : Hp} {v : Value} {ys : List Bs} (h : zj 1 QdE R [v] ys) : FrX Qln R ys v ∧ ∀ s ∈ ys, s.length ≤ maxLen := by
 refine ⟨by have := QdK (T := Qln) (fun (x : List UInt8) => x) (fun c x hc h => by exact (show _ = _ from h.1)) h; simpa using this, fun s hs => ?_⟩
 obtain ⟨c, hc⟩ := Qil h s hs
 exact hc.2
theorem Qji {R : Hp} {v : Value} {ys : List Bool} (h : zj 1 Qca R [v] ys) : FrX QjC R ys v := by
 have := QdK (T := QjC) (fun (x : Bool) => x) (fun c x hc h => by exact (show _ = _ from h)) h
 simpa using this
def qQ (a b : List Bs) : Bool := decide (a.take (min a.length b.length) = b.take (min a.length b.length))
theorem QeO {α : Type} {l m : List α} {i : Nat} {x y : α} (hx : l[i]? = some x) (hy : m[i]? = some y) (h : l.take i = m.take i) (e : x = y) : l.take (i + 1) = m.take (i + 1) := by
 rw [List.take_add_one, List.take_add_one, hx, hy, h, e]
theorem Qh3 {a b : List Bs} {i : Nat} {x y : Bs} (hx : a[i]? = some x) (hy : b[i]? = some y) (h : ¬ x = y) : qQ a b = false := by
 unfold qQ
 refine decide_eq_false fun e => h ?_
 have h1 := (List.getElem?_eq_some_iff.1 hx).1
 have h2 := (List.getElem?_eq_some_iff.1 hy).1
 have := congrArg (fun l => l[i]?) e
 simp only [List.getElem?_take_of_lt (show i < min a.length b.length by omega), hx, hy] at this
 simpa using this
theorem Qcc {a b : List Bs} {i : Nat} (h : a.take i = b.take i) (hi : min a.length b.length ≤ i) : qQ a b = true := by
 unfold qQ
 refine decide_eq_true ?_
 have := congrArg (List.take (min a.length b.length)) h
 rwa [List.take_take, List.take_take, Nat.min_eq_left hi] at this
theorem Qjj {R : Hp} (va vb : Value) (a b : List Bs) : QTri Tryz.prog 27 [va, vb] R [lsS va a, lsS vb b] (.bool (qQ a b)) := by
 refine Tri.q ?_
 refine Qn Tryz.func27 rfl Tryz.ntmps27 rfl (fun σ F Q hret hend hpan => ?_)
 try simp only [cA, nA]
 refine ZG (A := lsS va a) fd_ Zu (fun hsa => ?_)
 refine ZG (A := lsS vb b) fd_ Zu (fun hsb => ?_)
 obtain ⟨qa, ca, rfl, ha1, ha2, _⟩ := hsa
 obtain ⟨qb, cb, rfl, hb1, hb2, _⟩ := hsb
 unfold maxLen at ha2 hb2
 refine Qd fun K1 hK1 => Qc ?_
 refine Ps ?_
 refine Qe (hK1 _ _ _ (Qd fun K2 hK2 => Qd fun K3 hK3 => Qc ?_))
 refine Ps ?_
 refine Qe (hK3 _ _ _ (Qp ?_))
 refine Ql (E' := (fun (x : Nat) => [(0, .slice qa a.length ca), (1, .slice qb b.length cb), (5, .int .i64 (x : Int))]) 0) (eC rfl (eC rfl (eC rfl eN))) ?_
 refine Xm (M := (fun (x : Nat) => lsS (.slice qa a.length ca) a :: lsS (.slice qb b.length cb) b :: F) 0) sb_ ?_
 refine Xa (fun (x : Nat) => [(0, .slice qa a.length ca), (1, .slice qb b.length cb), (5, .int .i64 (x : Int))]) (fun (x : Nat) => R) (fun (x : Nat) => lsS (.slice qa a.length ca) a :: lsS (.slice qb b.length cb) b :: F) (fun (x : Nat) => x ≤ min a.length b.length ∧ a.take x = b.take x) (fun (x : Nat) => a.length - x) 0 (⟨by simp, by simp⟩) ?_
 rintro i ⟨hi, he⟩
 try dsimp only
 refine Qd fun K4 hK4 => Qd fun K5 hK5 => Qc ?_
 refine Pm ?_
 refine Pm ?_
 first | refine Pa (QB Tryz.underlying42 rfl) ?_ | refine Pa (Qy Tryz.underlying42 rfl fd_) ?_
 refine Pa (QU rfl rfl) ?_
 refine Pm ?_
 refine QL 10 rfl (fun hg10 => ?_) (fun hg10 => ?_)
 try simp only [dT, dF, nT, nF, tF, fT] at hg10
 refine Pb (Qg rfl) ?_
 refine Pb (Qg rfl) ?_
 first | refine Pb (QB Tryz.underlying42 rfl) ?_ | refine Pb (Qy Tryz.underlying42 rfl fd_) ?_
 refine Pb (QU rfl rfl) ?_
 refine Pa (Qr rfl rfl) ?_
 refine Qe (hK5 _ _ _ ?_)
 refine Qm rfl (fun hc15 => ?_) (fun hc15 => ?_)
 try simp only [dT, dF, nT, nF, tF, fT] at hc15
 refine Qj (hK4 _ _ _ (Qd fun K7 hK7 => Qp (Qd fun K8 hK8 => ?_)))
 have hi1 : i < a.length ∧ i < b.length := by (try simp at hg10 hc15); omega
 obtain ⟨x, hx⟩ : ∃ x, a[i]? = some x := ⟨_, List.getElem?_eq_getElem hi1.1⟩
 obtain ⟨y, hy⟩ : ∃ x, b[i]? = some x := ⟨_, List.getElem?_eq_getElem hi1.2⟩
 have hna : nth (bsV a) ((i : Int).toNat * 1 + 0) = some (.string (str x)) := by rw [Int.toNat_natCast, Zw]; simp [bsV, hx]
 have hnb : nth (bsV b) ((i : Int).toNat * 1 + 0) = some (.string (str y)) := by rw [Int.toNat_natCast, Zw]; simp [bsV, hy]
 refine Xw (by kernel_rfl) (by kernel_rfl) ?_
 refine Qa (Qg rfl) ?_
 refine Qa (Qg rfl) ?_
 refine Qa ((Qs (sz := 1) (n := a.length) Tryz.underlying42 Tryz.sizeOf9 rfl rfl fd_ (by omega))) ?_
 refine Qa ((Xx o9 rfl fd_ hna)) ?_
 refine Qa (Qg rfl) ?_
 refine Qa (Qg rfl) ?_
 refine Qa ((Qs (sz := 1) (n := b.length) Tryz.underlying42 Tryz.sizeOf9 rfl rfl fd_ (by omega))) ?_
 refine Qa ((Xx o9 rfl fd_ hnb)) ?_
 refine Qa (jO rfl rfl) ?_
 refine Xi ?_
 refine hK8 _ _ _ ?_
 refine Ql (eL 0 rfl (eL 1 rfl (eL 5 rfl (eL 26 rfl eN)))) ?_
 refine Qm rfl (fun hc26 => ?_) (fun hc26 => ?_)
 try simp only [dT, dF, nT, nF, tF, fT] at hc26
 refine Qd fun K10 hK10 => Qc ?_
 refine Ps ?_
 refine Qe (hK10 _ _ _ (Qi (hret _ _ _ ?_)))
 refine Ea Tryz.results27 (.cons (Qh rfl) .nil) [lsS (.slice qa a.length ca) a, lsS (.slice qb b.length cb) b] le_ ?_
 rw [Qh3 hx hy (by simpa using hc26)]; exact ⟨rfl, rfl, rfl⟩
 try simp only [dT, dF, nT, nF, tF, fT] at hc26
 refine Qj (hK7 _ _ _ (Qc ?_))
 refine Pm ?_
 first | refine Pa (Qz rfl rfl om_) ?_ | refine Pa (QS rfl rfl) ?_
 refine Ps ?_
 refine Qe ?_
 refine Xs (q' := QY _ _ _ _ _ _ _) rfl ?_
 refine QI (i + 1) (⟨by omega, QeO hx hy he (by simpa using hc26)⟩) (by omega) (eC rfl (eC rfl (eC rfl eN))) rfl sb_
 try simp only [dT, dF, nT, nF, tF, fT] at hc15
 refine QQ (hK2 _ _ _ ?_)
 refine Ql eN ?_
 refine Qd fun K11 hK11 => Qc ?_
 refine Ps ?_
 refine Qe (hK11 _ _ _ (Qi (hret _ _ _ ?_)))
 refine Ea Tryz.results27 (.cons (Qh rfl) .nil) [lsS (.slice qa a.length ca) a, lsS (.slice qb b.length cb) b] le_ ?_
 rw [Qcc he (by (try simp at hg10); omega)]; exact ⟨rfl, rfl, rfl⟩
 try simp only [dT, dF, nT, nF, tF, fT] at hg10
 refine Pk ?_
 refine Pk ?_
 refine Pk ?_
 refine Pk ?_
 refine Pa (Qq rfl rfl) ?_
 refine Qe (hK5 _ _ _ (Qt rfl (QQ (hK2 _ _ _ ?_))))
 refine Ql eN ?_
 refine Qd fun K12 hK12 => Qc ?_
 refine Ps ?_
 refine Qe (hK12 _ _ _ (Qi (hret _ _ _ ?_)))
 refine Ea Tryz.results27 (.cons (Qh rfl) .nil) [lsS (.slice qa a.length ca) a, lsS (.slice qb b.length cb) b] le_ ?_
 rw [Qcc he (by (try simp at hg10 hc15); omega)]; exact ⟨rfl, rfl, rfl⟩
theorem QhQ {R : Hp} {w : GV} {G : GS} {i : Nat} {c : MV} {m : MS} (hc : w.cs[i]? = some c) (hm : G.ms[i]? = some m) (vb : Value) (b : List Bs) : QTri Tryz.prog 27 [c.vl, vb] R [grA w G, lsS vb b] (.bool (qQ m.l b)) :=
 QTri.big (qL hc hm) ((Qjj c.vl vb m.l b).split (L := Ye c m ++ [lsS vb b]) sp_)
theorem yA {x : ND} (h : x.out = []) : x.feedAll.out = (x.others.map x.feedMsg).map x.stamp := by rw [XT]; unfold ND.sends; simp [h]
theorem Qcd {x : ND} (h : x.out = []) : x.askAll.out = (x.others.map x.askMsg).map x.stamp := by unfold ND.askAll; rw [qR]; unfold ND.sends; simp [h]
theorem Qbf {y : ND} (h : y.out = []) (m : Msg) : (y.send m).out = [y.stamp m] := by unfold ND.send; rw [h]; rfl
structure LB (T I : Int) (g : LG) : Prop where
 term : 0 ≤ g.term ∧ g.term ≤ T
 vote : -1 ≤ g.vote ∧ g.vote < 9
 base : 0 ≤ g.base
 baseT : 0 ≤ g.baseT ∧ g.baseT ≤ T
 last : g.last ≤ I
 all : ∀ e ∈ g.all, (0 ≤ e.1 ∧ e.1 ≤ T) ∧ e.2.length ≤ 100
 st : ((unS g.state).length : Int) ≤ g.base ∧ ∀ s ∈ unS g.state, s.length ≤ 100
 stl : g.state.length ≤ 1000000
theorem LB.mono {T T' I I' : Int} {g : LG} (h : LB T I g) (hT : T ≤ T') (hI : I ≤ I') : LB T' I' g :=
 ⟨⟨h.term.1, Int.le_trans h.term.2 hT⟩, h.vote, h.base, ⟨h.baseT.1, Int.le_trans h.baseT.2 hT⟩, Int.le_trans h.last hI, fun e he => ⟨⟨(h.all e he).1.1, Int.le_trans (h.all e he).1.2 hT⟩, (h.all e he).2⟩, h.st, h.stl⟩
theorem LB.set {T I : Int} {g : LG} (h : LB T I g) {t v : Int} (ht : 0 ≤ t ∧ t ≤ T) (hv : -1 ≤ v ∧ v < 9) : LB T I { g with term := t, vote := v } :=
 ⟨ht, hv, h.base, h.baseT, h.last, h.all, h.st, h.stl⟩
structure MB (T I : Int) (m : Msg) : Prop where
 term : 0 ≤ m.term ∧ m.term ≤ T
 index : 0 ≤ m.index ∧ m.index + m.es.length ≤ I
 logTerm : 0 ≤ m.logTerm ∧ m.logTerm ≤ T
 commit : 0 ≤ m.commit ∧ m.commit ≤ I
 es : m.es.length ≤ 8 ∧ ∀ e ∈ m.es, (0 ≤ e.1 ∧ e.1 ≤ T) ∧ e.2.length ≤ 100
 st : ((unS m.state).length : Int) ≤ m.index ∧ ∀ s ∈ unS m.state, s.length ≤ 100
 stl : m.state.length ≤ 1000000
theorem MB.mono {T T' I I' : Int} {m : Msg} (h : MB T I m) (hT : T ≤ T') (hI : I ≤ I') : MB T' I' m :=
 ⟨⟨h.term.1, Int.le_trans h.term.2 hT⟩, ⟨h.index.1, Int.le_trans h.index.2 hI⟩, ⟨h.logTerm.1, Int.le_trans h.logTerm.2 hT⟩, ⟨h.commit.1, Int.le_trans h.commit.2 hI⟩, ⟨h.es.1, fun e he => ⟨⟨(h.es.2 e he).1.1, Int.le_trans (h.es.2 e he).1.2 hT⟩, (h.es.2 e he).2⟩⟩, h.st, h.stl⟩
theorem MB.ln {T I : Int} {m : Msg} (h : MB T I m) : MLn T I m :=
 ⟨h.term, ⟨h.index.1, by have := h.index.2; omega⟩, h.logTerm, h.commit.1, ⟨by have := h.es.1; omega, h.es.2⟩, h.stl⟩
theorem MB.im {T I : Int} {m : Msg} (h : MB T I m) (hT : T ≤ 2305843009213693952) (hI : I ≤ 100000000000000) : MIm 0 m ∧ yE m :=
 ⟨h.ln.im hT hI (by have := h.commit.2; omega), by unfold yE; have := h.es.1; omega⟩
theorem Qcj : unS [] = [] := by decide
theorem MB.plain {T I : Int} {m : Msg} (ht : 0 ≤ m.term ∧ m.term ≤ T) (hi : 0 ≤ m.index ∧ m.index ≤ I) (hl : 0 ≤ m.logTerm ∧ m.logTerm ≤ T) (hc : m.commit = 0) (he : m.es = []) (hs : m.state = []) (hI : 0 ≤ I) : MB T I m :=
 ⟨ht, by rw [he]; simpa using hi, hl, by rw [hc]; omega, by rw [he]; simp, by rw [hs, Qcj]; simpa using hi.1, by rw [hs]; simp⟩
structure UB (T I : Int) (x : ND) : Prop where
 inn : LIn T I I.toNat x
 lb : LB T I x.g
theorem LB.of {T J I : Int} {A : Nat} {y : ND} (h : LIn T J A y) (hl : y.g.last ≤ I) (hs : ((unS y.g.state).length : Int) ≤ y.g.base ∧ ∀ s ∈ unS y.g.state, s.length ≤ 100) : LB T I y.g :=
 ⟨h.term, h.vote, h.base, h.baseT, hl, h.all, hs, h.state⟩
theorem UB.mk0 {T J I : Int} {A : Nat} {y : ND} (h : LIn T J A y) (hl : y.g.last ≤ I) (hp : ∀ p ∈ y.peers, p.1 ≤ I + 1 ∧ p.2 ≤ I) (hs : ((unS y.g.state).length : Int) ≤ y.g.base ∧ ∀ s ∈ unS y.g.state, s.length ≤ 100) : UB T I y :=
 ⟨⟨h.idn, h.down, h.term, h.vote, h.base, h.baseT, hl, h.state, by have := h.base; unfold LG.last at hl; omega, h.all, h.commit, h.patience, h.peers, fun p hq => by have h1 := h.peer p hq; have h2 := hp p hq; omega, h.pl, h.votes⟩, LB.of h hl hs⟩
theorem UB.mono {T T' I I' : Int} {x : ND} (h : UB T I x) (hT : T ≤ T') (hI : I ≤ I') : UB T' I' x := ⟨h.inn.mono hT hI (by omega), h.lb.mono hT hI⟩
theorem UB.pp {T I : Int} {x : ND} (h : UB T I x) : ∀ p ∈ x.peers, p.1 ≤ I + 1 ∧ p.2 ≤ I := fun p hp => by have := h.inn.peer p hp; omega
theorem UB.i0 {T I : Int} {x : ND} (h : UB T I x) : 0 ≤ I := by
 have h1 := h.lb.base
 have h2 := h.lb.last
 unfold LG.last at h2; omega
theorem UB.t0 {T I : Int} {x : ND} (h : UB T I x) : 0 ≤ T := by have h1 := h.lb.term; omega
theorem Qjq {T I : Int} {x : ND} (h : UB T I x) (i : Int) : 0 ≤ x.tAt i ∧ x.tAt i ≤ T := by
 have ht := h.t0
 have hb := h.lb.baseT
 unfold ND.tAt LG.termAt
 split
 ·exact hb
 ·cases h1 : x.g.at i with
  | none => simp; omega
  | some e => exact (h.lb.all e (LG.at_mem h1)).1
theorem Qml {T I : Int} {x : ND} (h : UB T I x) (to : Nat) : 0 ≤ x.nxt to ∧ x.nxt to ≤ I + 1 := by
 have h0 := h.i0
 unfold ND.nxt
 by_cases h1 : to < x.peers.length
 ·have hm : x.peers.getD to (0, 0) ∈ x.peers := by rw [List.getD_eq_getElem?_getD, List.getElem?_eq_getElem h1]; simp
  have := h.inn.peer _ hm; omega
 ·rw [List.getD_eq_getElem?_getD, List.getElem?_eq_none (by omega)]; simp; omega
theorem UB.feedM {T I : Int} {x : ND} (h : UB T I x) (to : Nat) : MB T I (x.stamp (x.feedMsg to)) := by
 have hn := Qml h to
 have hb := h.lb.base
 have hl := h.lb.last
 have hl2 : x.g.last = x.g.base + x.g.all.length := rfl
 have hc := h.inn.commit
 by_cases h1 : x.nxt to ≤ x.g.base
 ·rw [Qao h1]
  exact ⟨h.lb.term, ⟨hb, by show x.g.base + (([] : List Ent).length : Int) ≤ I; simp; omega⟩, h.lb.baseT, ⟨by show (0 : Int) ≤ 0; omega, by show (0 : Int) ≤ I; omega⟩, ⟨by show ([] : List Ent).length ≤ 8; simp, fun e he => by cases he⟩, h.lb.st, h.lb.stl⟩
 ·rw [yz h1]
  refine ⟨h.lb.term, ⟨by show 0 ≤ x.nxt to - 1; omega, ?_⟩, Qjq h _, ⟨by show 0 ≤ x.commit; omega, by show x.commit ≤ I; omega⟩, ⟨?_, fun e he => h.lb.all e (List.mem_of_mem_drop (List.mem_of_mem_take he))⟩, ?_, by show ([] : Bs).length ≤ 1000000; simp⟩
  ·show x.nxt to - 1 + (((x.g.all.drop (x.nxt to - x.g.base - 1).toNat).take 8).length : Int) ≤ I
   have : ((x.g.all.drop (x.nxt to - x.g.base - 1).toNat).take 8).length ≤ x.g.all.length - (x.nxt to - x.g.base - 1).toNat := by simp; omega
   omega
  ·show ((x.g.all.drop (x.nxt to - x.g.base - 1).toNat).take 8).length ≤ 8
   simp; omega
  ·show ((unS []).length : Int) ≤ x.nxt to - 1 ∧ ∀ s ∈ unS [], s.length ≤ 100
   rw [Qcj]; simp; omega
def cr (x : ND) : Int := if x.role = 1 then 1 else 0
theorem QcA (x : ND) : 0 ≤ cr x ∧ cr x ≤ 1 := by unfold cr; split <;> omega
def RB (T I c : Int) (y : ND) : Prop := ∃ I', I ≤ I' ∧ I' + cr y ≤ I + c ∧ UB T I' y ∧ ∀ m ∈ y.out, MB T I' m
theorem RB.same {T I c : Int} {y : ND} (h : UB T I y) (hc : cr y ≤ c) (ho : ∀ m ∈ y.out, MB T I m) : RB T I c y := ⟨I, Int.le_refl _, by omega, h, ho⟩
theorem UB.sends {T I : Int} {x : ND} (h : UB T I x) (l : List Msg) : UB T I { x with out := l } := ⟨h.inn.sends l, h.lb⟩
theorem ya (x : ND) : x.others.length ≤ x.n := by unfold ND.others; have := List.length_filter_le (fun i => i != x.id) (List.range x.n); simpa using this
theorem UB.feedAll {T I : Int} {x : ND} (h : UB T I x) (ho : x.out = []) : UB T I x.feedAll ∧ ∀ m ∈ x.feedAll.out, MB T I m := by
 refine ⟨by rw [XT]; exact h.sends _, fun m hm => ?_⟩
 rw [yA ho] at hm
 obtain ⟨m1, hm1, rfl⟩ := List.mem_map.1 hm
 obtain ⟨to, _, rfl⟩ := List.mem_map.1 hm1
 exact h.feedM to
theorem UB.count {T I : Int} {x : ND} (h : UB T I x) (hr : x.role = 2) : UB T I x.count := ⟨(h.inn.count hr).inn, by rw [qO]; exact h.lb⟩
theorem UB.entryP {T I : Int} {x : ND} {cmd : Bs} (h : UB T I x) (ho : x.out = []) (hr : x.role = 2) (hc : cmd.length ≤ 100) : UB T (I + 1) (x.entryP cmd) ∧ ∀ m ∈ (x.entryP cmd).out, MB T (I + 1) m := by
 have hi := h.i0
 have hb := h.inn.commit
 have hl := h.lb.last
 have h1 := (h.inn.add (i := x.g.last) (m := [(x.g.term, cmd)]) ⟨h.inn.commit.2, Int.le_refl _⟩ (fun _ => Eq.refl _) (fun e he => by simp at he; subst he; exact ⟨h.inn.term, hc⟩)).inn
 have hla := yH (g := x.g) (i := x.g.last) (m := [(x.g.term, cmd)]) (by omega)
 have h2 : UB T (I + 1) { x with g := x.g.play (.add x.g.last [(x.g.term, cmd)]) } := UB.mk0 h1 (by show (x.g.play _).last ≤ _; rw [hla]; simp; omega) (fun p hp => by have := h.pp p hp; omega) h.lb.st
 unfold ND.entryP
 exact (h2.count hr).feedAll (by rw [(Zm _).1]; exact ho)
theorem UB.wins {T I : Int} {x : ND} (h : UB T I x) : UB T I x.wins := ⟨h.inn.wins, h.lb⟩
theorem Qb6 (x : ND) (cmd : Bs) : (x.entryP cmd).role = x.role := by
 unfold ND.entryP; rw [XT]
 exact (Zm _).2.2.1
theorem UB.winP {T I : Int} {x : ND} (h : UB T I x) (ho : x.out = []) : UB T (I + 1) x.winP ∧ (∀ m ∈ x.winP.out, MB T (I + 1) m) ∧ cr x.winP = 0 := by
 have h1 := UB.entryP (x := x.wins) (cmd := []) h.wins ho rfl (by simp)
 exact ⟨h1.1, h1.2, by unfold cr ND.winP; rw [Qb6]; rfl⟩
theorem UB.askM {T I : Int} {x : ND} (h : UB T I x) (to : Nat) : MB T I (x.stamp (x.askMsg to)) :=
 MB.plain h.lb.term ⟨by have := h.lb.base; show 0 ≤ x.g.last; unfold LG.last; omega, h.lb.last⟩ (Qjq h _) rfl rfl rfl h.i0
theorem UB.standP {T I : Int} {x : ND} (h : UB T I x) (ho : x.out = []) (hv : (x.id : Int) < 9) : RB (T + 1) I (cr x + 1) x.standP := by
 have hc := QcA x
 have ht := h.lb.term
 have hid := h.inn.idn
 have h1 := ((h.inn.mono (show T ≤ T + 1 by omega) (Int.le_refl _) (Nat.le_refl _)).set (t := x.g.term + 1) (v := x.id) (by omega) (by omega) (.inl (by omega))).inn.stands
 have h2 : UB (T + 1) I (ND.stands { x with g := { x.g with term := x.g.term + 1, vote := x.id } }) := ⟨h1, (h.lb.mono (by omega) (Int.le_refl _)).set (by omega) (by omega)⟩
 unfold ND.standP
 by_cases hn : x.n = 1
 ·rw [if_pos hn]
  obtain ⟨a, b, c⟩ := h2.winP ho
  exact ⟨I + 1, by omega, by rw [c]; omega, a, b⟩
 ·rw [if_neg hn]
  have e : cr (ND.askAll (ND.stands { x with g := { x.g with term := x.g.term + 1, vote := x.id } })) = 1 := by unfold ND.askAll; rw [qR]; rfl
  refine RB.same ?_ (by rw [e]; omega) (fun m hm => ?_)
  ·unfold ND.askAll; rw [qR]; exact h2.sends _
  ·rw [Qcd (x := ND.stands { x with g := { x.g with term := x.g.term + 1, vote := x.id } }) ho] at hm
   obtain ⟨m1, hm1, rfl⟩ := List.mem_map.1 hm
   obtain ⟨to, _, rfl⟩ := List.mem_map.1 hm1
   exact h2.askM to
theorem UB.pat {T I : Int} {x : ND} (h : UB T I x) {p : Int} (hp : 0 ≤ p ∧ p ≤ 30) : UB T I { x with patience := p } := ⟨(h.inn.pat hp).inn, h.lb⟩
theorem UB.tickP {T I : Int} {x : ND} (h : UB T I x) (ho : x.out = []) : RB (T + 1) I (cr x + 1) x.tickP := by
 have hc := QcA x
 have hp := h.inn.patience
 have hid := h.inn.idn
 have hlm := ji x.id x.g.term
 have hm := h.mono (show T ≤ T + 1 by omega) (Int.le_refl I)
 unfold ND.tickP
 by_cases h1 : x.role = 2
 ·rw [if_pos h1]
  by_cases h2 : x.patience + 1 ≥ 3
  ·rw [if_pos h2]
   obtain ⟨a, b⟩ := (hm.pat (p := 0) (by omega)).feedAll ho
   exact RB.same a (by rw [XT]; show cr x ≤ _; omega) b
  ·rw [if_neg h2]
   exact RB.same (hm.pat (by omega)) (by show cr x ≤ _; omega) (fun m hm => by rw [show ({ x with patience := x.patience + 1 } : ND).out = x.out from rfl, ho] at hm; cases hm)
 ·rw [if_neg h1]
  by_cases h2 : x.patience + 1 ≥ YY x.id x.g.term
  ·rw [if_pos h2]
   have e : ND.standP { x with patience := x.patience + 1 } = ND.standP { x with patience := 0 } := Eq.refl _
   rw [e]
   exact UB.standP (x := { x with patience := 0 }) (h.pat (by omega)) ho (by show (x.id : Int) < 9; omega)
  ·rw [if_neg h2]
   exact RB.same (hm.pat (by omega)) (by show cr x ≤ _; omega) (fun m hm => by rw [show ({ x with patience := x.patience + 1 } : ND).out = x.out from rfl, ho] at hm; cases hm)
theorem UB.send1 {T I c : Int} {x : ND} (h : UB T I x) (ho : x.out = []) (m : Msg) (hm : MB T I (x.stamp m)) (hc : cr x ≤ c) : RB T I c (x.send m) :=
 RB.same (h.sends _) hc (fun m1 hm1 => by rw [Qbf ho] at hm1; simp at hm1; subst hm1; exact hm)
theorem UB.quiet {T I c : Int} {x : ND} (h : UB T I x) (ho : x.out = []) (hc : cr x ≤ c) : RB T I c x := RB.same h hc (fun m hm => by rw [ho] at hm; cases hm)
theorem UB.answer1 {T I c : Int} {x : ND} (h : UB T I x) (ho : x.out = []) (m : Msg) (ok : Bool) {i : Int} (hi : 0 ≤ i ∧ i ≤ I) (hc : cr x ≤ c) : RB T I c (x.answer m ok i) :=
 h.send1 ho _ (MB.plain h.lb.term hi ⟨by show (0 : Int) ≤ 0; omega, by have := h.t0; exact this⟩ rfl rfl rfl h.i0) hc
theorem UB.askedP {T I : Int} {x : ND} {m : Msg} (h : UB T I x) (ho : x.out = []) (hm : 0 ≤ m.frm ∧ m.frm < x.n) : RB T I (cr x) (x.askedP m) := by
 have hid := h.inn.idn
 have ht := h.t0
 have hi := h.inn.askedP hm
 have hv : ∀ (y : ND), y.g.term = x.g.term → ∀ ok, MB T I (y.stamp (ND.voteMsg m ok)) := fun y hy ok => MB.plain (by show 0 ≤ y.g.term ∧ y.g.term ≤ T; rw [hy]; exact h.lb.term) ⟨by show (0 : Int) ≤ 0; omega, h.i0⟩ ⟨by show (0 : Int) ≤ 0; omega, ht⟩ rfl rfl rfl h.i0
 unfold ND.askedP at hi ⊢
 by_cases h1 : x.grants m = true
 ·rw [if_pos h1] at hi ⊢
  refine RB.same ⟨hi.inn, h.lb.set h.lb.term (by omega)⟩ (by show cr x ≤ _; omega) (fun m1 hm1 => ?_)
  rw [Qbf (y := { x with g := { x.g with term := x.g.term, vote := m.frm }, patience := 0 }) ho] at hm1
  simp at hm1; subst hm1; exact hv _ rfl _
 ·rw [if_neg h1]
  exact h.send1 ho _ (hv x rfl false) (Int.le_refl _)
theorem UB.votedP {T I : Int} {x : ND} {m : Msg} (h : UB T I x) (ho : x.out = []) (hm : 0 ≤ m.frm ∧ m.frm < x.n) : RB T I (cr x) (x.votedP m) := by
 unfold ND.votedP
 by_cases h1 : ¬ x.role = 1 ∨ ¬ m.term = x.g.term ∨ m.ok = false
 ·rw [if_pos h1]; exact h.quiet ho (Int.le_refl _)
 ·rw [if_neg h1]
  have h2 : UB T I { x with votes := Xc x.votes m.frm } := ⟨h.inn.vote1 hm, h.lb⟩
  split
  ·obtain ⟨a, b, c⟩ := UB.winP (x := { x with votes := Xc x.votes m.frm }) h2 ho
   have hr : x.role = 1 := by
    by_cases hr : x.role = 1
    ·exact hr
    ·exact absurd (.inl hr) h1
   exact ⟨I + 1, by omega, by rw [c]; unfold cr; rw [if_pos hr]; omega, a, b⟩
  ·exact h2.quiet ho (Int.le_refl _)
theorem QkQ {x : ND} {m : Msg} (h : ¬ (m.index < x.g.base ∧ (m.es.length : Int) < x.g.base - m.index)) : (x.cutM m).1 + (x.cutM m).2.length = m.index + m.es.length := by
 unfold ND.cutM
 split
 ·dsimp only; simp; omega
 ·rfl
theorem cr0 {x : ND} (h : x.role = 0) : cr x = 0 := by unfold cr; rw [if_neg (by omega)]
theorem UB.commits {T I : Int} {x : ND} (h : UB T I x) (m : Msg) {last : Int} (hl : last ≤ x.g.last) : UB T I (x.commits m last) := ⟨(LIn.commits (LT.rfl h.inn) m hl).inn, h.lb⟩
theorem UB.restP {T I : Int} {x : ND} {m : Msg} (h : UB T I x) (ho : x.out = []) (hr : x.role = 0) (hm : MB T I m) (hc : x.g.base ≤ (x.cutM m).1 ∧ (x.cutM m).1 ≤ x.g.last) (hn : ¬ (m.index < x.g.base ∧ (m.es.length : Int) < x.g.base - m.index)) : RB T I 0 (x.restP m (x.cutM m)) := by
 have he := QkQ hn
 have hmi := hm.index
 have h0 : cr x ≤ 0 := by rw [cr0 hr]; omega
 have hb := h.lb.base
 have hcm := h.inn.commit
 have hb3 : (x.cutM m).2.length ≤ 20 ∧ ∀ e ∈ (x.cutM m).2, (0 ≤ e.1 ∧ e.1 ≤ T) ∧ e.2.length ≤ 100 := by
  have := hm.ln.es
  unfold ND.cutM
  split
  ·exact ⟨by simp; omega, fun e he => this.2 e (List.mem_of_mem_drop he)⟩
  ·exact this
 unfold ND.restP
 cases hfi : ND.fits x.g (x.cutM m).2 ((x.cutM m).1 + 1) with
 | none =>
  have hl : (x.cutM m).1 + (x.cutM m).2.length ≤ x.g.last := by
   rcases Qan hfi with h1 | h1
   ·rw [h1]; simp; omega
   ·omega
  exact (h.commits m hl).answer1 ho m true (by omega) h0
 | some p =>
  obtain ⟨i, l⟩ := p
  obtain ⟨a1, ⟨c, hc1, hc2⟩, a3⟩ := jl hfi
  dsimp only
  by_cases h1 : i ≤ x.commit
  ·rw [if_pos h1]; exact h.quiet ho h0
  ·rw [if_neg h1]
   have hi : x.commit ≤ i - 1 ∧ i - 1 ≤ x.g.last := by
    rcases a3 with a3 | ⟨e, a3⟩
    ·omega
    ·have := ze a3; omega
   have hll : l.length ≤ (x.cutM m).2.length := by rw [hc1]; simp
   have h2 := (h.inn.add (i := i - 1) (m := l) hi (fun hr2 => absurd (hr.symm.trans hr2) (by decide)) (fun e he => hb3.2 e (by rw [hc1] at he; exact List.mem_of_mem_drop he))).inn
   have hpl := yH (g := x.g) (i := i - 1) (m := l) (by omega)
   have hcl : c < (x.cutM m).2.length := by
    by_cases hcl : c < (x.cutM m).2.length
    ·exact hcl
    ·have : l = [] := by rw [hc1]; exact List.drop_eq_nil_of_le (by omega)
     exfalso
     have key : ∀ {l : List Ent} {i j : Int} {l2 : List Ent}, ND.fits x.g l i = some (j, l2) → l2 ≠ [] := by
      intro l
      induction l with
      | nil => intro i j l2 h; cases h
      | cons e l ih =>
       intro i j l2 h
       by_cases h1 : (x.g.at i).map (·.1) = some e.1
       ·rw [yo h1] at h; exact ih h
       ·rw [yp h1] at h; cases h; simp
     exact key hfi this
   have hle : (x.g.play (.add (i - 1) l)).last = (x.cutM m).1 + (x.cutM m).2.length := by
    rw [hpl, hc1]; simp; omega
   have h3 : UB T I { x with g := x.g.play (.add (i - 1) l) } := UB.mk0 h2 (by show (x.g.play _).last ≤ I; rw [hle]; omega) h.pp h.lb.st
   exact (h3.commits m (last := (x.cutM m).1 + (x.cutM m).2.length) (by show _ ≤ (x.g.play _).last; rw [hle]; omega)).answer1 ho m true (by omega) h0
theorem UB.addP {T I : Int} {x : ND} {m : Msg} (h : UB T I x) (ho : x.out = []) (hr : x.role = 0) (hm : MB T I m) : RB T I 0 (x.addP m) := by
 have h0 : cr x ≤ 0 := by rw [cr0 hr]; omega
 have hmi := hm.index
 have hb := h.lb.base
 have hl := h.lb.last
 have hl2 : x.g.last = x.g.base + x.g.all.length := rfl
 unfold ND.addP
 by_cases h1 : m.index < x.g.base ∧ (m.es.length : Int) < x.g.base - m.index
 ·rw [if_pos h1]; exact h.answer1 ho m true (by omega) h0
 ·by_cases h2 : ¬ m.index < x.g.base ∧ ¬ x.g.termAt m.index = some m.logTerm
  ·rw [if_neg h1, if_pos h2]; exact h.answer1 ho m false (by omega) h0
  ·rw [if_neg h1, if_neg h2]
   refine h.restP ho hr hm ?_ h1
   unfold ND.cutM
   by_cases h3 : m.index < x.g.base
   ·rw [if_pos h3]; dsimp only; omega
   ·rw [if_neg h3]
    have h4 : x.g.termAt m.index = some m.logTerm := by
     by_cases h4 : x.g.termAt m.index = some m.logTerm
     ·exact h4
     ·exact absurd ⟨h3, h4⟩ h2
    exact ZN h4
theorem UB.snapP {T I : Int} {x : ND} {m : Msg} (h : UB T I x) (ho : x.out = []) (hr : x.role = 0) (hm : MB T I m) : RB T I 0 (x.snapP m) := by
 have h0 : cr x ≤ 0 := by rw [cr0 hr]; omega
 have hmi := hm.index
 have hcm := h.inn.commit
 have hb := h.lb.base
 have hl := h.lb.last
 have hi := (h.inn.snapP (fun hr2 => absurd (hr.symm.trans hr2) (by decide)) hm.ln).inn
 unfold ND.snapP at hi ⊢
 by_cases h1 : m.index > x.commit
 ·rw [if_pos h1] at hi ⊢
  obtain ⟨e1, e2, e3, e4, e5, e6, e7, e8⟩ := Qc2 (g := x.g) (i := m.index) (t := m.logTerm) (s := m.state) (by omega)
  have hi2 : LIn T I I.toNat { x with g := x.g.inst m.index m.logTerm m.state, commit := m.index } := by
   have := hi.sends x.out; exact this
  have h3 : UB T I { x with g := x.g.inst m.index m.logTerm m.state, commit := m.index } := UB.mk0 hi2 (by show (x.g.inst _ _ _).last ≤ I; omega) h.pp (by rw [show ({ x with g := x.g.inst m.index m.logTerm m.state, commit := m.index } : ND).g = x.g.inst m.index m.logTerm m.state from rfl, e8, e1]; exact hm.st)
  exact h3.answer1 ho m true (by omega) h0
 ·rw [if_neg h1]
  exact h.answer1 ho m true (by omega) h0
theorem UB.follows {T I : Int} {x : ND} {m : Msg} (h : UB T I x) : UB T I (x.follows m) := ⟨(LIn.follows (m := m) h.inn).inn, h.lb⟩
theorem RB.le {T I c d : Int} {y : ND} (h : RB T I c y) (hc : c ≤ d) : RB T I d y := by
 obtain ⟨I', a, b, e, f⟩ := h
 exact ⟨I', a, by omega, e, f⟩
theorem UB.fedP {T I : Int} {x : ND} {m : Msg} (h : UB T I x) (ho : x.out = []) (hm : MB T I m) : RB T I (cr x) (x.fedP m) := by
 have hc := QcA x
 unfold ND.fedP
 split
 ·exact h.answer1 ho m false ⟨Int.le_refl _, h.i0⟩ (Int.le_refl _)
 ·split
  ·exact h.quiet ho (Int.le_refl _)
  ·split
   ·exact (UB.addP (x := x.follows m) h.follows ho rfl hm).le (by omega)
   ·exact (UB.snapP (x := x.follows m) h.follows ho rfl hm).le (by omega)
theorem UB.setPeer {T I : Int} {x : ND} (h : UB T I x) (to : Nat) {p : Int × Int} (hp : (1 ≤ p.1 ∧ p.1 ≤ I + 1) ∧ (0 ≤ p.2 ∧ p.2 ≤ x.g.last)) : UB T I (x.setPeer to p) := ⟨(h.inn.setPeer to hp).inn, h.lb⟩
theorem UB.feed1 {T I c : Int} {x : ND} (h : UB T I x) (ho : x.out = []) (to : Nat) (hc : cr x ≤ c) : RB T I c (x.feed to) := h.send1 ho _ (h.feedM to) hc
theorem UB.heardP {T I : Int} {x : ND} {m : Msg} (h : UB T I x) (ho : x.out = []) (hm : MB T I m) : RB T I (cr x) (x.heardP m) := by
 have hix := hm.index
 have h0 := h.lb.base
 have hcm := h.inn.commit
 have hl := h.lb.last
 unfold ND.heardP Ya
 dsimp only
 by_cases h1 : ¬ x.role = 2 ∨ ¬ m.term = x.g.term
 ·rw [if_pos h1]; exact h.quiet ho (Int.le_refl _)
 ·have hr : x.role = 2 := by
   by_cases hr : x.role = 2
   ·exact hr
   ·exact absurd (.inl hr) h1
  have hp := h.inn.peerb hr m.frm.toNat
  rw [if_neg h1]
  by_cases h2 : m.ok = false
  ·rw [if_pos h2]
   exact (h.setPeer m.frm.toNat (p := (max (min (x.nxt m.frm.toNat - 1) (m.index + 1)) (x.mat m.frm.toNat + 1), x.mat m.frm.toNat)) (by dsimp only; omega)).feed1 ho _ (Int.le_refl _)
  ·rw [if_neg h2]
   have h3 := h.setPeer m.frm.toNat (p := (max (x.mat m.frm.toNat) (min m.index x.g.last) + 1, max (x.mat m.frm.toNat) (min m.index x.g.last))) (by dsimp only; omega)
   have h4 := h3.count hr
   have hcr : cr (ND.count (x.setPeer m.frm.toNat (max (x.mat m.frm.toNat) (min m.index x.g.last) + 1, max (x.mat m.frm.toNat) (min m.index x.g.last)))) = cr x := by unfold cr; rw [(Zm _).2.2.1]; rfl
   split
   ·exact h4.feed1 (by rw [(Zm _).1]; exact ho) _ (Int.le_of_eq hcr)
   ·exact h4.quiet (by rw [(Zm _).1]; exact ho) (Int.le_of_eq hcr)
theorem UB.kindP {T I : Int} {x : ND} {m : Msg} (h : UB T I x) (ho : x.out = []) (hm : MB T I m) (hf : 0 ≤ m.frm ∧ m.frm < x.n) : RB T I (cr x) (x.kindP m) := by
 unfold ND.kindP
 split
 ·exact h.askedP ho hf
 ·split
  ·exact h.votedP ho hf
  ·split
   ·exact h.fedP ho hm
   ·split
    ·exact h.heardP ho hm
    ·exact h.quiet ho (Int.le_refl _)
theorem UB.receiveP {T I : Int} {x : ND} {m : Msg} (h : UB T I x) (ho : x.out = []) (hm : MB T I m) : RB T I (cr x) (x.receiveP m) := by
 have hc := QcA x
 have ht := h.inn.term
 unfold ND.receiveP
 by_cases h1 : ¬ m.to = x.id ∨ m.frm = x.id ∨ m.frm < 0 ∨ m.frm ≥ x.n
 ·rw [if_pos h1]; exact h.quiet ho (Int.le_refl _)
 ·rw [if_neg h1]
  have hf : 0 ≤ m.frm ∧ m.frm < x.n := by omega
  by_cases h2 : m.term > x.g.term
  ·rw [if_pos h2]
   have h3 := h.inn.set (t := m.term) (v := -1) hm.term (by omega) (.inl (by omega))
   have h4 : UB T I (ND.newTerm { x with g := { x.g with term := m.term, vote := -1 } }) := ⟨h3.inn.newTerm, h.lb.set hm.term (by omega)⟩
   exact (h4.kindP ho hm hf).le (by rw [cr0 rfl]; omega)
  ·rw [if_neg h2]; exact h.kindP ho hm hf
theorem Qa3 {x : ND} (h : x.out = []) : x.feedAll.out.length ≤ x.n := by
 rw [yA h]; simp; exact ya x
theorem Qaq {x : ND} (h : x.out = []) (cmd : Bs) : (x.entryP cmd).out.length ≤ x.n := by
 have h1 : ∀ z : ND, z.out = [] → z.n = x.n → z.feedAll.out.length ≤ x.n := fun z hz hn => by have := Qa3 hz; omega
 unfold ND.entryP
 exact h1 _ (by rw [(Zm _).1]; exact h) (by rw [(Zm _).2.2.2.2.1])
theorem Qie {x : ND} (h : x.out = []) : x.tickP.out.length ≤ x.n := by
 unfold ND.tickP
 split
 ·split
  ·exact Qa3 (x := { x with patience := 0 }) h
  ·show x.out.length ≤ _; rw [h]; simp
 ·split
  ·unfold ND.standP
   split
   ·exact Qaq (x := ND.wins (ND.stands { x with patience := x.patience + 1, g := { x.g with term := x.g.term + 1, vote := x.id } })) h []
   ·rw [Qcd (x := ND.stands { x with patience := x.patience + 1, g := { x.g with term := x.g.term + 1, vote := x.id } }) h]
    simp; exact ya x
  ·show x.out.length ≤ _; rw [h]; simp
theorem Qix {x : ND} (h : x.out = []) (hn : 1 ≤ x.n) (m : Msg) : (x.receiveP m).out.length ≤ x.n := by
 have h1 : ∀ z : ND, z.out = [] → z.n = x.n → (z.kindP m).out.length ≤ x.n := fun z hz hzn => by
  have hs : ∀ (y : ND), y.out = [] → ∀ m, (y.send m).out.length ≤ x.n := fun y hy m => by rw [Qbf hy]; simpa using hn
  have ha : ∀ (y : ND), y.out = [] → ∀ (ok : Bool) (i : Int), (y.answer m ok i).out.length ≤ x.n := fun y hy ok i => hs y hy _
  have hf : ∀ (y : ND), y.out = [] → ∀ (to : Nat), (y.feed to).out.length ≤ x.n := fun y hy to => hs y hy _
  have h0 : ∀ (y : ND), y.out = [] → y.out.length ≤ x.n := fun y hy => by rw [hy]; simp
  unfold ND.kindP
  split
  ·unfold ND.askedP
   split
   ·exact hs { z with g := { z.g with term := z.g.term, vote := m.frm }, patience := 0 } hz _
   ·exact hs z hz _
  ·split
   ·unfold ND.votedP
    split
    ·exact h0 z hz
    ·split
     ·exact hzn ▸ Qaq (x := ND.wins { z with votes := Xc z.votes m.frm }) hz []
     ·exact h0 { z with votes := Xc z.votes m.frm } hz
   ·split
    ·unfold ND.fedP
     split
     ·exact ha z hz _ _
     ·split
      ·exact h0 z hz
      ·split
       ·unfold ND.addP
        split
        ·exact ha (z.follows m) hz _ _
        ·split
         ·exact ha (z.follows m) hz _ _
         ·unfold ND.restP
          split
          ·exact ha ((z.follows m).commits m _) hz _ _
          ·split
           ·exact h0 (z.follows m) hz
           ·exact ha (ND.commits { (z.follows m) with g := _ } m _) hz _ _
       ·unfold ND.snapP
        split
        ·exact ha { (z.follows m) with g := _, commit := m.index } hz _ _
        ·exact ha (z.follows m) hz _ _
    ·split
     ·unfold ND.heardP Ya
      dsimp only
      split
      ·exact h0 z hz
      ·split
       ·exact hf (z.setPeer m.frm.toNat _) hz _
       ·split
        ·exact hf (ND.count (z.setPeer m.frm.toNat _)) (by rw [(Zm _).1]; exact hz) _
        ·exact h0 (ND.count (z.setPeer m.frm.toNat _)) (by rw [(Zm _).1]; exact hz)
     ·exact h0 z hz
 unfold ND.receiveP
 split
 ·rw [h]; simp
 ·split
  ·exact h1 (ND.newTerm { x with g := { x.g with term := m.term, vote := -1 } }) h rfl
  ·exact h1 x h rfl
theorem Qjr {n m : Nat} {P : LG → Prop} {x y : ND} {D : DK} {f : NS → Bool × NS} (hd : x.down = false) (hl : SD m x.g D) (ho : x.out = []) (h : Fx n P (f (x, D)) y) :
  ((Xz (x, D) f).1 = y.out ∧ (Xz (x, D) f).2.1 = y ∧ SD n y.g (Xz (x, D) f).2.2) ∨ ((Xz (x, D) f).1 = [] ∧ Xo (Xz (x, D) f).2 = true ∧ FD n P (Xz (x, D) f).2.2) := by
 have hu : ¬ Xo (x, D) = true := by unfold Xo; simp [hd, hl.1, hl.2.2.2.1]
 rw [jd]
 unfold qB
 rw [if_neg hu, show ({ x with out := [] } : ND) = x from qn ho]
 rcases h with ⟨h1, h2, h3⟩ | ⟨h1, h2, h3⟩
 ·rw [if_pos h1]
  exact .inl ⟨by rw [h2], h2, h3⟩
 ·rw [if_neg (by simp [h1])]
  exact .inr ⟨rfl, by unfold Xo; rw [h2]; rfl, h3⟩
theorem QgW {n : Nat} {x : ND} {D : DK} (hd : x.down = false) (hl : SD n x.g D) : ¬ Xo (x, D) = true := by unfold Xo; simp [hd, hl.1, hl.2.2.2.1]
structure MU (T I : Int) (N i n : Nat) (m : MS) : Prop where
 ub : UB T I m.x
 id : m.x.id = i
 n : m.x.n = n
 sd : SD N m.x.g m.D
 ap : m.ap ≤ m.x.commit
structure MI (T I : Int) (N i n : Nat) (m : MS) : Prop where
 out : m.x.out = []
 l : (m.l.length : Int) ≤ m.ap ∧ ∀ s ∈ m.l, s.length ≤ 100
 ap : m.ap ≤ I
 st : MU T I N i n m ∨ (m.D.down = true ∧ FD N (LB T I) m.D)
def crm (m : MS) : Int := if m.dn = true then 0 else cr m.x
theorem jI (m : MS) : 0 ≤ crm m ∧ crm m ≤ 1 := by have := QcA m.x; unfold crm; split <;> omega
theorem MU.dn {T I : Int} {N i n : Nat} {m : MS} (h : MU T I N i n m) : m.dn = false := by
 have := QgW h.ub.inn.down h.sd
 unfold MS.dn; simpa using this
theorem qN {m : MS} (h : m.D.down = true) : m.dn = true := by unfold MS.dn Xo; rw [h]; simp
theorem MI.mono {T T' I I' : Int} {N N' i n : Nat} {m : MS} (h : MI T I N i n m) (hT : T ≤ T') (hI : I ≤ I') (hN : N ≤ N') : MI T' I' N' i n m :=
 ⟨h.out, h.l, Int.le_trans h.ap hI, h.st.imp (fun u => ⟨u.ub.mono hT hI, u.id, u.n, u.sd.mono hN, u.ap⟩) (fun d => ⟨d.1, d.2.imp hN (fun g hg => hg.mono hT hI)⟩)⟩
theorem MI.ok {T I : Int} {N i n : Nat} {m : MS} (h : MI T I N i n m) : m.D.ok N := by
 rcases h.st with u | d
 ·exact u.sd.okD
 ·exact d.2.1
theorem MI.mw {T I : Int} {N i n : Nat} {m : MS} (h : MI T I N i n m) (hT : T ≤ 2305843009213693952) (hI : I ≤ 9500) (hN : N ≤ 690000000) : MW m := by
 have hl := h.l
 have ha := h.ap
 refine ⟨fun hd => ?_, h.out, DK.ok_le h.ok hN, ⟨by omega, hl.2⟩, by omega⟩
 rcases h.st with u | d
 ·exact u.ub.inn.nin0 ⟨hT, by omega, by omega⟩ h.out
 ·exact absurd (qN d.1) hd
theorem MI.act {T T' I I' : Int} {N N' i n : Nat} {m : MS} {f : NS → Bool × NS} {y : ND} (h : MI T I N i n m) (u : MU T I N i n m) (hT : T ≤ T') (hI : I ≤ I') (hy : UB T' I' y) (htr : TR m.x y) (hfx : Fx N' (LB T' I') (f (m.x, m.D)) y) (hym : ∀ g ∈ y.out, MB T' I' g) :
  MI T' I' N' i n (m.act (Xz (m.x, m.D) f)).1 ∧ (∀ g ∈ (m.act (Xz (m.x, m.D) f)).2, MB T' I' g) ∧ (m.act (Xz (m.x, m.D) f)).2.length ≤ y.out.length ∧ crm (m.act (Xz (m.x, m.D) f)).1 ≤ cr y := by
 have hl := h.l
 have ha := h.ap
 have hcr := QcA y
 rcases Qjr u.ub.inn.down u.sd h.out hfx with ⟨e1, e2, e3⟩ | ⟨e1, e2, e3⟩
 ·have ex : (m.act (Xz (m.x, m.D) f)).1 = { m with x := y.q, D := (Xz (m.x, m.D) f).2.2 } := by unfold MS.act; rw [e2]
  have em : (m.act (Xz (m.x, m.D) f)).2 = y.out := e1
  rw [ex, em]
  have hu : MU T' I' N' i n { m with x := y.q, D := (Xz (m.x, m.D) f).2.2 } := ⟨⟨hy.inn.q, hy.lb⟩, htr.id.trans u.id, htr.n.trans u.n, e3, Int.le_trans u.ap htr.com⟩
  exact ⟨⟨rfl, hl, Int.le_trans ha hI, .inl hu⟩, hym, Nat.le_refl _, by unfold crm; rw [hu.dn]; exact Int.le_refl _⟩
 ·have em : (m.act (Xz (m.x, m.D) f)).2 = [] := e1
  rw [em]
  refine ⟨⟨rfl, hl, Int.le_trans ha hI, .inr ⟨e3.2.1, e3⟩⟩, fun g hg => (by cases hg), Nat.zero_le _, ?_⟩
  unfold crm
  rw [if_pos (show (m.act (Xz (m.x, m.D) f)).1.dn = true from qN e3.2.1)]
  omega
theorem MI.act0 {T I : Int} {N i n : Nat} {m : MS} (h : MI T I N i n m) : (m.act ([], (m.x, m.D))) = (m, []) := by
 unfold MS.act
 rw [qn h.out]
def QaT (T I : Int) (N i n : Nat) (c : Int) (r : MS × List Msg) : Prop := ∃ I', I ≤ I' ∧ I' + crm r.1 ≤ I + c ∧ MI T I' N i n r.1 ∧ (∀ g ∈ r.2, MB T I' g) ∧ r.2.length ≤ n
theorem MI.stay {T T' I : Int} {N N' i n : Nat} {m : MS} (h : MI T I N i n m) (hT : T ≤ T') (hN : N ≤ N') {c : Int} (hc : crm m ≤ c) : QaT T' I N' i n c (m, []) :=
 ⟨I, Int.le_refl _, by dsimp only; omega, h.mono hT (Int.le_refl _) hN, fun g hg => (by cases hg), Nat.zero_le _⟩
theorem QlY {m : MS} (h : m.dn = true) : crm m = 0 := by unfold crm; rw [if_pos h]
theorem MI.tick {T I : Int} {N i n : Nat} {m : MS} (h : MI T I N i n m) (hT : T ≤ 1000000000) (hI : I ≤ 9500) : QaT (T + 1) I (N + 6000) i n (crm m + 1) m.tick := by
 have hcm := jI m
 rcases h.st with u | d
 ·have ht := u.ub.lb.term
  have hid := u.ub.inn.idn
  have hcr : crm m = cr m.x := by unfold crm; rw [u.dn]; rfl
  obtain ⟨I', a1, a2, a3, a4⟩ := u.ub.tickP h.out
  have hnn := u.ub.inn.nin0 ⟨by omega, by omega, by omega⟩ h.out
  have hm := u.ub.lb.mono (show T ≤ T + 1 by omega) a1
  have hfx := Qlf (n := N) (P := LB (T + 1) I') (by omega) u.sd hnn hm (hm.set (t := m.x.g.term + 1) (v := m.x.id) (by omega) (by omega)) a3.lb
  obtain ⟨b1, b2, b3, b4⟩ := h.act u (show T ≤ T + 1 by omega) a1 a3 u.ub.inn.tickP.tr hfx a4
  exact ⟨I', a1, by rw [hcr]; show I' + crm (m.act (Xz (m.x, m.D) YB)).1 ≤ _; omega, b1, b2, Nat.le_trans b3 (by have := Qie h.out; rw [u.n] at this; exact this)⟩
 ·have hd := qN d.1
  have e : m.tick = (m, []) := by unfold MS.tick; rw [qJ (show Xo (m.x, m.D) = true from hd)]; exact h.act0
  rw [e]
  exact h.stay (by omega) (by omega) (by omega)
theorem MI.recv {T I : Int} {N i n : Nat} {m : MS} (h : MI T I N i n m) {g : Msg} (hg : MB T I g) (hT : T ≤ 1000000000) (hI : I ≤ 9500) (hN : 17000000 ≤ N) : QaT T I (N + 6000) i n (crm m) (m.recv g) := by
 have hcm := jI m
 rcases h.st with u | d
 ·have ht := u.ub.lb.term
  have hid := u.ub.inn.idn
  have hcr : crm m = cr m.x := by unfold crm; rw [u.dn]; rfl
  obtain ⟨I', a1, a2, a3, a4⟩ := u.ub.receiveP h.out hg
  have hnn := u.ub.inn.nin0 ⟨by omega, by omega, by omega⟩ h.out
  have hm := u.ub.lb.mono (Int.le_refl T) a1
  have hgt := hg.term
  have hfx := Qhh (n := N) (k := 0) (m := g) (P := LB T I') hN (by omega) u.sd hnn (hg.im (by omega) (by omega)).1 u.ub.inn.commit.1 hm (fun _ => hm.set (t := g.term) (v := -1) (by omega) (by omega)) a3.lb
  obtain ⟨b1, b2, b3, b4⟩ := h.act (f := fun s => Xu s g) u (Int.le_refl T) a1 a3 (u.ub.inn.receiveP hg.ln).tr hfx a4
  exact ⟨I', a1, by rw [hcr]; show I' + crm (m.act (Xz (m.x, m.D) (fun s => Xu s g))).1 ≤ _; omega, b1, b2, Nat.le_trans b3 (by have := Qix h.out (by omega) g; rw [u.n] at this; exact this)⟩
 ·have hd := qN d.1
  have e : m.recv g = (m, []) := by unfold MS.recv; rw [qJ (show Xo (m.x, m.D) = true from hd)]; exact h.act0
  rw [e]
  exact h.stay (by omega) (by omega) (by omega)
theorem Qhr {T I : Int} {N i n : Nat} {m : MS} (h : MI T I N i n m) (u : MU T I N i n m) (hr : m.x.role = 2) {cmd : Bs} {P : LG → Prop} {N' : Nat} (hfx : Fx N' P (QV (m.x, m.D) cmd) (m.x.entryP cmd)) : (m.prop cmd).2 = m.act (Xz (m.x, m.D) (fun s => QV s cmd)) := by
 unfold MS.prop XD
 rw [if_neg (by simpa using hr)]
 by_cases h1 : Xo (Xz (m.x, m.D) (fun s => QV s cmd)).2 = true
 ·rw [if_pos h1]
  rcases Qjr (f := fun s => QV s cmd) u.ub.inn.down u.sd h.out hfx with ⟨e1, e2, e3⟩ | ⟨e1, e2, e3⟩
  ·exfalso
   have h2 : Xo (m.x.entryP cmd, (Xz (m.x, m.D) (fun s => QV s cmd)).2.2) = true := by rw [← e2]; exact h1
   have e3d := e3.1
   have e3g := e3.2.2.2.1
   unfold Xo at h2
   rw [e3d, e3g] at h2
   have h3 : (m.x.entryP cmd).down = m.x.down := by unfold ND.entryP; rw [XT]; show (ND.count _).down = _; unfold ND.count; split <;> rfl
   rw [h3, u.ub.inn.down] at h2
   cases h2
  ·unfold MS.act; rw [e1]
 ·rw [if_neg h1]
theorem Qcr {m : MS} {cmd : Bs} (hr : ¬ m.x.role = 2) : m.prop cmd = ((0, 0), m.act ([], (m.x, m.D))) := by
 unfold MS.prop XD
 rw [if_pos hr]
theorem Qkg {m : MS} {cmd : Bs} (hd : m.dn = true) : m.prop cmd = ((0, 0), m.act ([], (m.x, m.D))) := by
 by_cases hr : m.x.role = 2
 ·unfold MS.prop XD
  rw [if_neg (by simpa using hr)]
  rw [qJ (show Xo (m.x, m.D) = true from hd), if_pos (show Xo (([] : List Msg), (m.x, m.D)).2 = true from hd)]
 ·exact Qcr hr
theorem MI.prop {T I : Int} {N i n : Nat} {m : MS} (h : MI T I N i n m) {cmd : Bs} (hc : cmd.length ≤ 100) (hT : T ≤ 1000000000) (hI : I ≤ 9500) : QaT T I (N + 6000) i n (crm m + 1) (m.prop cmd).2 := by
 have hcm := jI m
 have hst : QaT T I (N + 6000) i n (crm m + 1) (m, []) := h.stay (Int.le_refl _) (by omega) (by omega)
 rcases h.st with u | d
 ·by_cases hr : m.x.role = 2
  ·have ht := u.ub.lb.term
   have hnn := u.ub.inn.nin0 ⟨by omega, by omega, by omega⟩ h.out
   obtain ⟨a3, a4⟩ := u.ub.entryP h.out hr hc
   have hfx := (QfE (n := N) (P := LB T (I + 1)) (by omega) u.sd hnn hc (u.ub.lb.mono (Int.le_refl _) (by omega)) a3.lb).mono (show N + 3000 ≤ N + 6000 by omega)
   rw [Qhr h u hr hfx]
   obtain ⟨b1, b2, b3, b4⟩ := h.act (f := fun s => QV s cmd) u (Int.le_refl T) (show I ≤ I + 1 by omega) a3 (u.ub.inn.entryP hr hc).tr hfx a4
   have hcr : cr (m.x.entryP cmd) = 0 := by unfold cr; rw [Qb6, hr]; rfl
   exact ⟨I + 1, by omega, by omega, b1, b2, Nat.le_trans b3 (by have := Qaq h.out cmd; rw [u.n] at this; exact this)⟩
  ·rw [Qcr hr, h.act0]; exact hst
 ·rw [Qkg (qN d.1), h.act0]; exact hst
theorem QkU {m : MS} (h : m.x.out = []) (hd : m.dn = true) : m.comp = (3, m) := by
 unfold MS.comp Yp
 rw [if_pos (show Xo (m.x, m.D) = true from hd)]
 dsimp only
 rw [qn h]
theorem QfP {T I : Int} {N i n : Nat} {m : MS} (h : MI T I N i n m) (u : MU T I N i n m) : m.comp = if m.ap < m.x.g.base then (1, m) else (((m.x.g.swapD m.D (m.x.g.comp m.ap (stB m.l)))).1, { m with x := { m.x with g := (m.x.g.swapD m.D (m.x.g.comp m.ap (stB m.l))).2.1 }, D := (m.x.g.swapD m.D (m.x.g.comp m.ap (stB m.l))).2.2 }) := by
 have hcm := u.ub.inn.commit
 have hap := u.ap
 have ho := h.out
 have hx : ({ m.x with out := [] } : ND) = m.x := qn h.out
 have hgd : (m.x.g.down || m.D.down) = false := by rw [u.sd.1, u.sd.2.2.2.1]; rfl
 unfold MS.comp Yp
 rw [if_neg (QgW u.ub.inn.down u.sd), if_neg (by dsimp only; omega)]
 unfold LG.compD
 dsimp only
 rw [if_neg (by rw [hgd]; decide)]
 by_cases h1 : m.ap < m.x.g.base
 ·rw [if_pos (.inl h1), if_pos h1]
  try dsimp only
  rw [show ND.q { m.x with g := m.x.g } = m.x from qn h.out]
 ·rw [if_neg (by omega), if_neg h1]
  unfold ND.q
  rw [show ({ m.x with g := (m.x.g.swapD m.D (m.x.g.comp m.ap (stB m.l))).2.1, out := [] } : ND) = { m.x with g := (m.x.g.swapD m.D (m.x.g.comp m.ap (stB m.l))).2.1 } by rw [← ho]]
theorem MI.comp {T I : Int} {N i n : Nat} {m : MS} (h : MI T I N i n m) (hT : T ≤ 1000000000) (hI : I ≤ 9400) (hN : 17000000 ≤ N) : MI T I (N + 6000) i n m.comp.2 ∧ crm m.comp.2 ≤ crm m := by
 have hcm := jI m
 have hl := h.l
 have hai := h.ap
 rcases h.st with u | d
 ·have hcmm := u.ub.inn.commit
  have hap := u.ap
  rw [QfP h u]
  by_cases h1 : m.ap < m.x.g.base
  ·rw [if_pos h1]; exact ⟨h.mono (Int.le_refl _) (Int.le_refl _) (by omega), Int.le_refl _⟩
  ·rw [if_neg h1]
   have hsl := jc hl.2 (by omega)
   have hun := Qfd hl.2 (by omega)
   have hi := (u.ub.inn.comp (i := m.ap) (s := stB m.l) (by omega) (by omega)).inn
   have hla : (m.x.g.comp m.ap (stB m.l)).last = m.x.g.last := by unfold LG.comp LG.last at *; simp; omega
   have hy : UB T I { m.x with g := m.x.g.comp m.ap (stB m.l) } := UB.mk0 hi (by show (m.x.g.comp _ _).last ≤ I; rw [hla]; exact u.ub.lb.last) u.ub.pp (by show ((unS (stB m.l)).length : Int) ≤ m.ap ∧ ∀ s ∈ unS (stB m.l), s.length ≤ 100; rw [hun]; exact hl)
   have hnn := hy.inn.nin0 ⟨by omega, by omega, by omega⟩ h.out
   have hok := hnn.g (by omega)
   have hw := Qbt (k := 0) (by omega) hnn
   have hsw := Qg0 (P := LB T I) (to := m.x.g.comp m.ap (stB m.l)) (u.sd.mono (show N ≤ N + 6000 by omega)) hok u.sd.2.2.2.1 hw (by omega) u.ub.lb
   have hcr : crm m = cr m.x := by unfold crm; rw [u.dn]; rfl
   unfold LG.swapD
   rcases hsw with ⟨p1, p2⟩ | ⟨p1, p2⟩
   ·rw [if_pos p1]
    have hu : MU T I (N + 6000) i n { m with x := { m.x with g := m.x.g.comp m.ap (stB m.l) }, D := (m.D.swap (Rec.all (m.x.g.comp m.ap (stB m.l))).bytes).2 } := ⟨hy, u.id, u.n, p2, u.ap⟩
    exact ⟨⟨h.out, hl, hai, .inl hu⟩, by unfold crm; rw [hu.dn]; rw [if_neg (by decide), u.dn, if_neg (by decide)]; exact Int.le_refl _⟩
   ·rw [if_neg p1]
    exact ⟨⟨h.out, hl, hai, .inr ⟨p2.2.1, p2⟩⟩, by rw [QlY (qN p2.2.1)]; omega⟩
 ·rw [QkU h.out (qN d.1)]
  exact ⟨h.mono (Int.le_refl _) (Int.le_refl _) (by omega), Int.le_refl _⟩
theorem MI.fuel {T I : Int} {N i n : Nat} {m : MS} (h : MI T I N i n m) {k : Int} (hk : QgA k) : MI T I N i n { m with D := m.D.setFuel k } ∧ crm { m with D := m.D.setFuel k } = crm m := by
 refine ⟨⟨h.out, h.l, h.ap, ?_⟩, rfl⟩
 unfold QgA at hk
 rcases h.st with u | ⟨d1, ⟨a1, a2, a3⟩, d3, d4⟩
 ·obtain ⟨s1, s2, s3, s4, s5, s6⟩ := u.sd
  exact .inl ⟨u.ub, u.id, u.n, ⟨s1, s2, ⟨by show _ ≤ k; omega, by show k ≤ _; omega, fun hb => by simpa [DK.setFuel] using hb⟩, s4, s5, s6⟩, u.ap⟩
 ·exact .inr ⟨d1, ⟨a1, a2, ⟨by show _ ≤ k; omega, by show k ≤ _; omega, fun hb => by simpa [DK.setFuel] using hb⟩⟩, d3, d4⟩
theorem MI.keeps {T I : Int} {N i n : Nat} {m : MS} (h : MI T I N i n m) : ∀ keep : Int, ∃ rs p g, (m.D.crash keep).b = Xe rs ++ p ∧ ZV p ∧ Plays LG.new rs g ∧ g.down = false ∧ LB T I g := by
 rcases h.st with u | d
 ·exact u.sd.crash_any u.ub.lb
 ·exact d.2.2.2
theorem MI.opens {T I : Int} {N i n : Nat} {m : MS} (h : MI T I N i n m) (keep : Int) : Qdo m.D keep := by
 obtain ⟨rs, p, g, a, b, c, _⟩ := h.keeps keep
 exact ⟨rs, p, g, a, b, c⟩
theorem Qjb {N : Nat} {P : LG → Prop} {D : DK} (hk : D.ok N) (h : ∀ keep : Int, ∃ rs p g, (D.crash keep).b = Xe rs ++ p ∧ ZV p ∧ Plays LG.new rs g ∧ g.down = false ∧ P g) (keep : Int) :
  P (Qba (D.crash keep).b) ∧ SD N (Qba (D.crash keep).b) ((D.crash keep).open (jT (D.crash keep).b) (Qa9 (D.crash keep).b)).2 := by
 obtain ⟨rs, p, g, a1, a2, a3, a4, a5, a6, a7⟩ := QlG hk h keep
 obtain ⟨t1, t2, t3⟩ := QcJ ⟨a2, a3, a4⟩
 have e : (D.crash keep).open (jT (D.crash keep).b) (Qa9 (D.crash keep).b) = (D.crash keep).open rs p := by
  unfold DK.open
  rw [t1, t2]
 rw [t3, e]
 exact ⟨a5, a7⟩
theorem LB.start {T I : Int} {i n : Nat} {g : LG} (h : LB T I g) (hn : i < n ∧ n ≤ 9) : UB T I (ND.start i n g) := by
 have hl := h.last
 have hb := h.base
 have h1 : LIn T I I.toNat (ND.start i n g) := LIn.start hn h.term h.vote h.base h.baseT h.last h.stl (by unfold LG.last at hl; omega) h.all
 exact ⟨h1, h⟩
theorem MI.start {T I : Int} {N i n : Nat} {g : LG} {D : DK} (h : LB T I g) (hs : SD N g D) (hn : i < n ∧ n ≤ 9) : MI T I N i n (Yx i n g D) ∧ crm (Yx i n g D) = 0 := by
 have hl := h.last
 have hb := h.base
 have hgl : g.base ≤ g.last := by unfold LG.last; omega
 unfold Yx
 split
 ·rename_i h1
  have hu : MU T I N i n ⟨ND.start i n g, D, unS g.state, g.base⟩ := ⟨h.start hn, rfl, rfl, hs, Int.le_refl _⟩
  exact ⟨⟨rfl, h.st, by dsimp only; omega, .inl hu⟩, by unfold crm; rw [hu.dn]; rfl⟩
 ·have hu : MU T I N i n ⟨ND.start i n g, D, [], 0⟩ := ⟨h.start hn, rfl, rfl, hs, hb⟩
  exact ⟨⟨rfl, by simp, by dsimp only; omega, .inl hu⟩, by unfold crm; rw [hu.dn]; rfl⟩
theorem MI.crash {T I : Int} {N i n : Nat} {m : MS} (h : MI T I N i n m) (hn : i < n ∧ n ≤ 9) (keep : Int) : MI T I N i n (m.crash i n keep) ∧ crm (m.crash i n keep) = 0 := by
 obtain ⟨h1, h2⟩ := Qjb h.ok h.keeps keep
 unfold MS.crash
 exact MI.start h1 h2 hn
theorem QfT (i : Int) : ∀ (l : List Ent) (r : MS × List OC), (r.1.l.length : Int) ≤ r.1.ap → (∀ s ∈ r.1.l, s.length ≤ 100) → (∀ e ∈ l, e.2.length ≤ 100) → ((l.foldl (XY i) r).1.l.length : Int) ≤ (l.foldl (XY i) r).1.ap ∧ ∀ s ∈ (l.foldl (XY i) r).1.l, s.length ≤ 100
 | [], r, h1, h2, _ => ⟨h1, h2⟩
 | e :: l, r, h1, h2, h3 => by
  rw [List.foldl_cons]
  refine QfT i l _ ?_ ?_ (fun e he => h3 e (by simp [he]))
  ·unfold XY
   split
   ·show (r.1.l.length : Int) ≤ r.1.ap + 1; omega
   ·show ((r.1.l ++ [e.2]).length : Int) ≤ r.1.ap + 1; simp; omega
  ·unfold XY
   split
   ·exact h2
   ·intro s hs
    rcases List.mem_append.1 (show s ∈ r.1.l ++ [e.2] from hs) with hs | hs
    ·exact h2 s hs
    ·simp at hs; subst hs; exact h3 e (by simp)
theorem MI.done {T I : Int} {N i n : Nat} {m : MS} (h : MI T I N i n m) (j : Int) (o : List OC) : MI T I N i n (XL j m o).1 ∧ crm (XL j m o).1 = crm m ∧ ((XL j m o).2.length : Int) ≤ o.length + I := by
 obtain ⟨ex, eD⟩ := jn j m o
 have hcr : crm (XL j m o).1 = crm m := by unfold crm MS.dn; rw [ex, eD]
 have hl := h.l
 have hai := h.ap
 by_cases hd : m.dn = true
 ·have e : XL j m o = (m, o) := by unfold XL; rw [if_pos hd]
  rw [e]; exact ⟨h, rfl, by dsimp only; omega⟩
 ·rcases h.st with u | d
  ·have e : XL j m o = m.rest.todo.foldl (XY j) (m.rest, o) := by unfold XL; rw [if_neg hd]
   obtain ⟨p1, p2, p3, p4, p5⟩ := QaP j m.rest.todo (m.rest, o)
   rw [← e] at p1 p2 p3 p4 p5
   obtain ⟨q1, q2, q3, q4⟩ := jg m
   have hcm := u.ub.inn.commit
   have hlb := u.ub.lb
   have hll := hlb.last
   have htl := (Qdy (m := m.rest)).1
   rw [q1] at htl
   have hap := u.ap
   have hrl : (m.rest.l.length : Int) ≤ m.rest.ap ∧ (∀ s ∈ m.rest.l, s.length ≤ 100) ∧ m.rest.ap ≤ m.x.commit := by
    unfold MS.rest
    split
    ·exact ⟨hlb.st.1, hlb.st.2, hcm.1⟩
    ·exact ⟨hl.1, hl.2, hap⟩
   have hte : ∀ e ∈ m.rest.todo, e.2.length ≤ 100 := fun e he => by
    have : e ∈ m.rest.x.g.all := List.mem_of_mem_drop (List.mem_of_mem_take he)
    rw [q1] at this
    exact (hlb.all e this).2
   obtain ⟨r1, r2⟩ := QfT j m.rest.todo (m.rest, o) hrl.1 hrl.2.1 hte
   rw [← e] at r1 r2
   dsimp only at p3 p5
   have hapn : (XL j m o).1.ap ≤ m.x.commit := by rw [p3]; have := hrl.2.2; omega
   exact ⟨⟨by rw [ex]; exact h.out, ⟨r1, r2⟩, by omega, .inl ⟨by rw [ex]; exact u.ub, by rw [ex]; exact u.id, by rw [ex]; exact u.n, by rw [ex, eD]; exact u.sd, by rw [ex]; exact hapn⟩⟩, hcr, by have := hrl.1; omega⟩
  ·exact absurd (qN d.1) hd
def yQ (l : List MS) : Int := (l.map crm).sum
theorem jK : ∀ {l : List MS} {i : Nat} {m : MS} (m' : MS), l[i]? = some m → yQ (l.set i m') + crm m = yQ l + crm m'
 | [], i, m, m', h => by simp at h
 | x :: l, 0, m, m', h => by simp at h; subst h; simp [yQ]; omega
 | x :: l, i + 1, m, m', h => by
  have := jK m' (l := l) (i := i) (m := m) (by simpa using h)
  unfold yQ at this ⊢
  simp only [List.set_cons_succ, List.map_cons, List.sum_cons]
  omega
theorem zp : ∀ l : List MS, 0 ≤ yQ l
 | [] => by simp [yQ]
 | x :: l => by
  have h1 := zp l
  have h2 := jI x
  unfold yQ at h1 ⊢
  simp only [List.map_cons, List.sum_cons]
  omega
structure GI (n a t : Nat) (I : Int) (G : GS) : Prop where
 len : G.ms.length = n ∧ 1 ≤ n ∧ n ≤ 9
 i0 : 0 ≤ I ∧ I + yQ G.ms ≤ t
 ms : ∀ i m, G.ms[i]? = some m → MI a I (17000000 + 6000 * a) i n m
 st : G.st.length ≤ n * a ∧ 0 ≤ G.last ∧ G.last ≤ ((n * a : Nat) : Int)
 msg : ∀ x ∈ G.st, MB a I x.2
 out : G.out.length ≤ a * 9500
theorem ZW : ∀ {l : List Msg} {k : Int} {x : XU}, x ∈ Xp k l → x.2 ∈ l
 | [], _, _, h => by cases h
 | m :: l, k, x, h => by
  rw [Xp] at h
  rcases List.mem_cons.1 h with h | h
  ·subst h; simp
  ·exact List.mem_cons_of_mem _ (ZW h)
theorem GI.later {n a t : Nat} {I : Int} {G : GS} (h : GI n a t I G) : GI n (a + 1) t I G := by
 have hm : n * (a + 1) = n * a + n := by rw [Nat.mul_add]; omega
 have h1 := h.st
 have h2 := h.out
 have h3 : (a + 1) * 9500 = a * 9500 + 9500 := Nat.add_mul a 1 9500
 exact ⟨h.len, h.i0, fun i m hi => (h.ms i m hi).mono (by omega) (Int.le_refl _) (by omega), by rw [hm]; omega, fun x hx => (h.msg x hx).mono (by omega) (Int.le_refl _), by rw [h3]; exact Nat.le_trans h2 (Nat.le_add_right _ _)⟩
theorem GI.gw {n a t : Nat} {I : Int} {G : GS} (h : GI n a t I G) (ha : a ≤ 90000) (ht : t ≤ 9400) : GW G := by
 have hc := zp G.ms
 have h0 := h.i0
 have hs := h.st
 have ho := h.out
 have hna : n * a ≤ 9 * 90000 := Nat.mul_le_mul h.len.2.2 ha
 refine ⟨by have := h.len; omega, fun m hm => ?_, by omega, by omega, fun x hx => (h.msg x hx).im (by omega) (by omega), by omega⟩
 obtain ⟨i, hi⟩ := List.mem_iff_getElem?.1 hm
 exact (h.ms i m hi).mw (by omega) (by omega) (by omega)
theorem GI.done {n a t : Nat} {I : Int} {G : GS} (h : GI n a t I G) {i : Nat} {m : MS} (hm : G.ms[i]? = some m) {r : MS × List Msg} {δ : Nat} (hr : QaT ((a : Int) + 1) I (17000000 + 6000 * a + 6000) i n (crm m + δ) r) (ht : t + δ ≤ 9400) : ∃ I', GI n (a + 1) (t + δ) I' (G.done i r.1 r.2) := by
 obtain ⟨I', a1, a2, a3, a4, a5⟩ := hr
 have hc := zp G.ms
 have hc2 := jK r.1 hm
 have h0 := h.i0
 have hi := (List.getElem?_eq_some_iff.1 hm).1
 obtain ⟨d1, d2, d3⟩ := a3.done i G.out
 have hc3 := jK (XL i r.1 G.out).1 hm
 have hcr := jI r.1
 have hcp := zp (G.ms.set i r.1)
 have hm2 : n * (a + 1) = n * a + n := by rw [Nat.mul_add]; omega
 have hs := h.st
 have ho := h.out
 refine ⟨I', ⟨by show (G.ms.set i _).length = n ∧ _; rw [List.length_set]; exact h.len, ⟨by omega, by show I' + yQ (G.ms.set i _) ≤ _; rw [d2] at hc3; omega⟩, fun j mj hj => ?_, ?_, fun x hx => ?_, ?_⟩⟩
 ·have hj : (G.ms.set i (XL i r.1 G.out).1)[j]? = some mj := hj
  by_cases e : i = j
  ·subst e
   rw [List.getElem?_set_self hi] at hj
   have hj := Option.some.inj hj
   subst hj
   exact d1.mono (by omega) (Int.le_refl _) (by omega)
  ·rw [List.getElem?_set_ne e] at hj
   exact (h.ms j mj hj).mono (by omega) a1 (by omega)
 ·show (G.st ++ Xp G.last r.2).length ≤ _ ∧ 0 ≤ G.last + (r.2.length : Int) ∧ G.last + (r.2.length : Int) ≤ _
  rw [List.length_append, qD, hm2]
  omega
 ·rcases List.mem_append.1 (show x ∈ G.st ++ Xp G.last r.2 from hx) with hx | hx
  ·exact (h.msg x hx).mono (by omega) a1
  ·exact (a4 _ (ZW hx)).mono (by omega) (Int.le_refl _)
 ·show (XL i r.1 G.out).2.length ≤ _
  omega
theorem GI.mem {n a t : Nat} {I : Int} {G : GS} (h : GI n a t I G) {i : Nat} (hi : i < n) : ∃ m, G.ms[i]? = some m := ⟨_, List.getElem?_eq_getElem (by rw [h.len.1]; exact hi)⟩
theorem GI.I {n a t : Nat} {I : Int} {G : GS} (h : GI n a t I G) : I ≤ t := by
 have := zp G.ms
 have := h.i0
 omega
theorem GI.tick {n a t : Nat} {I : Int} {G : GS} (h : GI n a t I G) {i : Nat} (hi : i < n) (ha : a ≤ 90000) (ht : t + 1 ≤ 9400) : ∃ I', GI n (a + 1) (t + 1) I' (G.tick i) := by
 have hI := h.I
 obtain ⟨m, hm⟩ := h.mem hi
 rw [Qaw hm]
 exact h.done hm (δ := 1) ((h.ms i m hm).tick (by omega) (by omega)) ht
theorem GI.take {n a t : Nat} {I : Int} {G : GS} (h : GI n a t I G) (k : Int) : GI n a t I (G.take k) := by
 have h1 : ∀ x ∈ Zd G.st k, x ∈ G.st := fun x hx => by
  unfold Zd at hx
  split at hx
  ·exact List.mem_of_mem_eraseIdx hx
  ·exact hx
 have h2 : (Zd G.st k).length ≤ G.st.length := by
  unfold Zd
  split
  ·exact List.length_eraseIdx_le _ _
  ·exact Nat.le_refl _
 have hs := h.st
 exact ⟨h.len, h.i0, h.ms, ⟨by show (Zd G.st k).length ≤ _; omega, hs.2⟩, fun x hx => h.msg x (h1 x hx), h.out⟩
theorem QcD {st : List XU} {k : Int} (h : XX st k = true) : atM st k ∈ st := by
 unfold XX at h
 simp at h
 obtain ⟨n, rfl⟩ := Int.eq_ofNat_of_zero_le h.1
 have hn : n < st.length := by omega
 rw [(jM (x := st[n]) (by simp)).1]
 exact List.getElem_mem hn
theorem GI.deliver {n a t : Nat} {I : Int} {G : GS} (h : GI n a t I G) (k : Int) (ha : a ≤ 90000) (ht : t ≤ 9400) : ∃ I', GI n (a + 1) t I' (G.deliver k) := by
 have hI := h.I
 unfold GS.deliver
 split
 ·rename_i hb
  split
  ·split
   ·exact ⟨I, (h.take k).later⟩
   ·rename_i m hm
    have hg := h.msg _ (QcD hb)
    have hmi := h.ms _ m hm
    have hs := hmi.recv hg (by omega) (by omega) (by omega)
    refine (h.take k).done hm (δ := 0) ?_ (by omega)
    obtain ⟨I', a1, a2, a3, a4, a5⟩ := hs
    exact ⟨I', a1, by omega, a3.mono (by omega) (Int.le_refl _) (Nat.le_refl _), fun g hg => (a4 g hg).mono (by omega) (Int.le_refl _), a5⟩
  ·exact ⟨I, (h.take k).later⟩
 ·exact ⟨I, h.later⟩
theorem GI.prop {n a t : Nat} {I : Int} {G : GS} (h : GI n a t I G) {i : Nat} (hi : i < n) {cmd : Bs} (hc : cmd.length ≤ 100) (ha : a ≤ 90000) (ht : t + 1 ≤ 9400) : ∃ I', GI n (a + 1) (t + 1) I' (G.propose i cmd).2 := by
 have hI := h.I
 obtain ⟨m, hm⟩ := h.mem hi
 rw [QaD hm]
 refine h.done hm (δ := 1) ?_ ht
 obtain ⟨I', a1, a2, a3, a4, a5⟩ := (h.ms i m hm).prop hc (by omega) (by omega)
 exact ⟨I', a1, a2, a3.mono (by omega) (Int.le_refl _) (Nat.le_refl _), fun g hg => (a4 g hg).mono (by omega) (Int.le_refl _), a5⟩
theorem GI.set {n a t : Nat} {I : Int} {G : GS} (h : GI n a t I G) {i : Nat} {m m' : MS} (hm : G.ms[i]? = some m) (hm' : MI a I (17000000 + 6000 * a + 6000) i n m') (hc : crm m' ≤ crm m) : GI n (a + 1) t I { G with ms := G.ms.set i m' } := by
 have hl := h.later
 have h0 := h.i0
 have hc2 := jK m' hm
 have hi := (List.getElem?_eq_some_iff.1 hm).1
 refine ⟨by show (G.ms.set i _).length = n ∧ _; rw [List.length_set]; exact h.len, ⟨h0.1, by show I + yQ (G.ms.set i m') ≤ _; omega⟩, fun j mj hj => ?_, hl.st, hl.msg, hl.out⟩
 have hj : (G.ms.set i m')[j]? = some mj := hj
 by_cases e : i = j
 ·subst e
  rw [List.getElem?_set_self hi] at hj
  have hj := Option.some.inj hj
  subst hj
  exact hm'.mono (by omega) (Int.le_refl _) (by omega)
 ·rw [List.getElem?_set_ne e] at hj
  exact hl.ms j mj hj
theorem GI.comp {n a t : Nat} {I : Int} {G : GS} (h : GI n a t I G) {i : Nat} (hi : i < n) (ha : a ≤ 90000) (ht : t ≤ 9400) : GI n (a + 1) t I (G.compact i).2 := by
 have hI := h.I
 obtain ⟨m, hm⟩ := h.mem hi
 rw [QaN hm]
 obtain ⟨b1, b2⟩ := (h.ms i m hm).comp (by omega) (by omega) (by omega)
 exact h.set hm b1 b2
theorem GI.fuel {n a t : Nat} {I : Int} {G : GS} (h : GI n a t I G) {i : Nat} (hi : i < n) {k : Int} (hk : QgA k) : GI n (a + 1) t I (G.fuel i k) := by
 obtain ⟨m, hm⟩ := h.mem hi
 rw [QkK hm]
 obtain ⟨b1, b2⟩ := (h.ms i m hm).fuel hk
 exact h.set hm (b1.mono (Int.le_refl _) (Int.le_refl _) (by omega)) (Int.le_of_eq b2)
theorem GI.crash {n a t : Nat} {I : Int} {G : GS} (h : GI n a t I G) {i : Nat} (hi : i < n) (keep : Int) : GI n (a + 1) t I (G.crash i keep) := by
 obtain ⟨m, hm⟩ := h.mem hi
 have hl := h.len
 have hc := jI m
 rw [jJ hm, hl.1]
 obtain ⟨b1, b2⟩ := (h.ms i m hm).crash ⟨hi, hl.2.2⟩ keep
 exact h.set hm (b1.mono (Int.le_refl _) (Int.le_refl _) (by omega)) (by omega)
theorem GI.twice {n a t : Nat} {I : Int} {G : GS} (h : GI n a t I G) (k : Int) : GI n (a + 1) t I (G.twice k) := by
 have hl := h.later
 have hm2 : n * (a + 1) = n * a + n := by rw [Nat.mul_add]; omega
 have hs := h.st
 have hn := h.len
 refine ⟨hl.len, hl.i0, hl.ms, ?_, fun x hx => ?_, hl.out⟩
 ·show (twL G.st G.last k).length ≤ _ ∧ 0 ≤ twN G.st G.last k ∧ twN G.st G.last k ≤ _
  unfold twL twN
  rw [hm2]
  split
  ·simp [Xp]; omega
  ·omega
 ·have hx : x ∈ twL G.st G.last k := hx
  unfold twL at hx
  split at hx
  ·rename_i hb
   rcases List.mem_append.1 hx with hx | hx
   ·exact hl.msg x hx
   ·have := ZW hx
    simp at this
    rw [this]
    exact hl.msg _ (QcD hb)
  ·exact hl.msg x hx
theorem GI.outs {n a t : Nat} {I : Int} {G : GS} (h : GI n a t I G) : GI n a t I G.outs := ⟨h.len, h.i0, h.ms, h.st, h.msg, by show ([] : List OC).length ≤ _; simp⟩
theorem LB.new : LB 0 0 LG.new := ⟨by decide, by decide, by decide, by decide, by decide, fun e he => (by cases he), by rw [show unS LG.new.state = [] from Qcj]; decide, by decide⟩
theorem GI.new {n : Nat} (hn : 1 ≤ n ∧ n ≤ 9) : GI n 0 0 0 (GS.new n) := by
 have hm : ∀ i m, (GS.new n).ms[i]? = some m → i < n ∧ m = Yx i n LG.new DK.new := fun i m h => by
  have hi := (List.getElem?_eq_some_iff.1 h).1
  have hi : i < n := by simpa [GS.new] using hi
  simp [GS.new, hi] at h
  exact ⟨hi, h.symm⟩
 have hz : ∀ m ∈ (GS.new n).ms, crm m = 0 := fun m h => by
  obtain ⟨i, hi⟩ := List.mem_iff_getElem?.1 h
  obtain ⟨h1, rfl⟩ := hm i m hi
  exact (MI.start LB.new SD.new ⟨h1, hn.2⟩).2
 have hs : ∀ l : List MS, (∀ m ∈ l, crm m = 0) → yQ l = 0 := fun l => by
  induction l with
  | nil => intro _; rfl
  | cons x l ih =>
   intro h
   have h1 := ih (fun m hm => h m (by simp [hm]))
   unfold yQ at h1 ⊢
   rw [List.map_cons, List.sum_cons, h1, h x (by simp)]; rfl
 refine ⟨⟨by simp [GS.new], hn⟩, ⟨by omega, by rw [hs _ hz]; omega⟩, fun i m h => ?_, ⟨by simp [GS.new], by simp [GS.new]⟩, fun x hx => by simp [GS.new] at hx, by simp [GS.new]⟩
 obtain ⟨h1, rfl⟩ := hm i m h
 exact (MI.start LB.new (SD.new.mono (show 0 ≤ 17000000 + 6000 * 0 by omega)) ⟨h1, hn.2⟩).1
def GJ (n c d : Nat) (G : GS) : Prop := ∃ a t I, a + c ≤ 90000 ∧ t + d ≤ 9000 ∧ GI n a t I G
theorem GJ.new {n : Nat} (hn : 1 ≤ n ∧ n ≤ 9) : GJ n 90000 9000 (GS.new n) := ⟨0, 0, 0, by omega, by omega, GI.new hn⟩
theorem bud (n : Nat) : Bud n 90000 (GJ n) where
 gw := fun c d G ⟨a, t, I, ha, ht, h⟩ => h.gw (by omega) (by omega)
 ln := fun c d G ⟨a, t, I, ha, ht, h⟩ => h.len.1
 le := fun c d G ⟨a, t, I, ha, ht, h⟩ => ⟨a, t, I, by omega, by omega, h⟩
 le2 := fun c d G ⟨a, t, I, ha, ht, h⟩ => ⟨a, t, I, by omega, by omega, h⟩
 tick := fun c d G i hi ⟨a, t, I, ha, ht, h⟩ => by
  obtain ⟨I', h'⟩ := h.tick hi (by omega) (by omega)
  exact ⟨a + 1, t + 1, I', by omega, by omega, h'⟩
 del := fun c d G k ⟨a, t, I, ha, ht, h⟩ => by
  obtain ⟨I', h'⟩ := h.deliver k (by omega) (by omega)
  exact ⟨a + 1, t, I', by omega, by omega, h'⟩
 prop := fun c d G i cmd hi hc ⟨a, t, I, ha, ht, h⟩ => by
  obtain ⟨I', h'⟩ := h.prop hi hc (by omega) (by omega)
  exact ⟨a + 1, t + 1, I', by omega, by omega, h'⟩
 comp := fun c d G i hi ⟨a, t, I, ha, ht, h⟩ => ⟨a + 1, t, I, by omega, by omega, h.comp hi (by omega) (by omega)⟩
 fuel := fun c d G i k hi hk ⟨a, t, I, ha, ht, h⟩ => ⟨a + 1, t, I, by omega, by omega, h.fuel hi hk⟩
 opens := fun c d G i m k ⟨a, t, I, ha, ht, h⟩ hm => (h.ms i m hm).opens k
 crash := fun c d G i k hi ⟨a, t, I, ha, ht, h⟩ => ⟨a + 1, t, I, by omega, by omega, h.crash hi k⟩
 drop := fun c d G k ⟨a, t, I, ha, ht, h⟩ => ⟨a + 1, t, I, by omega, by omega, (h.take k).later⟩
 twice := fun c d G k ⟨a, t, I, ha, ht, h⟩ => ⟨a + 1, t, I, by omega, by omega, h.twice k⟩
 last := fun c d G ⟨a, t, I, ha, ht, h⟩ => by
  have h1 := h.st
  have h2 : n * a + n * c ≤ n * 90000 := by rw [← Nat.mul_add]; exact Nat.mul_le_mul_left n (by omega)
  omega
 outs := fun c d G ⟨a, t, I, ha, ht, h⟩ => ⟨a, t, I, ha, ht, h.outs⟩
def MS.er (m : MS) : MS := { m with D := DK.new }
def MS.tickS (m : MS) : MS × List Msg := ({ m with x := m.x.tickP.q }, m.x.tickP.out)
def MS.recvS (m : MS) (g : Msg) : MS × List Msg := ({ m with x := (m.x.receiveP g).q }, (m.x.receiveP g).out)
def MS.propS (m : MS) (c : Bs) : (Int × Int) × (MS × List Msg) := if m.x.role = 2 then (((m.x.entryP c).g.last, (m.x.entryP c).g.term), ({ m with x := (m.x.entryP c).q }, (m.x.entryP c).out)) else ((0, 0), (m, []))
def MS.compS (m : MS) : Int × MS := if m.ap < m.x.g.base then (1, m) else (0, { m with x := { m.x with g := m.x.g.comp m.ap (stB m.l) } })
def MS.crashS (m : MS) (i n : Nat) : MS := Yx i n m.x.g DK.new
def doneS (i : Int) (m : MS) (o : List OC) : MS × List OC := m.rest.todo.foldl (XY i) (m.rest, o)
def GS.doneS (G : GS) (i : Nat) (m : MS) (l : List Msg) : GS := ⟨G.ms.set i (V.doneS i m G.out).1, G.st ++ Xp G.last l, G.last + l.length, (V.doneS i m G.out).2⟩
def GS.tickS (G : GS) (i : Nat) : GS := match G.ms[i]? with
 | none => G
 | some m => G.doneS i m.tickS.1 m.tickS.2
def GS.delS (G : GS) (k : Int) : GS :=
 if XX G.st k = true then
  if 0 ≤ (atM G.st k).2.to then match G.ms[(atM G.st k).2.to.toNat]? with
   | none => G.take k
   | some m => (G.take k).doneS (atM G.st k).2.to.toNat (m.recvS (atM G.st k).2).1 (m.recvS (atM G.st k).2).2
  else G.take k
 else G
def GS.propS (G : GS) (i : Nat) (c : Bs) : (Int × Int) × GS := match G.ms[i]? with
 | none => ((0, 0), G)
 | some m => ((m.propS c).1, G.doneS i (m.propS c).2.1 (m.propS c).2.2)
def GS.compS (G : GS) (i : Nat) : Int × GS := match G.ms[i]? with
 | none => (1, G)
 | some m => (m.compS.1, { G with ms := G.ms.set i m.compS.2 })
def GS.crashS (G : GS) (i : Nat) : GS := match G.ms[i]? with
 | none => G
 | some m => { G with ms := G.ms.set i (m.crashS i G.ms.length) }
def GS.er (G : GS) : GS := { G with ms := G.ms.map MS.er }
def Hl (G : GS) : Prop := ∀ m ∈ G.ms, DKh m.D
theorem MI.up {T I : Int} {N i n : Nat} {m : MS} (h : MI T I N i n m) (hh : DKh m.D) : MU T I N i n m := by
 rcases h.st with u | d
 ·exact u
 ·rw [hh.1] at d; cases d.1
theorem MU.ld {T I : Int} {N i n : Nat} {m : MS} (u : MU T I N i n m) (hh : DKh m.D) : LD N m.x.g m.D := by
 obtain ⟨s1, s2, s3, s4, s5, s6⟩ := u.sd
 exact ⟨s1, hh.2, s2, ⟨s3.1, s3.2.1⟩, s4, s5, s6⟩
theorem Ql8 (i : Int) (e : Ent) (r : MS × List OC) (D : DK) : XY i ({ r.1 with D := D }, r.2) e = ({ (XY i r e).1 with D := D }, (XY i r e).2) := by
 unfold XY
 split <;> rfl
theorem QjD (i : Int) (D : DK) : ∀ (l : List Ent) (r : MS × List OC), l.foldl (XY i) ({ r.1 with D := D }, r.2) = ({ (l.foldl (XY i) r).1 with D := D }, (l.foldl (XY i) r).2)
 | [], r => rfl
 | e :: l, r => by rw [List.foldl_cons, List.foldl_cons, Ql8, QjD i D l]
theorem Qi9 (i : Int) (m : MS) (o : List OC) (D : DK) : doneS i { m with D := D } o = ({ (doneS i m o).1 with D := D }, (doneS i m o).2) := by
 unfold doneS
 have h1 : ({ m with D := D } : MS).rest = { m.rest with D := D } := by unfold MS.rest; split <;> rfl
 have h2 : ({ m with D := D } : MS).rest.todo = m.rest.todo := by rw [h1]; rfl
 rw [h2, h1]
 exact QjD i D _ (m.rest, o)
theorem QfL (i : Int) (m : MS) (o : List OC) : (doneS i m o).1.D = m.D := by
 unfold doneS
 rw [(QaP i m.rest.todo (m.rest, o)).2.1]
 exact (jg m).2.1
theorem Qes {G : GS} {i : Nat} {m m' : MS} {l : List Msg} (hm : G.ms[i]? = some m) (hd : m'.dn = false) (hh : DKh m'.D) (hl : Hl G) : (G.done i m' l).er = G.er.doneS i m'.er l ∧ Hl (G.done i m' l) := by
 have e : XL i m' G.out = doneS i m' G.out := by unfold XL; rw [if_neg (by rw [hd]; decide)]; rfl
 have e2 := Qi9 i m' G.out DK.new
 constructor
 ·unfold GS.done GS.doneS GS.er
  rw [e]
  show GS.mk _ _ _ _ = GS.mk _ _ _ _
  rw [show m'.er = { m' with D := DK.new } from rfl, e2, List.map_set]
  rfl
 ·intro x hx
  rcases List.mem_or_eq_of_mem_set (show x ∈ G.ms.set i (XL i m' G.out).1 from hx) with hx | hx
  ·exact hl x hx
  ·rw [hx, e, QfL]; exact hh
theorem QjF {T I : Int} {N N' i n : Nat} {m : MS} {f : NS → Bool × NS} {y : ND} (h : MI T I N i n m) (u : MU T I N i n m) (hh : DKh m.D) (hf : Hs N' (f (m.x, m.D)) y) : ∃ D', DKh D' ∧ m.act (Xz (m.x, m.D) f) = ({ m with x := y.q, D := D' }, y.out) := by
 obtain ⟨a, b, c⟩ := Qjs u.ub.inn.down (u.ld hh) h.out hf
 exact ⟨_, c.h, by unfold MS.act; rw [a, b]⟩
theorem Qlh {T I : Int} {N i n : Nat} {m : MS} (h : MI T I N i n m) (hh : DKh m.D) (hT : T ≤ 1000000000) (hI : I ≤ 9500) : ∃ D', DKh D' ∧ m.tick = ({ m with x := m.x.tickP.q, D := D' }, m.x.tickP.out) := by
 have u := h.up hh
 have hnn := u.ub.inn.nin0 ⟨by omega, by omega, by omega⟩ h.out
 exact QjF h u hh (Qli (by omega) (u.ld hh) hnn)
theorem QlB {T I : Int} {N i n : Nat} {m : MS} (h : MI T I N i n m) (hh : DKh m.D) {g : Msg} (hg : MB T I g) (hT : T ≤ 1000000000) (hI : I ≤ 9500) (hN : 17000000 ≤ N) : ∃ D', DKh D' ∧ m.recv g = ({ m with x := (m.x.receiveP g).q, D := D' }, (m.x.receiveP g).out) := by
 have u := h.up hh
 have hnn := u.ub.inn.nin0 ⟨by omega, by omega, by omega⟩ h.out
 exact QjF (f := fun s => Xu s g) h u hh (Qhj (k := 0) hN (by omega) (u.ld hh) hnn (hg.im (by omega) (by omega)).1 u.ub.inn.commit.1)
theorem QlE {T I : Int} {N i n : Nat} {m : MS} (h : MI T I N i n m) (hh : DKh m.D) {c : Bs} (hc : c.length ≤ 100) (hT : T ≤ 1000000000) (hI : I ≤ 9500) : ∃ D', DKh D' ∧ m.prop c = ((m.propS c).1, ({ (m.propS c).2.1 with D := D' }, (m.propS c).2.2)) := by
 have u := h.up hh
 by_cases hr : m.x.role = 2
 ·have hnn := u.ub.inn.nin0 ⟨by omega, by omega, by omega⟩ h.out
  have hf := QfG (cmd := c) (by omega) (u.ld hh) hnn hc
  obtain ⟨a, b, d⟩ := Qjs (f := fun s => QV s c) u.ub.inn.down (u.ld hh) h.out hf
  have hb2 : (m.x.entryP c).down = false := by
   have h3 : (m.x.entryP c).down = m.x.down := by unfold ND.entryP; rw [XT]; show (ND.count _).down = _; unfold ND.count; split <;> rfl
   rw [h3]; exact u.ub.inn.down
  have hnd : ¬ Xo (Xz (m.x, m.D) (fun s => QV s c)).2 = true := by
   have := QfK (D := (Xz (m.x, m.D) (fun s => QV s c)).2.2) hb2 d
   rw [← b] at this
   exact this
  refine ⟨_, d.h, ?_⟩
  unfold MS.prop XD MS.propS MS.act
  rw [if_neg (by simpa using hr), if_neg hnd, if_pos hr, a, b]
 ·refine ⟨m.D, hh, ?_⟩
  rw [Qcr hr, h.act0]
  unfold MS.propS
  rw [if_neg hr]
theorem Ql0 {T I : Int} {N i n : Nat} {m : MS} (h : MI T I N i n m) (hh : DKh m.D) : ∃ D', DKh D' ∧ m.comp = (m.compS.1, { m.compS.2 with D := D' }) := by
 have u := h.up hh
 rw [QfP h u]
 unfold MS.compS
 by_cases h1 : m.ap < m.x.g.base
 ·rw [if_pos h1, if_pos h1]; exact ⟨m.D, hh, rfl⟩
 ·rw [if_neg h1, if_neg h1]
  obtain ⟨s1, s2, s3, s4⟩ := QdB hh (Rec.all (m.x.g.comp m.ap (stB m.l))).bytes
  unfold LG.swapD
  rw [if_pos s1]
  exact ⟨_, s2, rfl⟩
theorem QkT {T I : Int} {N i n : Nat} {m : MS} (h : MI T I N i n m) (u : MU T I N i n m) (keep : Int) : ∃ D', DKh D' ∧ m.crash i n keep = { m.crashS i n with D := D' } := by
 obtain ⟨s1, s2, s3, s4, s5, rs, s6, s7⟩ := u.sd
 have hb : (m.D.crash keep).b = m.D.b := Qar s2 keep
 have ht : yC (m.D.crash keep).b rs [] m.x.g := ⟨by rw [hb, s6]; simp, zh, s7⟩
 obtain ⟨t1, t2, t3⟩ := QcJ ht
 unfold MS.crash MS.crashS
 rw [t2, t3]
 have e : (m.D.crash keep).open (jT (m.D.crash keep).b) [] = (0, m.D.crash keep) := by unfold DK.open; rw [if_neg (by show ¬ false = true; decide), if_pos rfl]
 rw [e]
 refine ⟨m.D.crash keep, ⟨rfl, rfl⟩, ?_⟩
 unfold Yx
 split <;> rfl
theorem Qb4 {G : GS} {i : Nat} {m : MS} (hm : G.ms[i]? = some m) : G.er.ms[i]? = some m.er := by unfold GS.er; simp [hm]
theorem Qb3 {G : GS} {i : Nat} (hm : G.ms[i]? = none) : G.er.ms[i]? = none := by unfold GS.er; simpa using hm
theorem QkE {n a t : Nat} {I : Int} {G : GS} (h : GI n a t I G) (hl : Hl G) {i : Nat} (ha : a ≤ 90000) (ht : t + 1 ≤ 9400) : (G.tick i).er = G.er.tickS i ∧ Hl (G.tick i) := by
 have hI := h.I
 cases hm : G.ms[i]? with
 | none => unfold GS.tick GS.tickS; rw [hm, Qb3 hm]; exact ⟨rfl, hl⟩
 | some m =>
  have hmi := h.ms i m hm
  have hh := hl m (List.mem_of_getElem? hm)
  obtain ⟨D', hD', e⟩ := Qlh hmi hh (by omega) (by omega)
  obtain ⟨I', a1, a2, a3, a4, a5⟩ := hmi.tick (by omega) (by omega)
  rw [Qaw hm]
  rw [e] at a3 ⊢
  obtain ⟨b1, b2⟩ := Qes (m' := { m with x := m.x.tickP.q, D := D' }) (l := m.x.tickP.out) hm (a3.up hD').dn hD' hl
  refine ⟨?_, b2⟩
  unfold GS.tickS
  rw [Qb4 hm]
  exact b1
theorem QgY {G : GS} (hl : Hl G) (k : Int) : (G.take k).er = G.er.take k ∧ Hl (G.take k) := ⟨rfl, hl⟩
theorem QlR {n a t : Nat} {I : Int} {G : GS} (h : GI n a t I G) (hl : Hl G) {k : Int} (ha : a ≤ 90000) (ht : t ≤ 9400) : (G.deliver k).er = G.er.delS k ∧ Hl (G.deliver k) := by
 have hI := h.I
 have est : G.er.st = G.st := rfl
 unfold GS.deliver GS.delS
 rw [est]
 split
 ·rename_i hb
  split
  ·cases hm : G.ms[(atM G.st k).2.to.toNat]? with
   | none => rw [Qb3 hm]; exact QgY hl k
   | some m =>
    rw [Qb4 hm]
    have hmi := h.ms _ m hm
    have hh := hl m (List.mem_of_getElem? hm)
    have hg := h.msg _ (QcD hb)
    obtain ⟨D', hD', e⟩ := QlB hmi hh hg (by omega) (by omega) (by omega)
    obtain ⟨I', a1, a2, a3, a4, a5⟩ := hmi.recv hg (by omega) (by omega) (by omega)
    dsimp only
    rw [e] at a3 ⊢
    exact Qes (G := G.take k) (m' := { m with x := (m.x.receiveP (atM G.st k).2).q, D := D' }) hm (a3.up hD').dn hD' hl
  ·exact QgY hl k
 ·exact ⟨rfl, hl⟩
theorem QkI {n a t : Nat} {I : Int} {G : GS} (h : GI n a t I G) (hl : Hl G) {i : Nat} {c : Bs} (hc : c.length ≤ 100) (ha : a ≤ 90000) (ht : t + 1 ≤ 9400) : (G.propose i c).1 = (G.er.propS i c).1 ∧ (G.propose i c).2.er = (G.er.propS i c).2 ∧ Hl (G.propose i c).2 := by
 have hI := h.I
 cases hm : G.ms[i]? with
 | none => unfold GS.propose GS.propS; rw [hm, Qb3 hm]; exact ⟨rfl, rfl, hl⟩
 | some m =>
  have hmi := h.ms i m hm
  have hh := hl m (List.mem_of_getElem? hm)
  obtain ⟨D', hD', e⟩ := QlE hmi hh hc (by omega) (by omega)
  obtain ⟨I', a1, a2, a3, a4, a5⟩ := hmi.prop hc (by omega) (by omega)
  have ep : m.er.propS c = ((m.propS c).1, ((m.propS c).2.1.er, (m.propS c).2.2)) := by unfold MS.propS; show (if m.x.role = 2 then _ else _) = _; split <;> rfl
  rw [QaD hm]
  rw [e] at a3 ⊢
  obtain ⟨b1, b2⟩ := Qes (m' := { (m.propS c).2.1 with D := D' }) (l := (m.propS c).2.2) hm (a3.up hD').dn hD' hl
  unfold GS.propS
  rw [Qb4 hm]
  dsimp only
  rw [ep]
  exact ⟨rfl, b1, b2⟩
theorem QkJ {n a t : Nat} {I : Int} {G : GS} (h : GI n a t I G) (hl : Hl G) {i : Nat} : (G.compact i).1 = (G.er.compS i).1 ∧ (G.compact i).2.er = (G.er.compS i).2 ∧ Hl (G.compact i).2 := by
 cases hm : G.ms[i]? with
 | none => unfold GS.compact GS.compS; rw [hm, Qb3 hm]; exact ⟨rfl, rfl, hl⟩
 | some m =>
  have hmi := h.ms i m hm
  have hh := hl m (List.mem_of_getElem? hm)
  obtain ⟨D', hD', e⟩ := Ql0 hmi hh
  have ep : m.er.compS = (m.compS.1, m.compS.2.er) := by unfold MS.compS; show (if m.ap < m.x.g.base then _ else _) = _; split <;> rfl
  rw [QaN hm, e]
  unfold GS.compS
  rw [Qb4 hm]
  dsimp only
  rw [ep]
  refine ⟨rfl, ?_, fun x hx => ?_⟩
  ·unfold GS.er
   show GS.mk _ _ _ _ = GS.mk _ _ _ _
   rw [List.map_set]; rfl
  ·rcases List.mem_or_eq_of_mem_set (show x ∈ G.ms.set i { m.compS.2 with D := D' } from hx) with hx | hx
   ·exact hl x hx
   ·rw [hx]; exact hD'
theorem QiZ {n a t : Nat} {I : Int} {G : GS} (h : GI n a t I G) (hl : Hl G) {i : Nat} (keep : Int) : (G.crash i keep).er = G.er.crashS i ∧ Hl (G.crash i keep) := by
 cases hm : G.ms[i]? with
 | none => unfold GS.crash GS.crashS; rw [hm, Qb3 hm]; exact ⟨rfl, hl⟩
 | some m =>
  have hmi := h.ms i m hm
  have hh := hl m (List.mem_of_getElem? hm)
  obtain ⟨D', hD', e⟩ := QkT hmi (hmi.up hh) keep
  rw [jJ hm, h.len.1, e]
  have ep : m.er.crashS i n = (m.crashS i n).er := by unfold MS.crashS Yx MS.er; dsimp only; split <;> rfl
  unfold GS.crashS
  rw [Qb4 hm, show G.er.ms.length = n by unfold GS.er; simp [h.len.1]]
  dsimp only
  rw [ep]
  refine ⟨?_, fun x hx => ?_⟩
  ·unfold GS.er
   show GS.mk _ _ _ _ = GS.mk _ _ _ _
   rw [List.map_set]; rfl
  ·rcases List.mem_or_eq_of_mem_set (show x ∈ G.ms.set i { m.crashS i n with D := D' } from hx) with hx | hx
   ·exact hl x hx
   ·rw [hx]; exact hD'
def SJ11 (n c d : Nat) (G : GS) : Prop := GJ n c d G ∧ Hl G
theorem SJ11.tick {n c d i : Nat} {G : GS} (h : SJ11 n (c + 1) (d + 1) G) (hi : i < n) : SJ11 n c d (G.tick i) ∧ (G.tick i).er = G.er.tickS i := by
 have hb := (bud n).tick c d G i hi h.1
 obtain ⟨⟨a, t, I, ha, ht, hg⟩, hl⟩ := h
 obtain ⟨e1, e2⟩ := QkE hg hl (i := i) (by omega) (by omega)
 exact ⟨⟨hb, e2⟩, e1⟩
theorem SJ11.del {n c d : Nat} {k : Int} {G : GS} (h : SJ11 n (c + 1) d G) : SJ11 n c d (G.deliver k) ∧ (G.deliver k).er = G.er.delS k := by
 have hb := (bud n).del c d G k h.1
 obtain ⟨⟨a, t, I, ha, ht, hg⟩, hl⟩ := h
 obtain ⟨e1, e2⟩ := QlR hg hl (k := k) (by omega) (by omega)
 exact ⟨⟨hb, e2⟩, e1⟩
theorem SJ11.prop {n c d i : Nat} {cmd : Bs} {G : GS} (h : SJ11 n (c + 1) (d + 1) G) (hi : i < n) (hc : cmd.length ≤ 100) : SJ11 n c d (G.propose i cmd).2 ∧ (G.propose i cmd).1 = (G.er.propS i cmd).1 ∧ (G.propose i cmd).2.er = (G.er.propS i cmd).2 := by
 have hb := (bud n).prop c d G i cmd hi hc h.1
 obtain ⟨⟨a, t, I, ha, ht, hg⟩, hl⟩ := h
 obtain ⟨e1, e2, e3⟩ := QkI hg hl (i := i) hc (by omega) (by omega)
 exact ⟨⟨hb, e3⟩, e1, e2⟩
theorem SJ11.comp {n c d i : Nat} {G : GS} (h : SJ11 n (c + 1) d G) (hi : i < n) : SJ11 n c d (G.compact i).2 ∧ (G.compact i).1 = (G.er.compS i).1 ∧ (G.compact i).2.er = (G.er.compS i).2 := by
 have hb := (bud n).comp c d G i hi h.1
 obtain ⟨⟨a, t, I, ha, ht, hg⟩, hl⟩ := h
 obtain ⟨e1, e2, e3⟩ := QkJ hg hl (i := i)
 exact ⟨⟨hb, e3⟩, e1, e2⟩
theorem SJ11.crash {n c d i : Nat} {k : Int} {G : GS} (h : SJ11 n (c + 1) d G) (hi : i < n) : SJ11 n c d (G.crash i k) ∧ (G.crash i k).er = G.er.crashS i := by
 have hb := (bud n).crash c d G i k hi h.1
 obtain ⟨⟨a, t, I, ha, ht, hg⟩, hl⟩ := h
 obtain ⟨e1, e2⟩ := QiZ hg hl (i := i) k
 exact ⟨⟨hb, e2⟩, e1⟩
theorem SJ11.leq {n c c' d d' : Nat} {G : GS} (h : SJ11 n c' d' G) (hc : c ≤ c') (hd : d ≤ d') : SJ11 n c d G := ⟨(bud n).leq hc hd h.1, h.2⟩
def GS.ticksS (G : GS) (k : Nat) : GS := (List.range k).foldl GS.tickS G
theorem zF (G : GS) (k : Nat) : G.ticksS (k + 1) = (G.ticksS k).tickS k := by unfold GS.ticksS; rw [List.range_succ, List.foldl_append]; rfl
theorem SJ11.ticks {n c d : Nat} {G : GS} : ∀ {k : Nat}, k ≤ n → SJ11 n (c + k) (d + k) G → SJ11 n c d (G.ticks k) ∧ (G.ticks k).er = G.er.ticksS k
 | 0, _, h => ⟨h, rfl⟩
 | k + 1, hk, h => by
  obtain ⟨h1, e1⟩ := SJ11.ticks (n := n) (c := c + 1) (d := d + 1) (k := k) (by omega) (by rw [show c + 1 + k = c + (k + 1) by omega, show d + 1 + k = d + (k + 1) by omega]; exact h)
  obtain ⟨h2, e2⟩ := h1.tick (i := k) (by omega)
  rw [yT, zF, e2, e1]
  exact ⟨h2, rfl⟩
def GS.del1S (G : GS) : GS := if G.st.length > 0 then G.delS 0 else G
def GS.delsS (G : GS) : Nat → GS
 | 0 => G
 | k + 1 => (G.delsS k).del1S
theorem SJ11.dels {n c d : Nat} {G : GS} : ∀ {k : Nat}, SJ11 n (c + k) d G → SJ11 n c d (G.dels k) ∧ (G.dels k).er = G.er.delsS k
 | 0, h => ⟨h, rfl⟩
 | k + 1, h => by
  obtain ⟨h1, e1⟩ := SJ11.dels (c := c + 1) (k := k) (by rw [show c + 1 + k = c + (k + 1) by omega]; exact h)
  show SJ11 n c d (G.dels k).del1 ∧ (G.dels k).del1.er = (G.er.delsS k).del1S
  rw [← e1]
  unfold GS.del1 GS.del1S
  rw [show (G.dels k).er.st = (G.dels k).st from rfl]
  split
  ·exact h1.del
  ·exact ⟨h1.leq (by omega) (Nat.le_refl _), rfl⟩
def GS.roundS (G : GS) (n : Nat) : GS := (G.ticksS n).delsS 200
def GS.roundsS (G : GS) (n : Nat) : Nat → GS
 | 0 => G
 | k + 1 => (G.roundsS n k).roundS n
theorem SJ11.round {n c d : Nat} {G : GS} (h : SJ11 n (c + (n + 200)) (d + n) G) : SJ11 n c d (G.round n) ∧ (G.round n).er = G.er.roundS n := by
 obtain ⟨h1, e1⟩ := SJ11.ticks (c := c + 200) (d := d) (k := n) (Nat.le_refl n) (by rw [show c + 200 + n = c + (n + 200) by omega]; exact h)
 obtain ⟨h2, e2⟩ := h1.dels
 unfold GS.roundS
 rw [← e1]
 exact ⟨h2, e2⟩
theorem SJ11.rounds {n : Nat} {G : GS} : ∀ {k c d : Nat}, SJ11 n (c + k * (n + 200)) (d + k * n) G → SJ11 n c d (G.rounds n k) ∧ (G.rounds n k).er = G.er.roundsS n k
 | 0, c, d, h => ⟨by simpa [GS.rounds] using h, rfl⟩
 | k + 1, c, d, h => by
  obtain ⟨h1, e1⟩ := SJ11.rounds (k := k) (c := c + (n + 200)) (d := d + n) (by rw [show c + (n + 200) + k * (n + 200) = c + (k + 1) * (n + 200) by rw [Nat.add_mul]; omega, show d + n + k * n = d + (k + 1) * n by rw [Nat.add_mul]; omega]; exact h)
  obtain ⟨h2, e2⟩ := h1.round
  show SJ11 n c d ((G.rounds n k).round n) ∧ ((G.rounds n k).round n).er = (G.er.roundsS n k).roundS n
  rw [← e1]
  exact ⟨h2, e2⟩
theorem SJ11.new {n : Nat} (hn : 1 ≤ n ∧ n ≤ 9) : SJ11 n 90000 9000 (GS.new n) := ⟨GJ.new hn, fun m hm => by
 obtain ⟨i, hi, e⟩ := List.mem_map.1 (show m ∈ (List.range n).map (fun i => Yx i n LG.new DK.new) from hm)
 rw [← e]
 exact ⟨rfl, rfl⟩⟩
theorem Qbs (G : GS) (n : Nat) : G.er.leads n = G.leads n := by
 have h1 : ∀ k, G.er.leader k = G.leader k := fun k => by unfold GS.leader GS.er; cases h : G.ms[k]? <;> simp [h] <;> rfl
 have h2 : ∀ k, G.er.term k = G.term k := fun k => by unfold GS.term GS.er; cases h : G.ms[k]? <;> simp [h] <;> rfl
 have h3 : ∀ k, G.er.role k = G.role k := fun k => by unfold GS.role GS.er; split <;> (try rfl); cases h : G.ms[k.toNat]? <;> simp [h] <;> rfl
 have h4 : G.er.alike n = G.alike n := by unfold GS.alike; simp only [h1, h2]
 unfold GS.leads
 simp only [h1, h3, h4]
end V
end Go.Proofs.YtenfjpigffjgmaaGreat
set_option linter.unusedSimpArgs false
set_option linter.unusedVariables false
set_option maxRecDepth 100000
namespace Go.Proofs.YtenfjpigffjgmaaGreat
open Go.RowKit
namespace V
set_option maxHeartbeats 4000000
def YL (l : List Bs) (c : Bs) : List Bs := if c = [] then l else l ++ [c]
theorem Qe8 (l : List Bs) : qQ l l = true := by unfold qQ; exact decide_eq_true rfl
theorem Qfq {x : ND} (hn : x.n = 1) (hid : x.id = 0) : x.others = [] := by unfold ND.others; rw [hn, hid]; decide
theorem QiN {x : ND} (hn : x.n = 1) (hid : x.id = 0) : x.mid = x.g.last := by
 unfold ND.mid ND.reach
 rw [Qfq hn hid, hn]
 simp
theorem Qi3 {x : ND} (hn : x.n = 1) (hid : x.id = 0) : x.feedAll = x := by
 rw [XT, Qfq hn hid]
 unfold ND.sends
 simp
def YM (es : List Ent) : List Bs := (es.map (·.2)).filter (fun s => decide (¬ s = []))
theorem Qa6 (a b : List Ent) : YM (a ++ b) = YM a ++ YM b := by simp [YM]
theorem Qeh (i : Int) : ∀ (es : List Ent) (r : MS × List OC), (es.foldl (XY i) r).1 = { r.1 with ap := r.1.ap + es.length, l := r.1.l ++ YM es }
 | [], r => by simp [YM]
 | e :: es, r => by
  rw [List.foldl_cons, Qeh i es]
  unfold XY
  by_cases h : e.2 = []
  ·rw [if_pos h, show YM (e :: es) = YM es by simp [YM, h]]
   dsimp only
   rw [List.length_cons, show r.1.ap + 1 + (es.length : Int) = r.1.ap + ((es.length + 1 : Nat) : Int) by omega]
  ·rw [if_neg h, show YM (e :: es) = e.2 :: YM es by simp [YM, h]]
   dsimp only
   rw [List.length_cons, show r.1.ap + 1 + (es.length : Int) = r.1.ap + ((es.length + 1 : Nat) : Int) by omega, List.append_assoc]; rfl
theorem QbE {g : LG} (e : Ent) (hb : 0 ≤ g.base) : (g.play (.add g.last [e])).all = g.all ++ [e] ∧ (g.play (.add g.last [e])).last = g.last + 1 := by
 have h1 : (g.play (.add g.last [e])).all = g.all ++ [e] := by
  show g.all.take (g.last - g.base).toNat ++ [e] = _
  rw [List.take_of_length_le (by unfold LG.last; omega)]
 refine ⟨h1, ?_⟩
 show g.base + ((g.play (.add g.last [e])).all.length : Int) = g.last + 1
 rw [h1]
 unfold LG.last
 simp; omega
theorem QgI {x : ND} {c : Bs} (hn : x.n = 1) (hid : x.id = 0) (hb : 0 ≤ x.g.base) (hc : x.commit ≤ x.g.last) : x.entryP c = { x with g := x.g.play (.add x.g.last [(x.g.term, c)]), commit := x.g.last + 1 } := by
 obtain ⟨h1, h2⟩ := QbE (g := x.g) (x.g.term, c) hb
 have hm : ND.mid { x with g := x.g.play (.add x.g.last [(x.g.term, c)]) } = x.g.last + 1 := by rw [QiN (x := { x with g := x.g.play (.add x.g.last [(x.g.term, c)]) }) hn hid]; exact h2
 have ht : ND.tAt { x with g := x.g.play (.add x.g.last [(x.g.term, c)]) } (x.g.last + 1) = x.g.term := by
  have hl : x.g.last = x.g.base + x.g.all.length := rfl
  have hb2 : (x.g.play (.add x.g.last [(x.g.term, c)])).base = x.g.base := rfl
  unfold ND.tAt LG.termAt
  dsimp only
  rw [if_neg (by rw [hb2]; omega), za (by rw [hb2]; omega), hb2, h1]
  rw [List.getElem?_append_right (by omega), show (x.g.last + 1 - x.g.base - 1).toNat - x.g.all.length = 0 by omega]
  rfl
 unfold ND.entryP
 have hcount : ND.count { x with g := x.g.play (.add x.g.last [(x.g.term, c)]) } = { x with g := x.g.play (.add x.g.last [(x.g.term, c)]), commit := x.g.last + 1 } := by
  unfold ND.count
  rw [hm, if_pos ⟨by show x.g.last + 1 > x.commit; omega, ht⟩]
 rw [hcount]
 exact Qi3 (x := { x with g := x.g.play (.add x.g.last [(x.g.term, c)]), commit := x.g.last + 1 }) hn hid
theorem Zs {P Q : Nat → MS → Prop} {ms : List MS} {i : Nat} {m' : MS} (h : ∀ j m, ms[j]? = some m → P j m) (hpq : ∀ j m, j ≠ i → P j m → Q j m) (h' : Q i m') : ∀ j m, (ms.set i m')[j]? = some m → Q j m := fun j m hj => by
 by_cases e : i = j
 ·subst e
  have hi : i < ms.length := by have := (List.getElem?_eq_some_iff.1 hj).1; simpa using this
  rw [List.getElem?_set_self hi] at hj
  have hj := Option.some.inj hj
  subst hj; exact h'
 ·rw [List.getElem?_set_ne e] at hj
  exact hpq j m (fun h => e h.symm) (h j m hj)
theorem QlQ {x : XU} {l : List XU} : XX (x :: l) 0 = true := by unfold XX; simp
theorem at0 {x : XU} {l : List XU} : atM (x :: l) 0 = x := (jM (st := x :: l) (i := 0) (x := x) rfl).1
theorem QmA {x : XU} {l : List XU} : Zd (x :: l) 0 = l := by unfold Zd; rw [if_pos QlQ]; rfl
theorem QaM {G : GS} {x : XU} {l : List XU} {i : Nat} {m : MS} (hs : G.st = x :: l) (hto : x.2.to = (i : Int)) (hm : G.ms[i]? = some m) :
  (G.delS 0).ms = G.ms.set i (doneS i (m.recvS x.2).1 G.out).1 ∧ (G.delS 0).st = l ++ Xp G.last (m.recvS x.2).2 := by
 unfold GS.delS
 rw [hs, QlQ, at0, hto, if_pos rfl, if_pos (by omega), Int.toNat_natCast, hm]
 constructor
 ·rfl
 ·show Zd G.st 0 ++ _ = _
  rw [hs, QmA]; rfl
def muW (w : Msg → Nat) (l : List XU) : Nat := (l.map fun x => w x.2).sum
theorem Qfu (w : Msg → Nat) (a b : List XU) : muW w (a ++ b) = muW w a + muW w b := by simp [muW]
theorem Qfs (w : Msg → Nat) (k : Int) (m : Msg) : muW w (Xp k [m]) = w m := by simp [muW, Xp]
theorem Qft {w : Msg → Nat} (hw : ∀ m, 1 ≤ w m) : ∀ l : List XU, l.length ≤ muW w l
 | [] => Nat.zero_le _
 | x :: l => by
  have := Qft hw l
  have := hw x.2
  unfold muW at *
  simp only [List.map_cons, List.sum_cons, List.length_cons]
  omega
theorem Qet {Inv : GS → Prop} {w : Msg → Nat} (hw : ∀ m, 1 ≤ w m) (step : ∀ G x l, Inv G → G.st = x :: l → Inv (G.delS 0) ∧ muW w (G.delS 0).st < muW w G.st) {G : GS} (h : Inv G) {k : Nat} (hk : muW w G.st ≤ k) : Inv (G.delsS k) ∧ (G.delsS k).st = [] := by
 have key : ∀ j, Inv (G.delsS j) ∧ (muW w (G.delsS j).st + j ≤ muW w G.st ∨ (G.delsS j).st = []) := fun j => by
  induction j with
  | zero => exact ⟨h, .inl (Nat.le_refl _)⟩
  | succ j ih =>
   obtain ⟨h1, h2⟩ := ih
   show Inv (G.delsS j).del1S ∧ _
   cases hs : (G.delsS j).st with
   | nil =>
    have e : (G.delsS j).del1S = G.delsS j := by unfold GS.del1S; rw [hs, if_neg (by simp)]
    exact ⟨by rw [e]; exact h1, .inr (by show (G.delsS j).del1S.st = []; rw [e, hs])⟩
   | cons x l =>
    have e : (G.delsS j).del1S = (G.delsS j).delS 0 := by unfold GS.del1S; rw [hs, if_pos (by simp)]
    obtain ⟨h3, h4⟩ := step _ x l h1 hs
    refine ⟨by rw [e]; exact h3, .inl ?_⟩
    show muW w (G.delsS j).del1S.st + (j + 1) ≤ _
    rw [e]
    rcases h2 with h2 | h2
    ·omega
    ·rw [h2] at hs; cases hs
 obtain ⟨h1, h2⟩ := key k
 refine ⟨h1, ?_⟩
 rcases h2 with h2 | h2
 ·have := Qft hw (G.delsS k).st
  exact List.length_eq_zero_iff.1 (by omega)
 ·exact h2
def zO (g : LG) : List Bs := (if g.base > 0 then unS g.state else []) ++ YM g.all
theorem QkP (i : Int) (m : MS) (o : List OC) : (doneS i m o).1.x = m.x := by
 unfold doneS
 rw [(QaP i _ _).1]
 exact (jg _).1
theorem QkO {m : MS} (hb : m.x.g.base ≤ m.ap) (i : Int) (o : List OC) : (doneS i m o).1 = { m with ap := m.ap + (((m.x.g.all.drop (m.ap - m.x.g.base).toNat).take (m.x.commit - m.ap).toNat).length : Int), l := m.l ++ YM ((m.x.g.all.drop (m.ap - m.x.g.base).toNat).take (m.x.commit - m.ap).toNat) } := by
 have h1 : m.rest = m := by unfold MS.rest; rw [if_neg (by omega)]
 unfold doneS
 rw [h1, Qeh]
 rfl
structure AP (cs : List Bs) (m : MS) : Prop where
 b : m.x.g.base ≤ m.ap
 c : m.ap ≤ m.x.commit
 l : m.x.commit ≤ m.x.g.last
 t : m.l ++ YM (m.x.g.all.drop (m.ap - m.x.g.base).toNat) = cs
theorem AP.done {c : List Bs} {m : MS} (h : AP c m) (i : Int) (o : List OC) : AP c (doneS i m o).1 ∧ (doneS i m o).1.ap = m.x.commit ∧ (doneS i m o).1.x = m.x ∧ (doneS i m o).1.D = m.D ∧ (m.x.commit = m.x.g.last → (doneS i m o).1.l = c) := by
 have hb := h.b
 have hc := h.c
 have hl := h.l
 have hl2 : m.x.g.last = m.x.g.base + m.x.g.all.length := rfl
 have e := QkO hb i o
 have hlen : ((m.x.g.all.drop (m.ap - m.x.g.base).toNat).take (m.x.commit - m.ap).toNat).length = (m.x.commit - m.ap).toNat := by simp; omega
 rw [hlen] at e
 have hap : (doneS i m o).1.ap = m.x.commit := by rw [e]; show m.ap + _ = _; omega
 have hx : (doneS i m o).1.x = m.x := QkP i m o
 have hll : (doneS i m o).1.l = m.l ++ YM ((m.x.g.all.drop (m.ap - m.x.g.base).toNat).take (m.x.commit - m.ap).toNat) := by rw [e]
 have hA : AP c (doneS i m o).1 := by
  refine ⟨by rw [hx, hap]; omega, by rw [hx, hap]; exact Int.le_refl _, by rw [hx]; exact hl, ?_⟩
  rw [hx, hap, hll, List.append_assoc, ← Qa6]
  have e2 : m.x.g.all.drop (m.x.commit - m.x.g.base).toNat = (m.x.g.all.drop (m.ap - m.x.g.base).toNat).drop (m.x.commit - m.ap).toNat := by rw [List.drop_drop]; congr 1; omega
  rw [e2, List.take_append_drop]
  exact h.t
 refine ⟨hA, hap, hx, QfL i m o, fun hcl => ?_⟩
 have := hA.t
 rw [hx, hap, hcl, List.drop_eq_nil_of_le (by omega)] at this
 simpa [YM] using this
structure BM (n : Nat) (T k t : Int) (w : List Bs) (i : Nat) (m : MS) : Prop where
 id : m.x.id = i
 n : m.x.n = n
 out : m.x.out = []
 term : m.x.g.term = T
 base : 0 ≤ m.x.g.base
 last : m.x.g.last = k
 tl : m.x.g.termAt k = some t
 ct : zO m.x.g = w
 ap : m.ap = m.x.commit
 A : AP w m
structure BL (n L : Nat) (k p : Int) (m : MS) : Prop where
 role : m.x.role = 2
 leader : m.x.leader = L
 pat : m.x.patience = p
 com : m.x.commit = k
 l : m.x.peers.length = n
 peers : ∀ j, j < n → j ≠ L → m.x.peers[j]? = some (k + 1, k)
structure BF (L : Nat) (b : Int) (m : MS) : Prop where
 role : m.x.role = 0
 pat : 0 ≤ m.x.patience ∧ m.x.patience ≤ b
def Syn (L : Nat) (k : Int) (m : MS) : Prop := m.x.leader = L ∧ m.x.commit = k
def bM (L : Nat) (T k t : Int) (i : Nat) : Msg := { Msg.zero with kind := 2, frm := L, to := i, term := T, index := k, logTerm := t, commit := k }
def aM (L : Nat) (T k : Int) (i : Nat) : Msg := { Msg.zero with kind := 3, frm := i, to := L, term := T, ok := true, index := k }
def w2 (m : Msg) : Nat := if m.kind = 3 then 1 else 2
theorem QgU (m : Msg) : 1 ≤ w2 m := by unfold w2; split <;> omega
theorem Qd8 {x : ND} (hid : x.id < x.n) {k : Int} (h1 : x.g.last ≤ k) (h2 : ∀ j, j < x.n → j ≠ x.id → x.mat j ≤ k) : x.mid ≤ k := by
 have hm := jh hid
 unfold ND.reach at hm
 rcases List.mem_cons.1 hm with hm | hm
 ·omega
 ·obtain ⟨j, hj, e⟩ := List.mem_map.1 hm
  rw [← e]
  unfold ND.others at hj
  rw [List.mem_filter] at hj
  exact h2 j (by simpa using hj.1) (by simpa using hj.2)
theorem Zo {x : ND} {j : Nat} {p : Int × Int} (h : x.peers[j]? = some p) : x.mat j = p.2 ∧ x.nxt j = p.1 := by
 unfold ND.mat ND.nxt
 rw [List.getD_eq_getElem?_getD, h]; exact ⟨rfl, rfl⟩
theorem Qjc {x : ND} (h : x.mid ≤ x.commit) : x.count = x := by unfold ND.count; rw [if_neg (by omega)]
theorem Qhg {x : ND} {L n i : Nat} {T k t : Int} (hid : x.id = i) (hn : x.n = n) (hL : L < n ∧ L ≠ i) (ht : x.g.term = T) (hr : x.role = 0) (hb : x.g.base ≤ k) (htl : x.g.termAt k = some t) (hc : x.commit ≤ k) :
  x.receiveP (bM L T k t i) = ND.answer { x with role := 0, leader := L, patience := 0, commit := k } (bM L T k t i) true k := by
 unfold ND.receiveP
 rw [if_neg (by rw [hid, hn]; show ¬ (¬ (i : Int) = i ∨ (L : Int) = i ∨ (L : Int) < 0 ∨ (L : Int) ≥ n); omega), if_neg (by show ¬ T > x.g.term; omega)]
 unfold ND.kindP
 rw [if_neg (by show ¬ (2 : Int) = 0; decide), if_neg (by show ¬ (2 : Int) = 1; decide), if_pos (.inl (show (bM L T k t i).kind = 2 from rfl))]
 unfold ND.fedP
 rw [if_neg (by show ¬ T < x.g.term; omega), if_neg (by omega), if_pos (show (bM L T k t i).kind = 2 from rfl)]
 unfold ND.addP
 rw [if_neg (by show ¬ (k < x.g.base ∧ _); omega), if_neg (by show ¬ (_ ∧ ¬ x.g.termAt k = some t); rw [htl]; simp)]
 have hcut : (x.follows (bM L T k t i)).cutM (bM L T k t i) = (k, []) := by
  unfold ND.cutM
  rw [if_neg (by show ¬ k < x.g.base; omega)]
  rfl
 rw [hcut]
 unfold ND.restP
 rw [Qi0]
 dsimp only
 have hcm : max x.commit (min k (k + (([] : List Ent).length : Int))) = k := by simp; omega
 unfold ND.commits ND.follows
 show ND.answer { x with role := 0, leader := L, patience := 0, commit := max x.commit (min k (k + (([] : List Ent).length : Int))) } _ true (k + (([] : List Ent).length : Int)) = _
 rw [hcm]
 simp
theorem Qiy {x : ND} {L n i : Nat} {T k : Int} (hid : x.id = L) (hn : x.n = n) (hi : i < n ∧ i ≠ L) (hL : L < n) (ht : x.g.term = T) (hr : x.role = 2) (hl : x.g.last = k) (hc : x.commit = k) (hpl : x.peers.length = n) (hp : ∀ j, j < n → j ≠ L → x.peers[j]? = some (k + 1, k)) :
  x.receiveP (aM L T k i) = x := by
 have hpi := hp i hi.1 hi.2
 unfold ND.receiveP
 rw [if_neg (by rw [hid, hn]; show ¬ (¬ (L : Int) = L ∨ (i : Int) = L ∨ (i : Int) < 0 ∨ (i : Int) ≥ n); omega), if_neg (by show ¬ T > x.g.term; omega)]
 unfold ND.kindP
 rw [if_neg (by show ¬ (3 : Int) = 0; decide), if_neg (by show ¬ (3 : Int) = 1; decide), if_neg (by show ¬ ((3 : Int) = 2 ∨ (3 : Int) = 4); decide), if_pos (show (aM L T k i).kind = 3 from rfl)]
 unfold ND.heardP Ya
 dsimp only
 rw [if_neg (by show ¬ (¬ x.role = 2 ∨ ¬ T = x.g.term); omega), if_neg (by show ¬ true = false; decide)]
 have e1 : (aM L T k i).frm.toNat = i := by show (i : Int).toNat = i; simp
 have e2 : max (x.mat i) (min (aM L T k i).index x.g.last) = k := by
  rw [(Zo hpi).1, hl]; show max k (min k k) = k; omega
 rw [e1, e2]
 have e3 : x.setPeer i (k + 1, k) = x := by
  unfold ND.setPeer
  have : x.peers.set i (k + 1, k) = x.peers := by
   apply List.ext_getElem? 
   intro j
   by_cases hj : i = j
   ·subst hj
    rw [List.getElem?_set_self (by omega), hpi]
   ·rw [List.getElem?_set_ne hj]
  rw [this]
 rw [e3, Qjc (by rw [hc]; exact Qd8 (by omega) (by omega) (fun j hj hjn => by rw [(Zo (hp j (by omega) (by omega))).1]; exact Int.le_refl _))]
 rw [if_neg (by show ¬ k + 1 ≤ x.g.last; omega)]
structure Beat (n L : Nat) (T k t : Int) (w : List Bs) (p b : Int) (G : GS) : Prop where
 len : G.ms.length = n
 lt : L < n
 ms : ∀ i m, G.ms[i]? = some m → BM n T k t w i m ∧ (i = L → BL n L k p m) ∧ (i ≠ L → BF L b m ∧ ((Syn L k m ∧ m.x.patience = 0) ∨ ∃ x ∈ G.st, x.2 = bM L T k t i))
 st : ∀ x ∈ G.st, ∃ i, i < n ∧ i ≠ L ∧ (x.2 = bM L T k t i ∨ x.2 = aM L T k i)
theorem BM.at {n : Nat} {T k t : Int} {w : List Bs} {i : Nat} {m : MS} (h : BM n T k t w i m) : m.x.g.base ≤ k ∧ m.x.commit ≤ k ∧ m.x.g.base ≤ m.x.commit := by
 have h1 := h.A
 have h2 := h.ap
 have h3 := h.last
 have := h1.b
 have := h1.l
 omega
theorem Beat.del {n L : Nat} {T k t : Int} {w : List Bs} {p b : Int} {G : GS} {x : XU} {l : List XU} (h : Beat n L T k t w p b G) (hb : 0 ≤ b) (hs : G.st = x :: l) : Beat n L T k t w p b (G.delS 0) ∧ muW w2 (G.delS 0).st < muW w2 G.st := by
 obtain ⟨i, hi, hiL, hx⟩ := h.st x (by rw [hs]; simp)
 have hLn := h.lt
 have hst : ∀ y ∈ l, y ∈ G.st := fun y hy => by rw [hs]; exact List.mem_cons_of_mem _ hy
 rcases hx with hx | hx
 ·obtain ⟨m, hm⟩ : ∃ m, G.ms[i]? = some m := ⟨_, List.getElem?_eq_getElem (by rw [h.len]; exact hi)⟩
  obtain ⟨c1, _, c3⟩ := h.ms i m hm
  obtain ⟨c4, _⟩ := c3 hiL
  obtain ⟨a1, a2, a3⟩ := c1.at
  obtain ⟨e1, e2⟩ := QaM hs (by rw [hx]; rfl) hm
  have hr := Qhg (x := m.x) c1.id c1.n ⟨hLn, fun e => hiL e.symm⟩ c1.term c4.role a1 c1.tl a2
  have er : m.recvS x.2 = ({ m with x := { m.x with role := 0, leader := L, patience := 0, commit := k } }, [aM L T k i]) := by
   unfold MS.recvS
   rw [hx, hr]
   unfold ND.answer ND.send ND.q
   dsimp only
   rw [c1.out]
   refine Prod.ext ?_ ?_
   ·show MS.mk _ _ _ _ = MS.mk _ _ _ _
    congr 1
    try (show ND.mk _ _ _ _ _ _ _ _ _ _ _ = ND.mk _ _ _ _ _ _ _ _ _ _ _; rw [c1.out])
   ·show [_] = [_]
    unfold aM bM
    dsimp only
    rw [c1.id, c1.term]
    try rfl
  rw [er] at e1 e2
  have hA : AP w { m with x := { m.x with role := 0, leader := L, patience := 0, commit := k } } := ⟨c1.A.b, by show m.ap ≤ k; rw [c1.ap]; exact a2, by show k ≤ m.x.g.last; rw [c1.last]; exact Int.le_refl _, c1.A.t⟩
  obtain ⟨d1, d2, d3, d4, d5⟩ := hA.done (i : Int) G.out
  constructor
  ·refine ⟨by rw [e1, List.length_set]; exact h.len, hLn, ?_, ?_⟩
   ·rw [e1]
    refine Zs h.ms (fun j mj hj hP => ⟨hP.1, hP.2.1, fun hjL => ⟨(hP.2.2 hjL).1, ?_⟩⟩) ?_
    ·rcases (hP.2.2 hjL).2 with hz | ⟨y, hy, hz⟩
     ·exact .inl hz
     ·right
      refine ⟨y, ?_, hz⟩
      rw [hs] at hy
      rcases List.mem_cons.1 hy with hy | hy
      ·exfalso
       rw [hy, hx] at hz
       have : ((i : Int)) = j := congrArg Msg.to hz
       omega
      ·rw [e2]; exact List.mem_append_left _ hy
    ·refine ⟨⟨by rw [d3]; exact c1.id, by rw [d3]; exact c1.n, by rw [d3]; exact c1.out, by rw [d3]; exact c1.term, by rw [d3]; exact c1.base, by rw [d3]; exact c1.last, by rw [d3]; exact c1.tl, by rw [d3]; exact c1.ct, by rw [d2, d3], d1⟩, fun e => absurd e hiL, fun _ => ⟨⟨by rw [d3], by rw [d3]; exact ⟨Int.le_refl _, hb⟩⟩, .inl ⟨⟨by rw [d3], by rw [d3]⟩, by rw [d3]⟩⟩⟩
   ·intro y hy
    rw [e2] at hy
    rcases List.mem_append.1 hy with hy | hy
    ·exact h.st y (hst y hy)
    ·have := ZW hy
     simp at this
     exact ⟨i, hi, hiL, .inr this⟩
  ·rw [e2, hs, Qfu, Qfs]
   have h1 : w2 (aM L T k i) = 1 := rfl
   have h2 : w2 x.2 = 2 := by rw [hx]; rfl
   unfold muW
   simp only [List.map_cons, List.sum_cons]
   omega
 ·obtain ⟨m, hm⟩ : ∃ m, G.ms[L]? = some m := ⟨_, List.getElem?_eq_getElem (by rw [h.len]; exact hLn)⟩
  obtain ⟨c1, c2, c3⟩ := h.ms L m hm
  have c2 := c2 rfl
  obtain ⟨e1, e2⟩ := QaM hs (by rw [hx]; rfl) hm
  have hr := Qiy (x := m.x) c1.id c1.n ⟨hi, hiL⟩ hLn c1.term c2.role c1.last c2.com c2.l c2.peers
  have er : m.recvS x.2 = (m, []) := by
   unfold MS.recvS
   rw [hx, hr, c1.out, qn c1.out]
  rw [er] at e1 e2
  obtain ⟨d1, d2, d3, d4, d5⟩ := c1.A.done (L : Int) G.out
  have e2 : (G.delS 0).st = l := by rw [e2]; simp [Xp]
  constructor
  ·refine ⟨by rw [e1, List.length_set]; exact h.len, hLn, ?_, ?_⟩
   ·rw [e1]
    refine Zs h.ms (fun j mj hj hP => ⟨hP.1, hP.2.1, fun hjL => ⟨(hP.2.2 hjL).1, ?_⟩⟩) ?_
    ·rcases (hP.2.2 hjL).2 with hz | ⟨y, hy, hz⟩
     ·exact .inl hz
     ·right
      refine ⟨y, ?_, hz⟩
      rw [hs] at hy
      rcases List.mem_cons.1 hy with hy | hy
      ·exfalso
       rw [hy, hx] at hz
       have : (3 : Int) = 2 := congrArg Msg.kind hz
       omega
      ·rw [e2]; exact hy
    ·refine ⟨⟨by rw [d3]; exact c1.id, by rw [d3]; exact c1.n, by rw [d3]; exact c1.out, by rw [d3]; exact c1.term, by rw [d3]; exact c1.base, by rw [d3]; exact c1.last, by rw [d3]; exact c1.tl, by rw [d3]; exact c1.ct, by rw [d2, d3], d1⟩, fun _ => ⟨by rw [d3]; exact c2.role, by rw [d3]; exact c2.leader, by rw [d3]; exact c2.pat, by rw [d3]; exact c2.com, by rw [d3]; exact c2.l, by rw [d3]; exact c2.peers⟩, fun e => absurd rfl e⟩
   ·intro y hy
    rw [e2] at hy
    exact h.st y (hst y hy)
  ·rw [e2, hs]
   have h2 : w2 x.2 = 1 := by rw [hx]; rfl
   unfold muW
   simp only [List.map_cons, List.sum_cons]
   omega
structure PS (n L : Nat) (T k t : Int) (w : List Bs) (p b : Int) (y : Prop) (G : GS) : Prop where
 len : G.ms.length = n
 lt : L < n
 ms : ∀ i m, G.ms[i]? = some m → BM n T k t w i m ∧ (i = L → BL n L k p m) ∧ (i ≠ L → BF L b m ∧ (y → Syn L k m))
 st : G.st = []
theorem QhT {x : ND} {L n i : Nat} {T k t : Int} (hid : x.id = L) (ht : x.g.term = T) (hb : x.g.base ≤ k) (hl : x.g.last = k) (htl : x.g.termAt k = some t) (hc : x.commit = k) (hp : x.peers[i]? = some (k + 1, k)) : x.stamp (x.feedMsg i) = bM L T k t i := by
 have hl2 : x.g.last = x.g.base + x.g.all.length := rfl
 rw [yz (by rw [(Zo hp).2]; omega), (Zo hp).2]
 have e1 : (x.g.all.drop (k + 1 - x.g.base - 1).toNat).take 8 = [] := by rw [List.drop_eq_nil_of_le (by omega)]; rfl
 have e2 : k + 1 - 1 = k := by omega
 have e3 : x.tAt k = t := by unfold ND.tAt; rw [htl]; rfl
 rw [e1, e2, e3, hc]
 unfold ND.stamp bM
 rw [hid, ht]
 try rfl
theorem others_mem {x : ND} {j : Nat} : j ∈ x.others ↔ j < x.n ∧ j ≠ x.id := by unfold ND.others; rw [List.mem_filter]; simp
structure PT (n L : Nat) (T k t : Int) (w : List Bs) (p b : Int) (y : Prop) (q : Nat) (G : GS) : Prop where
 len : G.ms.length = n
 lt : L < n
 ms : ∀ i m, G.ms[i]? = some m → BM n T k t w i m ∧ (i = L → BL n L k (if q ≤ L then p else if p + 1 ≥ 3 then 0 else p + 1) m) ∧ (i ≠ L → BF L (if q ≤ i then b else b + 1) m ∧ (y → Syn L k m))
 st : if q ≤ L ∨ ¬ p + 1 ≥ 3 then G.st = [] else (∀ x ∈ G.st, ∃ i, i < n ∧ i ≠ L ∧ x.2 = bM L T k t i) ∧ (∀ i, i < n → i ≠ L → ∃ x ∈ G.st, x.2 = bM L T k t i) ∧ G.st.length ≤ n
theorem Qa8 {G : GS} {i : Nat} {m : MS} (hm : G.ms[i]? = some m) : (G.tickS i).ms = G.ms.set i (doneS i m.tickS.1 G.out).1 ∧ (G.tickS i).st = G.st ++ Xp G.last m.tickS.2 := by
 unfold GS.tickS
 rw [hm]
 exact ⟨rfl, rfl⟩
theorem BM.same {n : Nat} {T k t : Int} {w : List Bs} {i : Nat} {m : MS} (c1 : BM n T k t w i m) (pt : Int) (o : List OC) : BM n T k t w i (doneS i { m with x := ND.q { m.x with patience := pt } } o).1 ∧ (doneS i { m with x := ND.q { m.x with patience := pt } } o).1.x = { m.x with patience := pt } := by
 have hq : ND.q { m.x with patience := pt } = { m.x with patience := pt } := qn c1.out
 rw [hq]
 have hA : AP w { m with x := { m.x with patience := pt } } := ⟨c1.A.b, c1.A.c, c1.A.l, c1.A.t⟩
 obtain ⟨d1, d2, d3, d4, d5⟩ := hA.done (i : Int) o
 exact ⟨⟨by rw [d3]; exact c1.id, by rw [d3]; exact c1.n, by rw [d3]; exact c1.out, by rw [d3]; exact c1.term, by rw [d3]; exact c1.base, by rw [d3]; exact c1.last, by rw [d3]; exact c1.tl, by rw [d3]; exact c1.ct, by rw [d2, d3], d1⟩, d3⟩
theorem zy : ∀ {l : List Msg} {k : Int} {m : Msg}, m ∈ l → ∃ x ∈ Xp k l, x.2 = m
 | [], _, _, h => by cases h
 | a :: l, k, m, h => by
  rw [Xp]
  rcases List.mem_cons.1 h with h | h
  ·exact ⟨(k + 1, a), by simp, h.symm⟩
  ·obtain ⟨x, hx, e⟩ := zy (k := k + 1) h
   exact ⟨x, List.mem_cons_of_mem _ hx, e⟩
theorem PT.tick {n L : Nat} {T k t : Int} {w : List Bs} {p b : Int} {y : Prop} {q : Nat} {G : GS} (h : PT n L T k t w p b y q G) (hq : q < n) (hp : 0 ≤ p ∧ p ≤ 2) (hb : 0 ≤ b ∧ b ≤ 8) : PT n L T k t w p b y (q + 1) (G.tickS q) := by
 obtain ⟨m, hm⟩ : ∃ m, G.ms[q]? = some m := ⟨_, List.getElem?_eq_getElem (by rw [h.len]; exact hq)⟩
 obtain ⟨c1, c2, c3⟩ := h.ms q m hm
 obtain ⟨e1, e2⟩ := Qa8 hm
 have hst := h.st
 by_cases hL : q = L
 ·subst hL
  have c2 := c2 rfl
  rw [if_pos (Nat.le_refl _)] at c2
  rw [if_pos (.inl (Nat.le_refl _))] at hst
  by_cases hbeat : p + 1 ≥ 3
  ·have et : m.x.tickP = ND.feedAll { m.x with patience := 0 } := by
    unfold ND.tickP
    rw [if_pos c2.role, if_pos (by rw [c2.pat]; exact hbeat)]
   have e3 : m.tickS.1 = { m with x := ND.q { m.x with patience := 0 } } := by
    unfold MS.tickS
    rw [et, XT]
    rfl
   have e4 : m.tickS.2 = (m.x.others.map fun i => bM q T k t i) := by
    unfold MS.tickS
    rw [et, yA (x := { m.x with patience := 0 }) c1.out]
    rw [List.map_map]
    apply List.map_congr_left
    intro j hj
    obtain ⟨hj1, hj2⟩ := others_mem.1 (show j ∈ m.x.others from hj)
    rw [c1.n] at hj1
    rw [c1.id] at hj2
    exact QhT (x := { m.x with patience := 0 }) (n := n) c1.id c1.term c1.at.1 c1.last c1.tl c2.com (c2.peers j hj1 hj2)
   obtain ⟨b1, b2⟩ := c1.same 0 G.out
   rw [e3] at e1
   rw [hst, e4] at e2
   refine ⟨by rw [e1, List.length_set]; exact h.len, h.lt, ?_, ?_⟩
   ·rw [e1]
    refine Zs h.ms (fun j mj hj hP => ⟨hP.1, fun hjL => absurd hjL hj, fun hjL => ?_⟩) ⟨b1, fun _ => ?_, fun hjL => absurd rfl hjL⟩
    ·have h5 := hP.2.2 hjL
     refine ⟨?_, h5.2⟩
     rcases Nat.lt_or_ge j q with hjq | hjq
     ·rw [if_neg (by omega)]; rw [if_neg (by omega)] at h5; exact h5.1
     ·rw [if_pos (by omega)]; rw [if_pos (by omega)] at h5; exact h5.1
    ·rw [if_neg (by omega), if_pos hbeat]
     exact ⟨by rw [b2]; exact c2.role, by rw [b2]; exact c2.leader, by rw [b2], by rw [b2]; exact c2.com, by rw [b2]; exact c2.l, by rw [b2]; exact c2.peers⟩
   ·rw [if_neg (by omega), e2]
    refine ⟨fun x hx => ?_, fun i hi hiL => ?_, ?_⟩
    ·have := ZW (show x ∈ Xp G.last _ from by simpa using hx)
     obtain ⟨j, hj, e⟩ := List.mem_map.1 this
     obtain ⟨hj1, hj2⟩ := others_mem.1 hj
     exact ⟨j, by rw [← c1.n]; exact hj1, by rw [← c1.id]; exact hj2, e.symm⟩
    ·obtain ⟨x, hx, e⟩ := zy (k := G.last) (List.mem_map.2 ⟨i, others_mem.2 ⟨by rw [c1.n]; exact hi, by rw [c1.id]; exact hiL⟩, rfl⟩ : bM q T k t i ∈ m.x.others.map fun i => bM q T k t i)
     exact ⟨x, by simpa using hx, e⟩
    ·have := ya m.x
     rw [c1.n] at this
     simpa [qD] using this
  ·have et : m.x.tickP = { m.x with patience := m.x.patience + 1 } := by
    unfold ND.tickP
    rw [if_pos c2.role, if_neg (by rw [c2.pat]; exact hbeat)]
   obtain ⟨b1, b2⟩ := c1.same (m.x.patience + 1) G.out
   have e3 : m.tickS = ({ m with x := ND.q { m.x with patience := m.x.patience + 1 } }, []) := by
    unfold MS.tickS
    rw [et]
    exact Prod.ext rfl c1.out
   rw [e3] at e1 e2
   refine ⟨by rw [e1, List.length_set]; exact h.len, h.lt, ?_, ?_⟩
   ·rw [e1]
    refine Zs h.ms (fun j mj hj hP => ⟨hP.1, fun hjL => absurd hjL hj, fun hjL => ?_⟩) ⟨b1, fun _ => ?_, fun hjL => absurd rfl hjL⟩
    ·have h5 := hP.2.2 hjL
     refine ⟨?_, h5.2⟩
     rcases Nat.lt_or_ge j q with hjq | hjq
     ·rw [if_neg (by omega)]; rw [if_neg (by omega)] at h5; exact h5.1
     ·rw [if_pos (by omega)]; rw [if_pos (by omega)] at h5; exact h5.1
    ·rw [if_neg (by omega), if_neg hbeat]
     exact ⟨by rw [b2]; exact c2.role, by rw [b2]; exact c2.leader, by rw [b2]; show m.x.patience + 1 = p + 1; rw [c2.pat], by rw [b2]; exact c2.com, by rw [b2]; exact c2.l, by rw [b2]; exact c2.peers⟩
   ·rw [if_pos (.inr hbeat), e2, hst]; rfl
 ·obtain ⟨c4, c5⟩ := c3 hL
  rw [if_pos (Nat.le_refl _)] at c4
  have hlm := ji m.x.id m.x.g.term
  have hpt := c4.pat
  have et : m.x.tickP = { m.x with patience := m.x.patience + 1 } := by
   unfold ND.tickP
   rw [if_neg (by rw [c4.role]; decide), if_neg (by omega)]
  obtain ⟨b1, b2⟩ := c1.same (m.x.patience + 1) G.out
  have e3 : m.tickS = ({ m with x := ND.q { m.x with patience := m.x.patience + 1 } }, []) := by
   unfold MS.tickS
   rw [et]
   exact Prod.ext rfl c1.out
  rw [e3] at e1 e2
  have e2 : (G.tickS q).st = G.st := by rw [e2]; simp [Xp]
  refine ⟨by rw [e1, List.length_set]; exact h.len, h.lt, ?_, ?_⟩
  ·rw [e1]
   refine Zs h.ms (fun j mj hj hP => ⟨hP.1, fun hjL => ?_, fun hjL => ?_⟩) ⟨b1, fun e => absurd e hL, fun _ => ⟨?_, fun hy => ?_⟩⟩
   ·have h5 := hP.2.1 hjL
    rcases Nat.lt_or_ge L q with hjq | hjq
    ·rw [if_neg (by omega)]; rw [if_neg (by omega)] at h5; exact h5
    ·rw [if_pos (by omega)]; rw [if_pos (by omega)] at h5; exact h5
   ·have h5 := hP.2.2 hjL
    refine ⟨?_, h5.2⟩
    rcases Nat.lt_or_ge j q with hjq | hjq
    ·rw [if_neg (by omega)]; rw [if_neg (by omega)] at h5; exact h5.1
    ·rw [if_pos (by omega)]; rw [if_pos (by omega)] at h5; exact h5.1
   ·rw [if_neg (by omega)]
    exact ⟨by rw [b2]; exact c4.role, by rw [b2]; show 0 ≤ m.x.patience + 1 ∧ m.x.patience + 1 ≤ b + 1; omega⟩
   ·have := c5 hy
    exact ⟨by rw [b2]; exact this.1, by rw [b2]; exact this.2⟩
  ·rw [e2]
   rcases Nat.lt_or_ge L q with hjq | hjq
   ·by_cases hbeat : p + 1 ≥ 3
    ·rw [if_neg (by omega)] at hst ⊢; exact hst
    ·rw [if_pos (.inr hbeat)] at hst ⊢; exact hst
   ·rw [if_pos (.inl (by omega))] at hst ⊢; exact hst
theorem PS.ticks {n L : Nat} {T k t : Int} {w : List Bs} {p b : Int} {y : Prop} {G : GS} (h : PS n L T k t w p b y G) (hp : 0 ≤ p ∧ p ≤ 2) (hb : 0 ≤ b ∧ b ≤ 8) : ∀ q, q ≤ n → PT n L T k t w p b y q (G.ticksS q)
 | 0, _ => ⟨h.len, h.lt, fun i m hi => ⟨(h.ms i m hi).1, fun e => by rw [if_pos (Nat.zero_le _)]; exact (h.ms i m hi).2.1 e, fun e => by rw [if_pos (Nat.zero_le _)]; exact (h.ms i m hi).2.2 e⟩, by rw [if_pos (.inl (Nat.zero_le _))]; exact h.st⟩
 | q + 1, hq => by
  rw [zF]
  exact (h.ticks hp hb q (by omega)).tick (by omega) hp hb
theorem PS.round {n L : Nat} {T k t : Int} {w : List Bs} {p b : Int} {y : Prop} {G : GS} (h : PS n L T k t w p b y G) (hn : n ≤ 9) (hp : 0 ≤ p ∧ p ≤ 2) (hb : 0 ≤ b ∧ b ≤ 8) : if p + 1 ≥ 3 then PS n L T k t w 0 0 True (G.roundS n) else PS n L T k t w (p + 1) (b + 1) y (G.roundS n) := by
 have h1 := h.ticks hp hb n (Nat.le_refl n)
 have hLn := h.lt
 have hst := h1.st
 by_cases hbeat : p + 1 ≥ 3
 ·rw [if_pos hbeat]
  rw [if_neg (by omega)] at hst
  have h2 : Beat n L T k t w 0 (b + 1) (G.ticksS n) := by
   refine ⟨h1.len, hLn, fun i m hi => ?_, fun x hx => ?_⟩
   ·obtain ⟨c1, c2, c3⟩ := h1.ms i m hi
    have hin : i < n := by have := (List.getElem?_eq_some_iff.1 hi).1; rw [h1.len] at this; exact this
    refine ⟨c1, fun e => ?_, fun e => ⟨?_, .inr (hst.2.1 i hin e)⟩⟩
    ·have := c2 e
     rw [if_neg (by omega), if_pos hbeat] at this
     exact this
    ·have := (c3 e).1
     rw [if_neg (by omega)] at this
     exact this
   ·obtain ⟨i, a1, a2, a3⟩ := hst.1 x hx
    exact ⟨i, a1, a2, .inl a3⟩
  have hmu : muW w2 (G.ticksS n).st ≤ 200 := by
   have : ∀ l : List XU, muW w2 l ≤ 2 * l.length := fun l => by
    induction l with
    | nil => exact Nat.le_refl _
    | cons x l ih =>
     have h5 : w2 x.2 ≤ 2 := by unfold w2; split <;> omega
     unfold muW at ih ⊢
     simp only [List.map_cons, List.sum_cons, List.length_cons]
     omega
   have := this (G.ticksS n).st
   have := hst.2.2
   omega
  obtain ⟨h3, h4⟩ := Qet (Inv := Beat n L T k t w 0 (b + 1)) QgU (fun G x l hG hs => hG.del (by omega) hs) h2 hmu
  refine ⟨h3.len, hLn, fun i m hi => ?_, h4⟩
  obtain ⟨c1, c2, c3⟩ := h3.ms i m hi
  refine ⟨c1, c2, fun e => ?_⟩
  rcases (c3 e).2 with h5 | ⟨x, hx, _⟩
  ·exact ⟨⟨(c3 e).1.role, by rw [h5.2]; exact ⟨Int.le_refl _, Int.le_refl _⟩⟩, fun _ => h5.1⟩
  ·have h4' : (G.roundS n).st = [] := h4
   rw [show ((G.ticksS n).delsS 200).st = (G.roundS n).st from rfl, h4'] at hx; cases hx
 ·rw [if_neg hbeat]
  rw [if_pos (.inr hbeat)] at hst
  have e : G.roundS n = G.ticksS n := by
   show (G.ticksS n).delsS 200 = _
   have : ∀ j, (G.ticksS n).delsS j = G.ticksS n := fun j => by
    induction j with
    | zero => rfl
    | succ j ih =>
     show ((G.ticksS n).delsS j).del1S = _
     rw [ih]
     unfold GS.del1S
     rw [hst, if_neg (by simp)]
   exact this 200
  rw [e]
  refine ⟨h1.len, hLn, fun i m hi => ?_, hst⟩
  obtain ⟨c1, c2, c3⟩ := h1.ms i m hi
  have hin : i < n := by have := (List.getElem?_eq_some_iff.1 hi).1; rw [h1.len] at this; exact this
  refine ⟨c1, fun e => ?_, fun e => ?_⟩
  ·have := c2 e
   rw [if_neg (by omega), if_neg hbeat] at this
   exact this
  ·have := c3 e
   rw [if_neg (by omega)] at this
   exact this
theorem Qdf (w : List Bs) (T : Int) (c : Bs) : w ++ YM [(T, c)] = YL w c := by
 unfold YM YL
 by_cases h : c = [] <;> simp [h]
theorem Qev {x : ND} (h : x.mid > x.commit → x.tAt x.mid = x.g.term) : ∃ cm, x.count = { x with commit := cm } ∧ x.commit ≤ cm ∧ (cm = x.commit ∨ cm = x.mid) ∧ x.mid ≤ cm := by
 by_cases h1 : x.mid > x.commit
 ·exact ⟨x.mid, by unfold ND.count; rw [if_pos ⟨h1, h h1⟩], by omega, .inr rfl, Int.le_refl _⟩
 ·exact ⟨x.commit, by unfold ND.count; rw [if_neg (by omega)], Int.le_refl _, .inl rfl, by omega⟩
theorem BM.grow {n : Nat} {T k t : Int} {w : List Bs} {i : Nat} {m : MS} (h : BM n T k t w i m) (c : Bs) {y : ND} (hy : y = { m.x with g := m.x.g.play (.add k [(T, c)]), role := y.role, leader := y.leader, patience := y.patience, commit := y.commit, peers := y.peers, votes := y.votes }) (hc : m.x.commit ≤ y.commit ∧ y.commit ≤ k + 1) (o : List OC) :
  BM n T (k + 1) T (YL w c) i (doneS i { m with x := y } o).1 ∧ (doneS i { m with x := y } o).1.x = y := by
 have hl := h.last
 have hb := h.base
 have hA := h.A
 obtain ⟨a1, a2, a3⟩ := h.at
 obtain ⟨e1, e2⟩ := QbE (g := m.x.g) (T, c) hb
 rw [hl] at e1 e2
 have hyg : y.g = m.x.g.play (.add k [(T, c)]) := by rw [hy]
 have hyb : y.g.base = m.x.g.base := by rw [hyg]; rfl
 have hyl : y.g.last = k + 1 := by rw [hyg]; exact e2
 have hya : y.g.all = m.x.g.all ++ [(T, c)] := by rw [hyg]; exact e1
 have hll : m.x.g.last = m.x.g.base + m.x.g.all.length := rfl
 have hc0 : zO y.g = YL w c := by
  unfold zO
  rw [hya, hyb, Qa6, ← List.append_assoc]
  have : y.g.state = m.x.g.state := by rw [hyg]; rfl
  rw [this]
  have h2 := h.ct
  unfold zO at h2
  rw [h2, Qdf]
 have hA2 : AP (YL w c) { m with x := y } := by
  refine ⟨by show y.g.base ≤ m.ap; rw [hyb]; exact hA.b, by show m.ap ≤ y.commit; have := hA.c; omega, by show y.commit ≤ y.g.last; rw [hyl]; exact hc.2, ?_⟩
  show m.l ++ YM (y.g.all.drop (m.ap - y.g.base).toNat) = _
  rw [hyb, hya, List.drop_append_of_le_length (by have := hA.b; have := hA.c; omega), Qa6, ← List.append_assoc, hA.t, Qdf]
 obtain ⟨d1, d2, d3, d4, d5⟩ := hA2.done (i : Int) o
 refine ⟨⟨by rw [d3]; show y.id = i; rw [hy]; exact h.id, by rw [d3]; show y.n = n; rw [hy]; exact h.n, by rw [d3]; show y.out = []; rw [hy]; exact h.out, by rw [d3]; show y.g.term = T; rw [hyg]; exact h.term, by rw [d3]; show 0 ≤ y.g.base; rw [hyb]; exact hb, by rw [d3]; exact hyl, ?_, by rw [d3]; exact hc0, by rw [d2, d3], d1⟩, d3⟩
 rw [d3]
 show y.g.termAt (k + 1) = some T
 unfold LG.termAt
 rw [if_neg (by rw [hyb]; omega), za (by rw [hyb, hyl]; omega), hya, hyb, List.getElem?_append_right (by omega), show (k + 1 - m.x.g.base - 1).toNat - m.x.g.all.length = 0 by omega]
 rfl
theorem BM.keep {n : Nat} {T k t : Int} {w : List Bs} {i : Nat} {m : MS} (h : BM n T k t w i m) {y : ND} (hy : y = { m.x with role := y.role, leader := y.leader, patience := y.patience, commit := y.commit, peers := y.peers, votes := y.votes }) (hc : m.x.commit ≤ y.commit ∧ y.commit ≤ k) (o : List OC) :
  BM n T k t w i (doneS i { m with x := y } o).1 ∧ (doneS i { m with x := y } o).1.x = y := by
 have hl := h.last
 have hA := h.A
 have hyg : y.g = m.x.g := by rw [hy]
 have hA2 : AP w { m with x := y } := ⟨by show y.g.base ≤ m.ap; rw [hyg]; exact hA.b, by show m.ap ≤ y.commit; have := hA.c; omega, by show y.commit ≤ y.g.last; rw [hyg, hl]; exact hc.2, by show m.l ++ YM (y.g.all.drop (m.ap - y.g.base).toNat) = _; rw [hyg]; exact hA.t⟩
 obtain ⟨d1, d2, d3, d4, d5⟩ := hA2.done (i : Int) o
 exact ⟨⟨by rw [d3]; show y.id = i; rw [hy]; exact h.id, by rw [d3]; show y.n = n; rw [hy]; exact h.n, by rw [d3]; show y.out = []; rw [hy]; exact h.out, by rw [d3]; show y.g.term = T; rw [hyg]; exact h.term, by rw [d3]; show 0 ≤ y.g.base; rw [hyg]; exact h.base, by rw [d3]; show y.g.last = k; rw [hyg]; exact hl, by rw [d3]; show y.g.termAt k = some t; rw [hyg]; exact h.tl, by rw [d3]; show zO y.g = w; rw [hyg]; exact h.ct, by rw [d2, d3], d1⟩, d3⟩
def fM (L : Nat) (T k t : Int) (c : Bs) (cm : Int) (i : Nat) : Msg := { Msg.zero with kind := 2, frm := L, to := i, term := T, index := k, logTerm := t, es := [(T, c)], commit := cm }
def isF (L : Nat) (T k t : Int) (c : Bs) (i : Nat) (m : Msg) : Prop := ∃ cm, (k ≤ cm ∧ cm ≤ k + 1) ∧ m = fM L T k t c cm i
structure CL (n L : Nat) (p : Int) (m : MS) : Prop where
 role : m.x.role = 2
 leader : m.x.leader = L
 pat : m.x.patience = p
 mid : m.x.mid ≤ m.x.commit
 l : m.x.peers.length = n
structure CQ (n L : Nat) (T k t : Int) (w : List Bs) (c : Bs) (p b : Int) (q : Nat) (G : GS) : Prop where
 len : G.ms.length = n
 lt : L < n
 ms : ∀ i m, G.ms[i]? = some m → (i = L → BM n T (k + 1) T (YL w c) i m ∧ CL n L (if q ≤ L then p else if p + 1 ≥ 3 then 0 else p + 1) m ∧ k ≤ m.x.commit ∧ (m.x.g.base ≤ k ∧ m.x.tAt k = t ∧ m.x.g.at (k + 1) = some (T, c)) ∧ ∀ j, j < n → j ≠ L → m.x.peers[j]? = some (k + 1, k)) ∧ (i ≠ L → BM n T k t w i m ∧ BF L (if q ≤ i then b else b + 1) m)
 st : (∀ x ∈ G.st, ∃ i, i < n ∧ i ≠ L ∧ isF L T k t c i x.2) ∧ (∀ i, i < n → i ≠ L → ∃ x ∈ G.st, isF L T k t c i x.2) ∧ G.st.length ≤ (if q ≤ L then n else 2 * n)
theorem Qem {x : ND} {L n i : Nat} {T k t : Int} {c : Bs} (hid : x.id = L) (ht : x.g.term = T) (hb : x.g.base ≤ k) (hl : x.g.last = k + 1) (hta : x.tAt k = t) (hat : x.g.at (k + 1) = some (T, c)) (hc : k ≤ x.commit ∧ x.commit ≤ k + 1) (hp : x.peers[i]? = some (k + 1, k)) : isF L T k t c i (x.stamp (x.feedMsg i)) := by
 have hl2 : x.g.last = x.g.base + x.g.all.length := rfl
 rw [yz (by rw [(Zo hp).2]; omega), (Zo hp).2]
 have e1 : (x.g.all.drop (k + 1 - x.g.base - 1).toNat).take 8 = [(T, c)] := by
  rw [za (by omega)] at hat
  obtain ⟨h1, h2⟩ := List.getElem?_eq_some_iff.1 hat
  rw [List.drop_eq_getElem_cons h1, h2, List.drop_eq_nil_of_le (by omega)]
  rfl
 have e2 : k + 1 - 1 = k := by omega
 rw [e1, e2, hta]
 refine ⟨x.commit, hc, ?_⟩
 unfold ND.stamp fM
 rw [hid, ht]
 try rfl
theorem CQ.tick {n L : Nat} {T k t : Int} {w : List Bs} {c : Bs} {p b : Int} {q : Nat} {G : GS} (h : CQ n L T k t w c p b q G) (hq : q < n) (hp : 0 ≤ p ∧ p ≤ 2) (hb : 0 ≤ b ∧ b ≤ 8) : CQ n L T k t w c p b (q + 1) (G.tickS q) := by
 obtain ⟨m, hm⟩ : ∃ m, G.ms[q]? = some m := ⟨_, List.getElem?_eq_getElem (by rw [h.len]; exact hq)⟩
 obtain ⟨c2, c3⟩ := h.ms q m hm
 obtain ⟨e1, e2⟩ := Qa8 hm
 obtain ⟨s1, s2, s3⟩ := h.st
 have hoth : ∀ j mj, j ≠ q → ((j = L → BM n T (k + 1) T (YL w c) j mj ∧ CL n L (if q ≤ L then p else if p + 1 ≥ 3 then 0 else p + 1) mj ∧ k ≤ mj.x.commit ∧ (mj.x.g.base ≤ k ∧ mj.x.tAt k = t ∧ mj.x.g.at (k + 1) = some (T, c)) ∧ ∀ j, j < n → j ≠ L → mj.x.peers[j]? = some (k + 1, k)) ∧ (j ≠ L → BM n T k t w j mj ∧ BF L (if q ≤ j then b else b + 1) mj)) →
   ((j = L → BM n T (k + 1) T (YL w c) j mj ∧ CL n L (if q + 1 ≤ L then p else if p + 1 ≥ 3 then 0 else p + 1) mj ∧ k ≤ mj.x.commit ∧ (mj.x.g.base ≤ k ∧ mj.x.tAt k = t ∧ mj.x.g.at (k + 1) = some (T, c)) ∧ ∀ j, j < n → j ≠ L → mj.x.peers[j]? = some (k + 1, k)) ∧ (j ≠ L → BM n T k t w j mj ∧ BF L (if q + 1 ≤ j then b else b + 1) mj)) := fun j mj hj hP => by
  refine ⟨fun e => ?_, fun e => ?_⟩
  ·have h5 := hP.1 e
   rcases Nat.lt_or_ge L q with hjq | hjq
   ·rw [if_neg (by omega)]; rw [if_neg (by omega)] at h5; exact h5
   ·rw [if_pos (by omega)]; rw [if_pos (by omega)] at h5; exact h5
  ·have h5 := hP.2 e
   rcases Nat.lt_or_ge j q with hjq | hjq
   ·rw [if_neg (by omega)]; rw [if_neg (by omega)] at h5; exact h5
   ·rw [if_pos (by omega)]; rw [if_pos (by omega)] at h5; exact h5
 by_cases hL : q = L
 ·subst hL
  obtain ⟨b1, b2, b3, b4, b5⟩ := c2 rfl
  rw [if_pos (Nat.le_refl _)] at b2
  rw [if_pos (Nat.le_refl _)] at s3
  obtain ⟨y, l, hy, hl, hx, hpt⟩ : ∃ y l, m.x.tickP = ND.sends y l ∧ (l.map y.stamp = [] ∨ l.map y.stamp = m.x.others.map fun i => y.stamp (y.feedMsg i)) ∧ y = { m.x with patience := y.patience } ∧ y.patience = if p + 1 ≥ 3 then 0 else p + 1 := by
   unfold ND.tickP
   rw [if_pos b2.role, b2.pat]
   by_cases hbeat : p + 1 ≥ 3
   ·rw [if_pos hbeat, if_pos hbeat, XT]
    exact ⟨_, _, rfl, .inr (by rw [List.map_map]; rfl), rfl, rfl⟩
   ·rw [if_neg hbeat, if_neg hbeat]
    exact ⟨{ m.x with patience := p + 1 }, [], by unfold ND.sends; simp, .inl rfl, rfl, rfl⟩
  have hyo : y.out = [] := by rw [hx]; exact b1.out
  have e3 : m.tickS.1 = { m with x := y } := by
   unfold MS.tickS
   rw [hy]
   show MS.mk (ND.q _) _ _ _ = _
   have : ND.q (y.sends l) = y := qn hyo
   rw [this]
  have e4 : m.tickS.2 = l.map y.stamp := by
   unfold MS.tickS
   rw [hy]
   show y.out ++ _ = _
   rw [hyo]; rfl
  obtain ⟨k1, k2⟩ := b1.keep (y := y) (by rw [hx]) ⟨by rw [hx]; exact Int.le_refl _, by rw [hx]; exact b1.at.2.1⟩ G.out
  rw [e3] at e1
  rw [e4] at e2
  have hfy : ∀ i, i < n → i ≠ q → isF q T k t c i (y.stamp (y.feedMsg i)) := fun i hi hiq => Qem (n := n) (by rw [hx]; exact b1.id) (by rw [hx]; exact b1.term) (by rw [hx]; exact b4.1) (by rw [hx]; exact b1.last) (by rw [hx]; exact b4.2.1) (by rw [hx]; exact b4.2.2) (by rw [hx]; exact ⟨b3, b1.at.2.1⟩) (by rw [hx]; exact b5 i hi hiq)
  refine ⟨by rw [e1, List.length_set]; exact h.len, h.lt, ?_, ?_, ?_, ?_⟩
  ·rw [e1]
   refine Zs h.ms (fun j mj hj hP => hoth j mj hj hP) ⟨fun _ => ⟨k1, ?_, by rw [k2, hx]; exact b3, by rw [k2, hx]; exact b4, by rw [k2, hx]; exact b5⟩, fun hjL => absurd rfl hjL⟩
   rw [if_neg (by omega)]
   exact ⟨by rw [k2, hx]; exact b2.role, by rw [k2, hx]; exact b2.leader, by rw [k2]; exact hpt, by rw [k2, hx]; exact b2.mid, by rw [k2, hx]; exact b2.l⟩
  ·intro x hx2
   rw [e2] at hx2
   rcases List.mem_append.1 hx2 with hx2 | hx2
   ·exact s1 x hx2
   ·have h6 := ZW hx2
    rcases hl with hl | hl
    ·rw [hl] at h6; cases h6
    ·rw [hl] at h6
     obtain ⟨j, hj, e⟩ := List.mem_map.1 h6
     obtain ⟨hj1, hj2⟩ := others_mem.1 hj
     rw [b1.n] at hj1
     rw [b1.id] at hj2
     rw [← e]
     exact ⟨j, hj1, hj2, hfy j hj1 hj2⟩
  ·intro i hi hiL
   obtain ⟨x, hx2, hxF⟩ := s2 i hi hiL
   exact ⟨x, by rw [e2]; exact List.mem_append_left _ hx2, hxF⟩
  ·rw [e2, if_neg (by omega), List.length_append, qD]
   have : (l.map y.stamp).length ≤ n := by
    rcases hl with hl | hl
    ·rw [hl]; exact Nat.zero_le _
    ·rw [hl, List.length_map]
     have := ya m.x
     rw [b1.n] at this
     exact this
   omega
 ·obtain ⟨c4, c5⟩ := c3 hL
  rw [if_pos (Nat.le_refl _)] at c5
  have hlm := ji m.x.id m.x.g.term
  have hpt := c5.pat
  have et : m.x.tickP = { m.x with patience := m.x.patience + 1 } := by
   unfold ND.tickP
   rw [if_neg (by rw [c5.role]; decide), if_neg (by omega)]
  obtain ⟨b1, b2⟩ := c4.same (m.x.patience + 1) G.out
  have e3 : m.tickS = ({ m with x := ND.q { m.x with patience := m.x.patience + 1 } }, []) := by
   unfold MS.tickS
   rw [et]
   exact Prod.ext rfl c4.out
  rw [e3] at e1 e2
  have e2 : (G.tickS q).st = G.st := by rw [e2]; simp [Xp]
  refine ⟨by rw [e1, List.length_set]; exact h.len, h.lt, ?_, by rw [e2]; exact s1, by rw [e2]; exact s2, ?_⟩
  ·rw [e1]
   refine Zs h.ms (fun j mj hj hP => hoth j mj hj hP) ⟨fun e => absurd e hL, fun _ => ⟨b1, ?_⟩⟩
   rw [if_neg (by omega)]
   exact ⟨by rw [b2]; exact c5.role, by rw [b2]; show 0 ≤ m.x.patience + 1 ∧ m.x.patience + 1 ≤ b + 1; omega⟩
  ·rw [e2]
   split
   ·rw [if_pos (by omega)] at s3; exact s3
   ·split at s3
    ·omega
    ·exact s3
theorem CQ.ticks {n L : Nat} {T k t : Int} {w : List Bs} {c : Bs} {p b : Int} {G : GS} (h : CQ n L T k t w c p b 0 G) (hp : 0 ≤ p ∧ p ≤ 2) (hb : 0 ≤ b ∧ b ≤ 8) : ∀ q, q ≤ n → CQ n L T k t w c p b q (G.ticksS q)
 | 0, _ => h
 | q + 1, hq => by
  rw [zF]
  exact (h.ticks hp hb q (by omega)).tick (by omega) hp hb
theorem QdZ {x : ND} {L n i : Nat} {T k t : Int} {c : Bs} {cm : Int} (hid : x.id = i) (hn : x.n = n) (hL : L < n ∧ L ≠ i) (ht : x.g.term = T) (hr : x.role = 0) (hb : x.g.base ≤ k) (htl : x.g.termAt k = some t) :
  x.receiveP (fM L T k t c cm i) = match ND.fits x.g [(T, c)] (k + 1) with
   | none => ND.answer { x with role := 0, leader := L, patience := 0, commit := max x.commit (min cm (k + 1)) } (fM L T k t c cm i) true (k + 1)
   | some (j, l) => if j ≤ x.commit then { x with role := 0, leader := L, patience := 0 } else ND.answer { x with role := 0, leader := L, patience := 0, g := x.g.play (.add (j - 1) l), commit := max x.commit (min cm (k + 1)) } (fM L T k t c cm i) true (k + 1) := by
 unfold ND.receiveP
 rw [if_neg (by rw [hid, hn]; show ¬ (¬ (i : Int) = i ∨ (L : Int) = i ∨ (L : Int) < 0 ∨ (L : Int) ≥ n); omega), if_neg (by show ¬ T > x.g.term; omega)]
 unfold ND.kindP
 rw [if_neg (by show ¬ (2 : Int) = 0; decide), if_neg (by show ¬ (2 : Int) = 1; decide), if_pos (.inl (show (fM L T k t c cm i).kind = 2 from rfl))]
 unfold ND.fedP
 rw [if_neg (by show ¬ T < x.g.term; omega), if_neg (by omega), if_pos (show (fM L T k t c cm i).kind = 2 from rfl)]
 unfold ND.addP
 rw [if_neg (by show ¬ (k < x.g.base ∧ _); omega), if_neg (by show ¬ (_ ∧ ¬ x.g.termAt k = some t); rw [htl]; simp)]
 have hcut : (x.follows (fM L T k t c cm i)).cutM (fM L T k t c cm i) = (k, [(T, c)]) := by
  unfold ND.cutM
  rw [if_neg (by show ¬ k < x.g.base; omega)]
  rfl
 rw [hcut]
 unfold ND.restP
 rfl
def w4 (m : Msg) : Nat := if m.kind = 3 then 1 else 2
structure CB (n L : Nat) (T k t : Int) (w : List Bs) (c : Bs) (p b : Int) (G : GS) : Prop where
 len : G.ms.length = n
 lt : L < n
 ms : ∀ i m, G.ms[i]? = some m → (i = L → BM n T (k + 1) T (YL w c) i m ∧ CL n L p m ∧ ∀ j, j < n → j ≠ L → m.x.peers[j]? = some (k + 1, k) ∨ m.x.peers[j]? = some (k + 2, k + 1)) ∧
  (i ≠ L → BF L b m ∧ (BM n T k t w i m ∧ (∃ x ∈ G.st, isF L T k t c i x.2) ∨ BM n T (k + 1) T (YL w c) i m ∧ m.x.g.termAt k = some t ∧ m.x.g.base ≤ k ∧ ((∃ mL, G.ms[L]? = some mL ∧ mL.x.peers[i]? = some (k + 2, k + 1)) ∨ (∃ x ∈ G.st, x.2 = aM L T (k + 1) i ∨ isF L T k t c i x.2))))
 st : ∀ x ∈ G.st, ∃ i, i < n ∧ i ≠ L ∧ (isF L T k t c i x.2 ∨ x.2 = aM L T (k + 1) i)
theorem QbW {L : Nat} {T k t : Int} {c : Bs} {i : Nat} {m : Msg} (h : isF L T k t c i m) : m.to = i ∧ m.kind = 2 := by
 obtain ⟨cm, _, rfl⟩ := h
 exact ⟨rfl, rfl⟩
theorem CB.del {n L : Nat} {T k t : Int} {w : List Bs} {c : Bs} {p b : Int} {G : GS} {x : XU} {l : List XU} (h : CB n L T k t w c p b G) (hb : 0 ≤ b) (hs : G.st = x :: l) : CB n L T k t w c p b (G.delS 0) ∧ muW w2 (G.delS 0).st < muW w2 G.st := by
 obtain ⟨i, hi, hiL, hx⟩ := h.st x (by rw [hs]; simp)
 have hLn := h.lt
 have hst : ∀ y ∈ l, y ∈ G.st := fun y hy => by rw [hs]; exact List.mem_cons_of_mem _ hy
 obtain ⟨mL, hmL⟩ : ∃ m, G.ms[L]? = some m := ⟨_, List.getElem?_eq_getElem (by rw [h.len]; exact hLn)⟩
 rcases hx with hx | hx
 ·obtain ⟨m, hm⟩ : ∃ m, G.ms[i]? = some m := ⟨_, List.getElem?_eq_getElem (by rw [h.len]; exact hi)⟩
  obtain ⟨hxto, hxk⟩ := QbW hx
  obtain ⟨cm, hcm, hxe⟩ := hx
  obtain ⟨_, c3⟩ := h.ms i m hm
  obtain ⟨c4, c5⟩ := c3 hiL
  obtain ⟨e1, e2⟩ := QaM hs hxto hm
  -- whatever it had, it has the entry behind it
  have hgot : ∃ m1, (G.delS 0).ms = G.ms.set i m1 ∧ (G.delS 0).st = l ++ Xp G.last [aM L T (k + 1) i] ∧ BM n T (k + 1) T (YL w c) i m1 ∧ m1.x.g.termAt k = some t ∧ m1.x.g.base ≤ k ∧ BF L b m1 := by
   rcases c5 with ⟨c6, _⟩ | ⟨c6, c7, c8, _⟩
   ·obtain ⟨a1, a2, a3⟩ := c6.at
    have hl := c6.last
    have hfit : ND.fits m.x.g [(T, c)] (k + 1) = some (k + 1, [(T, c)]) := yp (by rw [Qas (by omega)]; simp)
    have hr := QdZ (x := m.x) (c := c) (cm := cm) c6.id c6.n ⟨hLn, fun e => hiL e.symm⟩ c6.term c4.role a1 c6.tl
    rw [hfit] at hr
    dsimp only at hr
    rw [if_neg (by omega), show k + 1 - 1 = k by omega] at hr
    have er : m.recvS x.2 = ({ m with x := { m.x with role := 0, leader := L, patience := 0, g := m.x.g.play (.add k [(T, c)]), commit := max m.x.commit (min cm (k + 1)) } }, [aM L T (k + 1) i]) := by
     unfold MS.recvS
     rw [hxe, hr]
     unfold ND.answer ND.send ND.q
     dsimp only
     rw [c6.out]
     refine Prod.ext ?_ ?_
     ·show MS.mk _ _ _ _ = MS.mk _ _ _ _
      congr 1
      try (show ND.mk _ _ _ _ _ _ _ _ _ _ _ = ND.mk _ _ _ _ _ _ _ _ _ _ _; rw [c6.out])
     ·show [_] = [_]
      unfold aM fM
      dsimp only
      rw [c6.id, show (m.x.g.play (.add k [(T, c)])).term = T from c6.term]
      try rfl
    rw [er] at e1 e2
    obtain ⟨g1, g2⟩ := c6.grow c (y := { m.x with role := 0, leader := L, patience := 0, g := m.x.g.play (.add k [(T, c)]), commit := max m.x.commit (min cm (k + 1)) }) rfl ⟨by dsimp only; omega, by dsimp only; omega⟩ G.out
    refine ⟨_, e1, e2, g1, ?_, by rw [g2]; exact a1, ⟨by rw [g2], by rw [g2]; exact ⟨Int.le_refl _, hb⟩⟩⟩
    rw [g2]
    show (m.x.g.play (.add k [(T, c)])).termAt k = some t
    have htl := c6.tl
    unfold LG.termAt at htl ⊢
    rw [show (m.x.g.play (.add k [(T, c)])).base = m.x.g.base from rfl, show (m.x.g.play (.add k [(T, c)])).baseT = m.x.g.baseT from rfl, QaE (by omega) (by omega)]
    exact htl
   ·have hl := c6.last
    obtain ⟨a1, a2, a3⟩ := c6.at
    have htl := c6.tl
    have hfit : ND.fits m.x.g [(T, c)] (k + 1) = none := by
     rw [yo]
     ·rfl
     ·unfold LG.termAt at htl
      rw [if_neg (by omega)] at htl
      exact htl
    have hr := QdZ (x := m.x) (c := c) (cm := cm) c6.id c6.n ⟨hLn, fun e => hiL e.symm⟩ c6.term c4.role c8 c7
    rw [hfit] at hr
    dsimp only at hr
    have er : m.recvS x.2 = ({ m with x := { m.x with role := 0, leader := L, patience := 0, commit := max m.x.commit (min cm (k + 1)) } }, [aM L T (k + 1) i]) := by
     unfold MS.recvS
     rw [hxe, hr]
     unfold ND.answer ND.send ND.q
     dsimp only
     rw [c6.out]
     refine Prod.ext ?_ ?_
     ·show MS.mk _ _ _ _ = MS.mk _ _ _ _
      congr 1
      try (show ND.mk _ _ _ _ _ _ _ _ _ _ _ = ND.mk _ _ _ _ _ _ _ _ _ _ _; rw [c6.out])
     ·show [_] = [_]
      unfold aM fM
      dsimp only
      rw [c6.id, c6.term]
      try rfl
    rw [er] at e1 e2
    obtain ⟨g1, g2⟩ := c6.keep (y := { m.x with role := 0, leader := L, patience := 0, commit := max m.x.commit (min cm (k + 1)) }) rfl ⟨by dsimp only; omega, by dsimp only; omega⟩ G.out
    exact ⟨_, e1, e2, g1, by rw [g2]; exact c7, by rw [g2]; exact c8, ⟨by rw [g2], by rw [g2]; exact ⟨Int.le_refl _, hb⟩⟩⟩
  obtain ⟨m1, f1, f2, f3, f4, f5, f6⟩ := hgot
  have hmL2 : (G.delS 0).ms[L]? = some mL := by rw [f1, List.getElem?_set_ne hiL]; exact hmL
  constructor
  ·refine ⟨by rw [f1, List.length_set]; exact h.len, hLn, ?_, ?_⟩
   ·have hset := Zs (i := i) (m' := m1) (Q := fun j mj => (j = L → BM n T (k + 1) T (YL w c) j mj ∧ CL n L p mj ∧ ∀ j, j < n → j ≠ L → mj.x.peers[j]? = some (k + 1, k) ∨ mj.x.peers[j]? = some (k + 2, k + 1)) ∧
     (j ≠ L → BF L b mj ∧ (BM n T k t w j mj ∧ (∃ x ∈ (G.delS 0).st, isF L T k t c j x.2) ∨ BM n T (k + 1) T (YL w c) j mj ∧ mj.x.g.termAt k = some t ∧ mj.x.g.base ≤ k ∧ ((∃ mL, (G.delS 0).ms[L]? = some mL ∧ mL.x.peers[j]? = some (k + 2, k + 1)) ∨ (∃ x ∈ (G.delS 0).st, x.2 = aM L T (k + 1) j ∨ isF L T k t c j x.2))))) h.ms (fun j mj hj hP => ?_) ?_
    ·rw [f1]; rw [f1] at hset; exact hset
    ·refine ⟨hP.1, fun hjL => ⟨(hP.2 hjL).1, ?_⟩⟩
     have htok : ∀ y ∈ G.st, (y.2 = aM L T (k + 1) j ∨ isF L T k t c j y.2) → y ∈ (G.delS 0).st := fun y hy hz => by
      rw [hs] at hy
      rw [f2]
      rcases List.mem_cons.1 hy with hy | hy
      ·exfalso
       rw [hy, hxe] at hz
       rcases hz with hz | hz
       ·have : (2 : Int) = 3 := congrArg Msg.kind hz
        omega
       ·have h7 : (i : Int) = j := (QbW hz).1
        omega
      ·exact List.mem_append_left _ hy
     rcases (hP.2 hjL).2 with ⟨h7, y, hy, hz⟩ | ⟨h7, h8, h9, h10⟩
     ·exact .inl ⟨h7, y, htok y hy (.inr hz), hz⟩
     ·refine .inr ⟨h7, h8, h9, ?_⟩
      rcases h10 with ⟨mL', h11, h12⟩ | ⟨y, hy, hz⟩
      ·exact .inl ⟨mL', by rw [f1, List.getElem?_set_ne hiL]; exact h11, h12⟩
      ·exact .inr ⟨y, htok y hy hz, hz⟩
    ·refine ⟨fun e => absurd e hiL, fun _ => ⟨f6, .inr ⟨f3, f4, f5, .inr ?_⟩⟩⟩
     obtain ⟨y, hy, e⟩ := zy (k := G.last) (show aM L T (k + 1) i ∈ [aM L T (k + 1) i] by simp)
     exact ⟨y, by rw [f2]; exact List.mem_append_right _ hy, .inl e⟩
   ·intro y hy
    rw [f2] at hy
    rcases List.mem_append.1 hy with hy | hy
    ·exact h.st y (hst y hy)
    ·have := ZW hy
     simp at this
     exact ⟨i, hi, hiL, .inr this⟩
  ·rw [f2, hs, Qfu, Qfs]
   have h1 : w2 (aM L T (k + 1) i) = 1 := rfl
   have h2 : w2 x.2 = 2 := by unfold w2; rw [if_neg (by omega)]
   unfold muW
   simp only [List.map_cons, List.sum_cons]
   omega
 ·obtain ⟨c2, _⟩ := h.ms L mL hmL
  obtain ⟨b1, b2, b3⟩ := c2 rfl
  obtain ⟨e1, e2⟩ := QaM hs (by rw [hx]; rfl) hmL
  have hl := b1.last
  have hpi := b3 i hi hiL
  have hmt : k ≤ mL.x.mat i ∧ mL.x.mat i ≤ k + 1 := by
   rcases hpi with h7 | h7
   ·rw [(Zo h7).1]; omega
   ·rw [(Zo h7).1]; omega
  obtain ⟨a1, a2, a3⟩ := b1.at
  -- what it does with it
  have hsp : ∀ j, j < n → j ≠ L → (mL.x.setPeer i (k + 2, k + 1)).peers[j]? = if j = i then some (k + 2, k + 1) else mL.x.peers[j]? := fun j hj hjL => by
   unfold ND.setPeer
   by_cases hji : j = i
   ·subst hji
    rw [if_pos rfl]
    exact List.getElem?_set_self (by rw [b2.l]; exact hj)
   ·rw [if_neg hji]
    exact List.getElem?_set_ne (fun e => hji e.symm)
  have hmid2 : (mL.x.setPeer i (k + 2, k + 1)).mid ≤ k + 1 := by
   refine Qd8 (x := mL.x.setPeer i (k + 2, k + 1)) (by show mL.x.id < mL.x.n; rw [b1.id, b1.n]; exact hLn) (by show mL.x.g.last ≤ k + 1; omega) (fun j hj hjn => ?_)
   have hj : j < n := by rw [← b1.n]; exact hj
   have hjn : j ≠ L := by rw [← b1.id]; exact hjn
   have h8 := hsp j hj hjn
   split at h8
   ·rw [(Zo h8).1]; exact Int.le_refl _
   ·rcases b3 j hj hjn with h7 | h7
    ·rw [h7] at h8; rw [(Zo h8).1]; dsimp only; omega
    ·rw [h7] at h8; rw [(Zo h8).1]; exact Int.le_refl _
  have hmidk : ∀ v, v = (mL.x.setPeer i (k + 2, k + 1)).mid → v > mL.x.commit → mL.x.tAt v = mL.x.g.term := fun v hv hgt => by
   have hck : k ≤ mL.x.commit := by
    have h9 := b2.mid
    have h10 : k ≤ mL.x.mid := by
     have hm := jh (x := mL.x) (by rw [b1.id, b1.n]; exact hLn)
     unfold ND.reach at hm
     rcases List.mem_cons.1 hm with hm | hm
     ·omega
     ·obtain ⟨j, hj, e⟩ := List.mem_map.1 hm
      obtain ⟨hj1, hj2⟩ := others_mem.1 hj
      rw [b1.n] at hj1
      rw [b1.id] at hj2
      rw [← e]
      rcases b3 j hj1 hj2 with h7 | h7
      ·rw [(Zo h7).1]; exact Int.le_refl _
      ·rw [(Zo h7).1]; dsimp only; omega
    omega
   have : v = k + 1 := by omega
   subst this
   unfold ND.tAt
   rw [b1.tl, b1.term]; rfl
  obtain ⟨cm, hcnt, hcm1, hcm2, hcm3⟩ := Qev (x := mL.x.setPeer i (k + 2, k + 1)) (fun hgt => hmidk _ rfl hgt)
  have hr : mL.x.receiveP x.2 = { mL.x.setPeer i (k + 2, k + 1) with commit := cm } := by
   rw [hx]
   unfold ND.receiveP
   rw [if_neg (by rw [b1.id, b1.n]; show ¬ (¬ (L : Int) = L ∨ (i : Int) = L ∨ (i : Int) < 0 ∨ (i : Int) ≥ n); omega), if_neg (by show ¬ T > mL.x.g.term; have := b1.term; omega)]
   unfold ND.kindP
   rw [if_neg (by show ¬ (3 : Int) = 0; decide), if_neg (by show ¬ (3 : Int) = 1; decide), if_neg (by show ¬ ((3 : Int) = 2 ∨ (3 : Int) = 4); decide), if_pos (show (aM L T (k + 1) i).kind = 3 from rfl)]
   unfold ND.heardP Ya
   dsimp only
   rw [if_neg (by show ¬ (¬ mL.x.role = 2 ∨ ¬ T = mL.x.g.term); have := b1.term; have := b2.role; omega), if_neg (by show ¬ true = false; decide)]
   have e5 : (aM L T (k + 1) i).frm.toNat = i := by show (i : Int).toNat = i; simp
   have e6 : max (mL.x.mat i) (min (aM L T (k + 1) i).index mL.x.g.last) = k + 1 := by
    show max (mL.x.mat i) (min (k + 1) mL.x.g.last) = k + 1
    omega
   rw [e5, e6, show k + 1 + 1 = k + 2 by omega, hcnt, if_neg (by show ¬ k + 2 ≤ mL.x.g.last; omega)]
  have hrq : mL.recvS x.2 = ({ mL with x := { mL.x.setPeer i (k + 2, k + 1) with commit := cm } }, []) := by
   unfold MS.recvS
   rw [hr]
   have hq : ND.q { mL.x.setPeer i (k + 2, k + 1) with commit := cm } = { mL.x.setPeer i (k + 2, k + 1) with commit := cm } := qn b1.out
   rw [hq]
   exact Prod.ext rfl b1.out
  rw [hrq] at e1 e2
  have e2 : (G.delS 0).st = l := by rw [e2]; simp [Xp]
  have hcm4 : mL.x.commit ≤ cm ∧ cm ≤ k + 1 := by
   refine ⟨hcm1, ?_⟩
   rcases hcm2 with h7 | h7
   ·rw [h7]; exact a2
   ·omega
  obtain ⟨g1, g2⟩ := b1.keep (y := { mL.x.setPeer i (k + 2, k + 1) with commit := cm }) rfl hcm4 G.out
  have hpe : (doneS L { mL with x := { mL.x.setPeer i (k + 2, k + 1) with commit := cm } } G.out).1.x.peers = (mL.x.setPeer i (k + 2, k + 1)).peers := by rw [g2]
  constructor
  ·refine ⟨by rw [e1, List.length_set]; exact h.len, hLn, ?_, fun y hy => by rw [e2] at hy; exact h.st y (hst y hy)⟩
   have hLs : (G.delS 0).ms[L]? = some (doneS L { mL with x := { mL.x.setPeer i (k + 2, k + 1) with commit := cm } } G.out).1 := by rw [e1]; exact List.getElem?_set_self (by rw [h.len]; exact hLn)
   have hset := Zs (i := L) (m' := (doneS L { mL with x := { mL.x.setPeer i (k + 2, k + 1) with commit := cm } } G.out).1) (Q := fun j mj => (j = L → BM n T (k + 1) T (YL w c) j mj ∧ CL n L p mj ∧ ∀ j, j < n → j ≠ L → mj.x.peers[j]? = some (k + 1, k) ∨ mj.x.peers[j]? = some (k + 2, k + 1)) ∧
     (j ≠ L → BF L b mj ∧ (BM n T k t w j mj ∧ (∃ x ∈ (G.delS 0).st, isF L T k t c j x.2) ∨ BM n T (k + 1) T (YL w c) j mj ∧ mj.x.g.termAt k = some t ∧ mj.x.g.base ≤ k ∧ ((∃ mL, (G.delS 0).ms[L]? = some mL ∧ mL.x.peers[j]? = some (k + 2, k + 1)) ∨ (∃ x ∈ (G.delS 0).st, x.2 = aM L T (k + 1) j ∨ isF L T k t c j x.2))))) h.ms (fun j mj hj hP => ?_) ?_
   ·rw [e1]; rw [e1] at hset; exact hset
   ·refine ⟨fun e => absurd e hj, fun hjL => ⟨(hP.2 hjL).1, ?_⟩⟩
    rcases (hP.2 hjL).2 with ⟨h7, y, hy, hz⟩ | ⟨h7, h8, h9, h10⟩
    ·refine .inl ⟨h7, y, ?_, hz⟩
     rw [hs] at hy
     rw [e2]
     rcases List.mem_cons.1 hy with hy | hy
     ·exfalso
      rw [hy, hx] at hz
      have : (3 : Int) = 2 := (QbW hz).2
      omega
     ·exact hy
    ·refine .inr ⟨h7, h8, h9, ?_⟩
     rcases h10 with ⟨mL', h11, h12⟩ | ⟨y, hy, hz⟩
     ·rw [hmL] at h11
      have h11 := Option.some.inj h11
      subst h11
      refine .inl ⟨_, hLs, ?_⟩
      rw [hpe]
      have hjn : j < n := by
       have := (List.getElem?_eq_some_iff.1 h12).1
       rw [b2.l] at this; exact this
      rw [hsp j hjn hjL]
      split
      ·rfl
      ·exact h12
     ·rw [hs] at hy
      rcases List.mem_cons.1 hy with hy | hy
      ·rw [hy, hx] at hz
       have hji : j = i := by
        rcases hz with hz | hz
        ·have : (i : Int) = j := congrArg Msg.frm hz
         omega
        ·have : (3 : Int) = 2 := (QbW hz).2
         omega
       subst hji
       refine .inl ⟨_, hLs, ?_⟩
       rw [hpe, hsp j hi hjL, if_pos rfl]
      ·exact .inr ⟨y, by rw [e2]; exact hy, hz⟩
   ·refine ⟨fun _ => ⟨g1, ⟨by rw [g2]; exact b2.role, by rw [g2]; exact b2.leader, by rw [g2]; exact b2.pat, by rw [g2]; exact hcm3, by rw [hpe]; unfold ND.setPeer; rw [List.length_set]; exact b2.l⟩, fun j hj hjL => ?_⟩, fun e => absurd rfl e⟩
    rw [hpe, hsp j hj hjL]
    split
    ·exact .inr rfl
    ·exact b3 j hj hjL
  ·rw [e2, hs]
   have h2 : w2 x.2 = 1 := by rw [hx]; rfl
   unfold muW
   simp only [List.map_cons, List.sum_cons]
   omega
end V
end Go.Proofs.YtenfjpigffjgmaaGreat
