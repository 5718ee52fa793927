/- Parts that the texts behind stand on: T11c, T11d, T11e, T11f, T11g, T11h, T11i, T11j, T11k, T11o, T11A, T11q, T11r, T11t, T11u, T11w, T11x. -/
import Derived.Test.YtenfjpigffjgmaaGreatWL11Minor3
set_option linter.unusedSimpArgs false
set_option linter.unusedVariables false
set_option maxRecDepth 100000
namespace Go.Proofs.YtenfjpigffjgmaaGreat
open Go.RowKit
namespace V
set_option maxHeartbeats 4000000
def MS.apply (m : MS) (i : Int) (o : List OC) (k : Nat) : MS × List OC := (m.todo.take k).foldl (XX i) (m, o)
theorem Ql9 (i : Int) (r : MS × List OC) (e : Ent) : (XX i r e).1.x = r.1.x ∧ (XX i r e).1.D = r.1.D ∧ (XX i r e).1.ap = r.1.ap + 1 ∧ (XX i r e).1.l.length ≤ r.1.l.length + 1 ∧ (XX i r e).2.length ≤ r.2.length + 1 := by
 unfold XX
 split
 ·exact ⟨rfl, rfl, rfl, by simp, by simp⟩
 ·exact ⟨rfl, rfl, rfl, by simp, by simp⟩
theorem QaY (i : Int) : ∀ (l : List Ent) (r : MS × List OC), (l.foldl (XX i) r).1.x = r.1.x ∧ (l.foldl (XX i) r).1.D = r.1.D ∧ (l.foldl (XX i) r).1.ap = r.1.ap + l.length ∧ (l.foldl (XX i) r).1.l.length ≤ r.1.l.length + l.length ∧ (l.foldl (XX i) r).2.length ≤ r.2.length + l.length
 | [], r => ⟨rfl, rfl, by simp, by simp, by simp⟩
 | e :: l, r => by
  obtain ⟨a1, a2, a3, a4, a5⟩ := Ql9 i r e
  obtain ⟨b1, b2, b3, b4, b5⟩ := QaY i l (XX i r e)
  rw [List.foldl_cons]
  refine ⟨b1.trans a1, b2.trans a2, ?_, ?_, ?_⟩
  ·rw [b3, a3, List.length_cons]; omega
  ·rw [List.length_cons]; omega
  ·rw [List.length_cons]; omega
theorem Qig (i : Int) : ∀ (l : List Ent) (r : MS × List OC), r.1.l.length ≤ (l.foldl (XX i) r).1.l.length
 | [], r => Nat.le_refl _
 | e :: l, r => by
  rw [List.foldl_cons]
  refine Nat.le_trans ?_ (Qig i l (XX i r e))
  unfold XX
  split
  ·exact Nat.le_refl _
  ·simp
theorem QgY {m : MS} {i : Int} {o : List OC} {k : Nat} {e : Ent} (h : m.todo[k]? = some e) : m.apply i o (k + 1) = XX i (m.apply i o k) e := by
 unfold MS.apply
 rw [List.take_add_one, h]
 simp
theorem Qif {m : MS} {i : Int} {o : List OC} {k : Nat} (h : m.todo.length ≤ k) : m.apply i o k = m.todo.foldl (XX i) (m, o) := by unfold MS.apply; rw [List.take_of_length_le h]
theorem QjY {m : MS} (h : m.x.g.base ≤ m.ap) {k : Nat} (hk : m.ap + k < m.x.commit) : m.x.g.at (m.ap + k + 1) = m.todo[k]? := by
 unfold MS.todo
 rw [List.getElem?_take, if_pos (by omega), List.getElem?_drop]
 rw [show m.ap + (k : Int) + 1 = m.x.g.base + 1 + (((m.ap - m.x.g.base).toNat + k : Nat) : Int) by omega, LG.at_k]
theorem QdL {m : MS} : m.todo.length ≤ (m.x.commit - m.ap).toNat ∧ m.todo.length ≤ m.x.g.all.length := by
 unfold MS.todo
 rw [List.length_take, List.length_drop]; omega
theorem jf (m : MS) : m.rest.x = m.x ∧ m.rest.D = m.D ∧ m.ap ≤ m.rest.ap ∧ m.x.g.base ≤ m.rest.ap := by
 unfold MS.rest
 split
 ·exact ⟨rfl, rfl, by dsimp only; omega, Int.le_refl _⟩
 ·exact ⟨rfl, rfl, Int.le_refl _, by omega⟩
theorem QiO (l : List OC) (o : OC) : ocV l ++ ocC o = ocV (l ++ [o]) := by simp [ocV]
theorem QbD {R : Hp} (w : GV) (G : GS) (c : MV) (m : MS) (i : Nat) (ms : List Msg) (vl : Value) (hc : (w.cs[i]?).map MV.m = some c.m) (hms : FrX msgE R ms vl) (hsm : ∀ x ∈ ms, yx x) (hel : Els oneE R G.st w.css) (hv : NOk R c.v m.x)
  (hst : G.st.length + ms.length ≤ 1000000) (hla : 0 ≤ G.last ∧ G.last + ms.length ≤ 1000000) (hg : ¬ m.dn = true → m.x.g.ok ∧ m.x.commit ≤ 150000000000000 ∧ m.rest.l.length ≤ 100000) (hap : 0 ≤ m.ap ∧ m.ap ≤ 150000000000000) (hout : G.out.length ≤ 1000000000) :
  Tri Tryz.prog 44 [.pointer (some ⟨w.g, 0, none⟩), .int .i64 (i : Int), vl] R (Yd c m ++ grR w G)
   (fun r R' L' => ∃ vl' vn css vo, Els oneE R' (G.st ++ Xk G.last ms) css ∧ L' = Yd { c with vl := vl' } (XG i m G.out).1 ++ grR { w with vn := vn, css := css, vo := vo } { G with st := G.st ++ Xk G.last ms, last := G.last + ms.length, out := (XG i m G.out).2 }) := by
 obtain ⟨c0, hc0, hcm⟩ := Option.map_eq_some_iff.1 hc
 have hi2 : i < w.cs.length := (List.getElem?_eq_some_iff.1 hc0).1
 have hnth : nth (Zz w.cs) ((i : Int).toNat * 1 + 0) = some (.pointer (some ⟨c.m, 0, none⟩)) := by rw [Int.toNat_natCast, ZT]; simp [Zz, hc0, hcm]
 have hveo := hms.one
 obtain ⟨hrx, hrD, hrap, hrb⟩ := jf m
 refine Qn Tryz.func44 rfl Tryz.ntmps44 rfl (fun σ F Q hret hend hpan => ?_)
 try simp only [cA, nA]
 refine Qd fun K1 hK1 => Qc ?_
 refine Pm ?_
 refine Pa (Qf rfl) ?_
 refine Pa (Ga Tryz.underlying90 Tryz.sizeOf66) ?_
 first | refine Pa (La o66) ?_ | refine Pa (Ls o66) ?_
 refine Pm ?_
 refine Ra Tryz.call65 (QiS w.n w.vn G.last G.st w.css hel vl ms hms hsm hla hst) ?_
 rintro r R2 L' hR2 ⟨vn, css, hels, rfl⟩
 have hv2 := hv.mono hR2
 try simp only [cA, nA]
 refine Qe (hK1 _ _ _ (Qd fun K2 hK2 => Qc ?_))
 refine Pm ?_
 refine Pa (Qf rfl) ?_
 refine Pa (Ga Tryz.underlying90 Tryz.sizeOf88) ?_
 first | refine Pa (La o88) ?_ | refine Pa (Ls o88) ?_
 refine Pm ?_
 refine Pa ((Qs (sz := 1) (n := w.cs.length) Tryz.underlying88 Tryz.sizeOf81 rfl rfl fd_ (by omega))) ?_
 refine Pa ((Xz o81 rfl fd_ hnth)) ?_
 refine Ps ?_
 refine Qe (hK2 _ _ _ (Qd fun K3 hK3 => Qd fun K4 hK4 => Qc ?_))
 refine Pm ?_
 refine Pa (Qf rfl) ?_
 refine Pa (Ga Tryz.underlying87 Tryz.sizeOf56) ?_
 first | refine Pa (La o56) ?_ | refine Pa (Ls o56) ?_
 refine Pa (Ca Tryz.call37 (zi c.b c.v m.x m.D)) ?_
 refine Qe (hK4 _ _ _ ?_)
 refine Ql (eL 0 rfl (eL 1 rfl (eL 6 rfl (eL 29 rfl eN)))) ?_
 refine Qm rfl (fun hc29 => ?_) (fun hc29 => ?_)
 have f0 : m.dn = true := hc29
 have e0 : XG i m G.out = (m, G.out) := by unfold XG; rw [if_pos f0]
 refine Qi (hret _ _ _ ?_)
 refine Ea Tryz.results44 .nil (Yd c m ++ grR { w with vn := vn, css := css, vo := w.vo } { G with st := G.st ++ Xk G.last ms, last := G.last + ms.length, out := G.out }) (by first | exact Hp.le_trans hR2 hR4 | exact hR2) ?_
 rw [e0]; exact ⟨c.vl, vn, css, w.vo, hels, rfl⟩
 have f0 : ¬ m.dn = true := by unfold MS.dn; rw [show Xn (m.x, m.D) = false from hc29]; decide
 obtain ⟨hgo, hco, hrl⟩ := hg f0
 have hgb := hgo.base
 have hgs := hgo.state
 have hga := hgo.alln
 have e0 : XG i m G.out = m.rest.todo.foldl (XX i) (m.rest, G.out) := by unfold XG; rw [if_neg f0]
 refine Qj (hK3 _ _ _ (Qd fun K6 hK6 => ?_))
 have hJ7 : ∀ (x : Value × MS × Hp), m.rest = x.2.1 ∧ R2.le x.2.2 → EJ ⟨Tryz.prog, 116, σ⟩ K6 [(0, .pointer (some ⟨w.g, 0, none⟩)), (1, .int .i64 (i : Int)), (6, .pointer (some ⟨c.m, 0, none⟩))] x.2.2 (mbB c x.2.1.ap :: lsB c.l x.1 :: lsS x.1 x.2.1.l :: (ndI c.b c.v m.x m.D ++ [grB w, grS w, Yo w.n vn (G.last + ms.length), Yj vn (G.st ++ Xk G.last ms) css, ocS w.vo G.out]) ++ F) := by
  rintro ⟨vl4, m4, R4⟩ ⟨hm4, hR4⟩
  try dsimp only
  dsimp only at hm4 hR4
  subst hm4
  refine QfV (A := lsS vl4 m.rest.l) fd_ qE (fun hvl4 => ?_)
  refine QfV (A := ocS w.vo G.out) fd_ qE (fun hvo4 => ?_)
  have hv4 := hv2.mono hR4
  have htl := QdL (m := m.rest)
  rw [hrx] at htl
  refine hK6 _ _ _ (Qq ?_)
  rw [show mbB c m.rest.ap = mbB c (m.rest.ap + ((0 : Nat) : Int)) by simp, show lsS vl4 m.rest.l = lsS vl4 (m.rest.apply i G.out 0).1.l from rfl, show ocS w.vo G.out = ocS w.vo (m.rest.apply i G.out 0).2 from rfl]
  refine Ql (E' := (fun (y : Nat × Value × Value) => [(0, .pointer (some ⟨w.g, 0, none⟩)), (1, .int .i64 (i : Int)), (6, .pointer (some ⟨c.m, 0, none⟩))]) (0, vl4, w.vo)) (eC rfl (eC rfl (eC rfl eN))) ?_
  refine Xm (M := (fun (y : Nat × Value × Value) => mbB c (m.rest.ap + (y.1 : Int)) :: lsB c.l y.2.1 :: lsS y.2.1 (m.rest.apply i G.out y.1).1.l :: (ndI c.b c.v m.x m.D ++ [grB { w with vo := y.2.2 }, grS w, Yo w.n vn (G.last + ms.length), Yj vn (G.st ++ Xk G.last ms) css, ocS y.2.2 (m.rest.apply i G.out y.1).2]) ++ F) (0, vl4, w.vo)) sb_ ?_
  refine Xg (fun (y : Nat × Value × Value) => [(0, .pointer (some ⟨w.g, 0, none⟩)), (1, .int .i64 (i : Int)), (6, .pointer (some ⟨c.m, 0, none⟩))]) (fun (y : Nat × Value × Value) => R4) (fun (y : Nat × Value × Value) => mbB c (m.rest.ap + (y.1 : Int)) :: lsB c.l y.2.1 :: lsS y.2.1 (m.rest.apply i G.out y.1).1.l :: (ndI c.b c.v m.x m.D ++ [grB { w with vo := y.2.2 }, grS w, Yo w.n vn (G.last + ms.length), Yj vn (G.st ++ Xk G.last ms) css, ocS y.2.2 (m.rest.apply i G.out y.1).2]) ++ F) (fun (y : Nat × Value × Value) => y.1 ≤ m.rest.todo.length ∧ y.2.1.oneCell' = true ∧ y.2.2.oneCell' = true) (fun (y : Nat × Value × Value) => m.rest.todo.length - y.1) (0, vl4, w.vo) (⟨by simp, hvl4, hvo4⟩) ?_
  rintro ⟨k, vk, vo⟩ ⟨hk, hvk, hvo⟩
  try dsimp only
  dsimp only at hk hvk hvo
  obtain ⟨p1, p2, p3, p4, p5⟩ := QaY (i : Int) (m.rest.todo.take k) (m.rest, G.out)
  have p33 : (m.rest.apply i G.out k).1.ap = m.rest.ap + (k : Int) := by rw [show (m.rest.apply i G.out k) = (m.rest.todo.take k).foldl (XX i) (m.rest, G.out) from rfl, p3, List.length_take, Nat.min_eq_left (by omega)]
  have p55 : (m.rest.apply i G.out k).2.length ≤ 1000200000 := Nat.le_trans p5 (by have h9 : (m.rest.todo.take k).length = min k m.rest.todo.length := List.length_take; dsimp only; omega)
  have px : (m.rest.apply i G.out k).1.x = m.x := p1.trans hrx
  have pD : (m.rest.apply i G.out k).1.D = m.D := p2.trans hrD
  have pfin : m.rest.todo.length ≤ k → XG i m G.out = m.rest.apply i G.out k := fun h => by rw [e0, Qif h]
  refine Qd fun K7 hK7 => Qd fun K8 hK8 => ?_
  refine Xy (by kernel_rfl) (by kernel_rfl) ?_
  refine Qa (Qg rfl) ?_
  refine Qa (Qf rfl) ?_
  refine Qa (Ga Tryz.underlying87 Tryz.sizeOf36) ?_
  first | refine Qa (La o36) ?_ | refine Qa (Ls o36) ?_
  refine Qa (Qg rfl) ?_
  refine Qa (Qf rfl) ?_
  refine Qa (Ga Tryz.underlying87 Tryz.sizeOf56) ?_
  first | refine Qa (La o56) ?_ | refine Qa (Ls o56) ?_
  refine Qa (Ca Tryz.call39 (QgE c.b c.v m.x)) ?_
  refine Qa (QW rfl rfl) ?_
  refine Xf ?_
  refine hK8 _ _ _ ?_
  refine Qm rfl (fun hc65 => ?_) (fun hc65 => ?_)
  have f2 : m.rest.ap + (k : Int) < m.x.commit := by simpa using hc65
  obtain ⟨e, ok, hev, hok1, hok2⟩ := jE (m.rest.todo[k]?)
  have hat : ∀ R1, R4.le R1 → QTri Tryz.prog 40 [.pointer (some ⟨c.b.l, 0, none⟩), .int .u64 (m.rest.ap + (k : Int) + 1)] R1 [lgN c.b c.v m.x] (Xa [.agg ⟨Yl e⟩, .bool ok]) := fun R1 hR1 => by rw [← hev, show m.rest.todo[k]? = m.x.g.at (m.rest.ap + (k : Int) + 1) by rw [← hrx]; exact (QjY (by rw [hrx]; exact hrb) (by rw [hrx]; exact f2)).symm]; exact Qb0 (R := R1) c.b.l (some ⟨c.b.d, 0, none⟩) c.v.va m.x.g hgo (hv4.va.mono hR1) (m.rest.ap + (k : Int) + 1) (by unfold QH; omega)
  refine Qj (hK7 _ _ _ (Qq (Qd fun K10 hK10 => ?_)))
  refine Xc (L := [mbB c (m.rest.ap + (k : Int)), ndB c.b c.v m.x, lgN c.b c.v m.x]) [0, 1, 2, 3, 4, 5, 6, 7, 8, 9, 10, 11, 12, 13] [14, 15] [16] _ sb_ (by kernel_rfl) (by kernel_rfl) (by kernel_rfl) rfl ?_
  refine Wa rfl (fun R1 hR1 G => (Qg rfl)) ?_
  refine Wa rfl (fun R1 hR1 G => (Qf rfl)) ?_
  refine Wa rfl (fun R1 hR1 G => (Ga Tryz.underlying87 Tryz.sizeOf56)) ?_
  first | refine Wa rfl (fun R1 hR1 G => (La o56)) ?_ | refine Wa rfl (fun R1 hR1 G => (Ls o56)) ?_
  refine Wa rfl (fun R1 hR1 G => (Ca Tryz.call23 (Qcy c.b c.v m.x))) ?_
  refine Wa rfl (fun R1 hR1 G => (Qg rfl)) ?_
  refine Wa rfl (fun R1 hR1 G => (Qf rfl)) ?_
  refine Wa rfl (fun R1 hR1 G => (Ga Tryz.underlying87 Tryz.sizeOf36)) ?_
  first | refine Wa rfl (fun R1 hR1 G => (La o36)) ?_ | refine Wa rfl (fun R1 hR1 G => (Ls o36)) ?_
  refine Wa rfl (fun R1 hR1 G => (Zh rfl rfl (by omega))) ?_
  refine Wa rfl (fun R1 hR1 G => (Ca Tryz.call40 (hat R1 hR1))) ?_
  refine Wa rfl (fun R1 hR1 G => (Qg rfl)) ?_
  refine Wa rfl (fun R1 hR1 G => (Qo rfl rfl)) ?_
  refine Wa rfl (fun R1 hR1 G => (Qo rfl rfl)) ?_
  refine QZ ?_
  refine QD rfl ?_
  try simp only [cA, nA, List.append_nil]
  refine QA (wn0 rfl) rfl Tryz.zeroValue93 rfl (fun be => ?_)
  refine QE le_ sb_ ?_
  refine QD rfl ?_
  try simp only [cA, nA, List.append_nil]
  refine Sm (vs := Yl e) m93 (entE.one (R := R4) (x := e) rfl) ?_
  refine QE le_ sb_ ?_
  refine Xd ?_
  try simp only [cA, nA, List.append_nil]
  refine Ps ?_
  refine Qe (hK10 _ _ _ ?_)
  refine Ql (eL 0 rfl (eL 1 rfl (eL 6 rfl (eL 10 rfl (eL 11 rfl eN))))) ?_
  refine Qd fun K11 hK11 => Qd fun K12 hK12 => Qc ?_
  refine Pm ?_
  refine Pa (Yp rfl) ?_
  refine Qe (hK12 _ _ _ ?_)
  refine Qm rfl (fun hc81 => ?_) (fun hc81 => ?_)
  have g1 := hok2 (by simpa using hc81)
  have f3 : m.rest.todo.length ≤ k := by rw [List.getElem?_eq_none_iff] at g1; exact g1
  refine Qi (hret _ _ _ ?_)
  refine Ea Tryz.results44 .nil (mbB c (m.rest.ap + (k : Int)) :: lsB c.l vk :: lsS vk (m.rest.apply i G.out k).1.l :: (ndI c.b c.v m.x m.D ++ [grB { w with vo := vo }, grS w, Yo w.n vn (G.last + ms.length), Yj vn (G.st ++ Xk G.last ms) css, ocS vo (m.rest.apply i G.out k).2])) (by first | exact Hp.le_trans hR2 hR4 | exact hR2) ?_
  refine ⟨vk, vn, css, vo, hels.mono hR4, ?_⟩
  rw [pfin f3]; simp only [Yd, px, pD, p33]; rfl
  have g1 := hok1 (by simpa using hc81)
  have g2 : k < m.rest.todo.length := (List.getElem?_eq_some_iff.1 g1).1
  have hs := QgY (i := (i : Int)) (o := G.out) g1
  have p44 : (m.rest.apply i G.out k).1.l.length ≤ 200000 := Nat.le_trans p4 (by have h9 : (m.rest.todo.take k).length = min k m.rest.todo.length := List.length_take; dsimp only; omega)
  refine Qj (hK11 _ _ _ (Qd fun K14 hK14 => Qc ?_))
  refine Pm ?_
  refine Pa (Qf rfl) ?_
  refine Pa (Ga Tryz.underlying87 Tryz.sizeOf36) ?_
  first | refine Pa (La o36) ?_ | refine Pa (Ls o36) ?_
  refine Pa ((Yld.to (u := .int .u64 (m.rest.ap + ((k + 1 : Nat) : Int))) (Zh rfl rfl (by omega)) (by congr 1; omega))) ?_
  refine Pa (Qf rfl) ?_
  refine Pa (Ga Tryz.underlying87 Tryz.sizeOf36) ?_
  refine Sa o36 ?_
  refine Qe (hK14 _ _ _ (Qd fun K15 hK15 => Qc ?_))
  refine Pa (Ga Tryz.underlying93 Tryz.sizeOf9) ?_
  first | refine Pa (La o9) ?_ | refine Pa (Ls o9) ?_
  refine Pa (Qg2 rfl rfl) ?_
  refine Qe (hK15 _ _ _ ?_)
  refine Qm rfl (fun hc91 => ?_) (fun hc91 => ?_)
  have f4 : ¬ e.2 = [] := by simpa using hc91
  have q1 : (m.rest.apply i G.out (k + 1)).1.l = (m.rest.apply i G.out k).1.l ++ [e.2] := by rw [hs]; unfold XX; rw [if_neg f4]
  have q2 : (m.rest.apply i G.out (k + 1)).2 = (m.rest.apply i G.out k).2 ++ [⟨i, m.rest.ap + ((k + 1 : Nat) : Int), e.1, jk ((m.rest.apply i G.out k).1.l.length + 1)⟩] := by rw [hs]; unfold XX; rw [if_neg f4]; dsimp only; rw [p33]; congr 3; omega
  refine Xc (L := [grB { w with vo := vo }, mbB c (m.rest.ap + ((k + 1 : Nat) : Int)), blk be (Yl e) 93]) [0, 1, 2, 3, 4, 5, 6, 7, 8, 9, 10, 11, 12, 13, 14, 15, 16, 17] [18, 19, 20, 21] [22, 23, 24] _ sb_ (by kernel_rfl) (by kernel_rfl) (by kernel_rfl) rfl ?_
  refine Wa rfl (fun R1 hR1 G => (Qg rfl)) ?_
  refine Wa rfl (fun R1 hR1 G => (Qg rfl)) ?_
  refine Wa rfl (fun R1 hR1 G => (Qf rfl)) ?_
  refine Wa rfl (fun R1 hR1 G => (Ga Tryz.underlying90 Tryz.sizeOf34)) ?_
  first | refine Wa rfl (fun R1 hR1 G => (La o34)) ?_ | refine Wa rfl (fun R1 hR1 G => (Ls o34)) ?_
  refine Wa rfl (fun R1 hR1 G => (Qg rfl)) ?_
  refine Wa rfl (fun R1 hR1 G => (Qg rfl)) ?_
  refine Wa rfl (fun R1 hR1 G => (Qf rfl)) ?_
  refine Wa rfl (fun R1 hR1 G => (Ga Tryz.underlying87 Tryz.sizeOf36)) ?_
  first | refine Wa rfl (fun R1 hR1 G => (La o36)) ?_ | refine Wa rfl (fun R1 hR1 G => (Ls o36)) ?_
  refine Wa rfl (fun R1 hR1 G => (Ga Tryz.underlying93 Tryz.sizeOf36)) ?_
  first | refine Wa rfl (fun R1 hR1 G => (La o36)) ?_ | refine Wa rfl (fun R1 hR1 G => (Ls o36)) ?_
  refine Wa rfl (fun R1 hR1 G => (Qg rfl)) ?_
  refine Wa rfl (fun R1 hR1 G => (Qf rfl)) ?_
  refine Wa rfl (fun R1 hR1 G => (Ga Tryz.underlying87 Tryz.sizeOf85)) ?_
  first | refine Wa rfl (fun R1 hR1 G => (La o85)) ?_ | refine Wa rfl (fun R1 hR1 G => (Ls o85)) ?_
  refine Wa rfl (fun R1 hR1 G => (Ga Tryz.underlying93 Tryz.sizeOf9)) ?_
  first | refine Wa rfl (fun R1 hR1 G => (La o9)) ?_ | refine Wa rfl (fun R1 hR1 G => (Ls o9)) ?_
  refine QZ ?_
  refine QD rfl ?_
  try simp only [cA, nA, List.append_nil]
  refine Qae (wn0 rfl) rfl rfl (fun w => by kernel_rfl) Tryz.call170 rfl (Qla c.l vk (m.rest.apply i G.out k).1.l e.2 p44) sp_ (fun _ _ _ _ h => h.elim) ?_
  rintro r R5 L' hR5 ⟨rfl, rfl, v110, rfl⟩
  rw [← q1]
  refine QaG (A := lsS v110 (m.rest.apply i G.out (k + 1)).1.l) fd_ qE (fun h110 => ?_)
  try simp only [cA, nA]
  refine QE le_ sb_ ?_
  refine QD rfl ?_
  try simp only [cA, nA, List.append_nil]
  refine Pa (QX (cells := [_, _, _, _]) [(0, 1), (1, 1), (2, 1), (3, 1)] Tryz.underlying41 Tryz.zeroValue41 (fun _ => rfl) rfl rfl) ?_
  refine QE le_ sb_ ?_
  refine QD rfl ?_
  try simp only [cA, nA, List.append_nil]
  refine QC (sz := 4) (wn0 rfl) rfl Tryz.underlying34 Tryz.sizeOf41 Tryz.zeroValue41 rfl rfl rfl (by decide) (by decide) (fun bo => ?_)
  refine QE le_ sb_ ?_
  refine QD rfl ?_
  try simp only [cA, nA, List.append_nil]
  refine XP (sz := 4) (by_ := 40) ⟨Tryz.underlying34, _, _, rfl, rfl, rfl, rfl, rfl⟩ (wn0 rfl) rfl rfl rfl fd_ (YS (xs := ocC ⟨i, m.rest.ap + ((k + 1 : Nat) : Int), e.1, jk ((m.rest.apply i G.out k).1.l.length + 1)⟩) Tryz.underlying34 fd_ (by unfold ocC; (first | (simp [Value.oneCell']; done) | (intro u hu; simp only [List.mem_cons, List.not_mem_nil, or_false] at hu; rcases hu with rfl | rfl | rfl | rfl <;> first | rfl | assumption)))) rfl om_ (by simp only [maxLen]; omega) (fun v113 ho113 hh113 => ?_)
  rw [QiO, ← q2]
  rw [show (m.rest.apply i G.out k).2.length + 1 = (m.rest.apply i G.out (k + 1)).2.length by rw [q2]; simp]
  refine QE le_ sb_ ?_
  refine Xd ?_
  try simp only [cA, nA, List.append_nil]
  refine Pa (Qf rfl) ?_
  refine Pa (Ga Tryz.underlying90 Tryz.sizeOf34) ?_
  refine Sa o34 ?_
  refine Qe ?_
  refine Xs (q' := Xe _ _ _ _ _ _ _) rfl ?_
  refine QM ((k + 1, v110, v113)) (⟨by dsimp only; omega, by assumption, by assumption⟩) (by dsimp only; omega) (eC rfl (eC rfl (eC rfl eN))) rfl sb_
  have f4 : e.2 = [] := by simpa using hc91
  have q1 : (m.rest.apply i G.out (k + 1)).1.l = (m.rest.apply i G.out k).1.l := by rw [hs]; unfold XX; rw [if_pos f4]
  have q2 : (m.rest.apply i G.out (k + 1)).2 = (m.rest.apply i G.out k).2 := by rw [hs]; unfold XX; rw [if_pos f4]
  rw [← q1, ← q2]
  refine Qj ?_
  refine Xs (q' := Xe _ _ _ _ _ _ _) rfl ?_
  refine QM ((k + 1, vk, vo)) (⟨by dsimp only; omega, hvk, hvo⟩) (by dsimp only; omega) (eC rfl (eC rfl (eC rfl eN))) rfl sb_
  have f2 : ¬ m.rest.ap + (k : Int) < m.x.commit := by simpa using hc65
  have f3 : m.rest.todo.length ≤ k := by omega
  refine QQ (hend _ _ _ ?_)
  apply QO Tryz.results44 .nil _ (mbB c (m.rest.ap + (k : Int)) :: lsB c.l vk :: lsS vk (m.rest.apply i G.out k).1.l :: (ndI c.b c.v m.x m.D ++ [grB { w with vo := vo }, grS w, Yo w.n vn (G.last + ms.length), Yj vn (G.st ++ Xk G.last ms) css, ocS vo (m.rest.apply i G.out k).2])) (by first | exact Hp.le_trans hR2 hR4 | exact hR2) rfl
  case hp =>
   refine ⟨vk, vn, css, vo, hels.mono hR4, ?_⟩
   rw [pfin f3]; simp only [Yd, px, pD, p33]; rfl
  case hS => exact sb_
 refine Qd fun K17 hK17 => Qc ?_
 refine Pm ?_
 refine Pa (Qf rfl) ?_
 refine Pa (Ga Tryz.underlying87 Tryz.sizeOf56) ?_
 first | refine Pa (La o56) ?_ | refine Pa (Ls o56) ?_
 refine Pa (Ca Tryz.call23 (Qcy c.b c.v m.x)) ?_
 refine Pa (Ca Tryz.call25 (zl c.b.l (some ⟨c.b.d, 0, none⟩) c.v.va m.x.g)) ?_
 refine Pm ?_
 refine Pa (Qo rfl rfl) ?_
 refine Pa (Qo rfl rfl) ?_
 refine Pa (Qo rfl rfl) ?_
 refine Ps ?_
 refine Ps ?_
 refine Ps ?_
 refine Qe (hK17 _ _ _ ?_)
 refine Ql (eL 0 rfl (eL 1 rfl (eL 6 rfl (eL 7 rfl (eL 9 rfl eN))))) ?_
 refine Qd fun K18 hK18 => Qc ?_
 refine Pm ?_
 refine Pm ?_
 refine Pa (Qf rfl) ?_
 refine Pa (Ga Tryz.underlying87 Tryz.sizeOf36) ?_
 first | refine Pa (La o36) ?_ | refine Pa (Ls o36) ?_
 refine Pa (XN rfl rfl) ?_
 refine Qe (hK18 _ _ _ ?_)
 refine Qm rfl (fun hc45 => ?_) (fun hc45 => ?_)
 have f1 : m.x.g.base > m.ap := by simpa using hc45
 have e1 : m.rest = { m with l := unS m.x.g.state, ap := m.x.g.base } := by unfold MS.rest; rw [if_pos f1]
 refine Qd fun K20 hK20 => Qc ?_
 refine Pm ?_
 refine Pa (Qf rfl) ?_
 refine Pa (Ga Tryz.underlying87 Tryz.sizeOf85) ?_
 first | refine Pa (La o85) ?_ | refine Pa (Ls o85) ?_
 refine Pm ?_
 refine Qae (wn0 rfl) rfl rfl (fun w => by kernel_rfl) Tryz.call171 rfl (Qc8 c.l c.vl m.l m.x.g.state (by omega)) sp_ (fun _ _ _ _ h => h.elim) ?_
 rintro r R3 L' hR3 ⟨rfl, vl3, rfl⟩
 try simp only [cA, nA]
 refine Qe (hK20 _ _ _ (Qc ?_))
 refine Pm ?_
 refine Pm ?_
 refine Pa (Qf rfl) ?_
 refine Pa (Ga Tryz.underlying87 Tryz.sizeOf36) ?_
 refine Sa o36 ?_
 refine Qe ?_
 refine QF hJ7 ((vl3, { m with l := unS m.x.g.state, ap := m.x.g.base }, R3)) (⟨e1, hR3⟩) (eC rfl (eC rfl (eC rfl eN))) rfl sb_
 have f1 : ¬ m.x.g.base > m.ap := by simpa using hc45
 have e1 : m.rest = m := by unfold MS.rest; rw [if_neg f1]
 refine Qj ?_
 refine QF hJ7 ((c.vl, m, R2)) (⟨e1, Hp.le_refl _⟩) (eC rfl (eC rfl (eC rfl eN))) rfl sb_
end V
end Go.Proofs.YtenfjpigffjgmaaGreat
set_option linter.unusedSimpArgs false
set_option linter.unusedVariables false
set_option maxRecDepth 100000
namespace Go.Proofs.YtenfjpigffjgmaaGreat
open Go.RowKit
namespace V
set_option maxHeartbeats 4000000
theorem QdZ {R : Hp} (b : NB) (v : NV) (x : ND) (D : DK) (fk : FuncId) (caps : List Value) (Ex : List Asn) (hd : Xn (x, D) = true) :
  Tri Tryz.prog 62 [.pointer (some ⟨b.x, 0, none⟩), .func (.func fk) ⟨[]⟩ ⟨caps⟩] R (ndI b v x D ++ Ex) (fun r R' L' => r = .slice none 0 0 ∧ L' = ndI b v x D ++ Ex) := by
 refine QdK Tryz.func62 rfl Tryz.ntmps62 rfl (fun σ F Q hret hend hpan hQ => ?_)
 try simp only [cA, nA]
 refine Qd fun K1 hK1 => ?_
 refine Qc ?_
 refine QA (wn0 rfl) rfl Tryz.zeroValue98 rfl (fun b4 => ?_)
 refine Qe ?_
 refine hK1 _ _ _ ?_
 refine Qd fun K2 hK2 => ?_
 refine Qd fun K3 hK3 => ?_
 refine Qc ?_
 refine Pm ?_
 refine Pa (Ca Tryz.call37 ((zi b v x D).eq3 (v' := .bool true) (by rw [hd]))) ?_
 refine Qe ?_
 refine hK3 _ _ _ ?_
 refine Qz rfl ?_
 refine Qd fun K4 hK4 => ?_
 refine Qc ?_
 refine Sa o98 ?_
 refine Qe ?_
 refine hK4 _ _ _ ?_
 refine Qi ?_
 refine hret _ _ _ ?_
 apply XT Tryz.results62 (.cons (QaD o98 rfl fd_ rfl) .nil) _ (ndI b v x D ++ Ex) (Hp.le_refl _) rfl
 case hp => exact ⟨rfl, rfl⟩
 case hS => exact sb_
theorem Qj1 {R : Hp} (b : NB) (v : NV) (x : ND) (D : DK) (hd : Xn (x, D) = true) : Tri Tryz.prog 50 [.pointer (some ⟨b.x, 0, none⟩)] R (ndI b v x D) (fun r R' L' => r = .slice none 0 0 ∧ L' = ndI b v x D) := by
 refine Qn Tryz.func50 rfl Tryz.ntmps50 rfl (fun σ F Q hret hend hpan => ?_)
 try simp only [cA, nA]
 refine Qd fun K1 hK1 => Qc ?_
 refine Xi (wn0 rfl) rfl rfl rfl (fun bX => ?_)
 refine Ps ?_
 refine Qe (hK1 _ _ _ (Qd fun K2 hK2 => Qc ?_))
 first | refine Pa (La o56) ?_ | refine Pa (Ls o56) ?_
 refine Pa (Yz rfl rfl) ?_
 refine Ra Tryz.call62 (QdZ b v x D 68 [.pointer (some ⟨bX, 0, none⟩)] [blk bX [.pointer (some ⟨b.x, 0, none⟩)] 56] hd) ?_
 rintro r R2 L' hR2 ⟨rfl, rfl⟩
 try simp only [cA, nA]
 refine Ps ?_
 refine Qe (hK2 _ _ _ (Qi (hret _ _ _ ?_)))
 apply XT Tryz.results50 (.cons (Qh rfl) .nil) _ (ndI b v x D) hR2 rfl
 case hp => exact ⟨rfl, rfl⟩
 case hS => exact sb_
theorem Qgu {R : Hp} (b : NB) (v : NV) (x : ND) (D : DK) (m : Msg) (ve : Value) (hve : FrX entE R m.es ve) (hd : Xn (x, D) = true) : Tri Tryz.prog 53 [.pointer (some ⟨b.x, 0, none⟩), .agg ⟨QV m ve⟩] R (ndI b v x D) (fun r R' L' => r = .slice none 0 0 ∧ L' = ndI b v x D) := by
 have hveo := hve.one
 refine Qn Tryz.func53 rfl Tryz.ntmps53 rfl (fun σ F Q hret hend hpan => ?_)
 try simp only [cA, nA]
 refine Qd fun K1 hK1 => Qc ?_
 refine Xi (wn0 rfl) rfl rfl rfl (fun bX => ?_)
 refine Xi (wn0 rfl) rfl rfl rfl (fun bM => ?_)
 refine Ps ?_
 refine Qe (hK1 _ _ _ (Qd fun K2 hK2 => Qc ?_))
 first | refine Pa (La o56) ?_ | refine Pa (Ls o56) ?_
 refine Pa (Yz rfl rfl) ?_
 refine Ra Tryz.call62 (QdZ b v x D 73 [.pointer (some ⟨bM, 0, none⟩), .pointer (some ⟨bX, 0, none⟩)] [blk bX [.pointer (some ⟨b.x, 0, none⟩)] 56, blk bM (QV m ve) 117] hd) ?_
 rintro r R2 L' hR2 ⟨rfl, rfl⟩
 try simp only [cA, nA]
 refine Ps ?_
 refine Qe (hK2 _ _ _ (Qi (hret _ _ _ ?_)))
 apply XT Tryz.results53 (.cons (Qh rfl) .nil) _ (ndI b v x D) hR2 rfl
 case hp => exact ⟨rfl, rfl⟩
 case hS => exact sb_
theorem Qgz {R : Hp} (b : NB) (v : NV) (x : ND) (D : DK) (cmd : Bs) (hd : Xn (x, D) = true) : Tri Tryz.prog 43 [.pointer (some ⟨b.x, 0, none⟩), .string (str cmd)] R (ndI b v x D) (fun r R' L' => r = Xa [.int .u64 0, .int .u64 0, .slice none 0 0] ∧ L' = ndI b v x D) := by
 refine Qn Tryz.func43 rfl Tryz.ntmps43 rfl (fun σ F Q hret hend hpan => ?_)
 try simp only [cA, nA]
 refine Qd fun K1 hK1 => Qc ?_
 refine Xi (wn0 rfl) rfl rfl rfl (fun bX => ?_)
 refine Xi (wn0 rfl) rfl rfl rfl (fun bC => ?_)
 refine Ps ?_
 refine Ps ?_
 refine Ps ?_
 refine Qe (hK1 _ _ _ (Qd fun K2 hK2 => Qd fun K3 hK3 => Qc ?_))
 first | refine Pa (La o56) ?_ | refine Pa (Ls o56) ?_
 refine Pa (Ca Tryz.call38 (Qbu b v x)) ?_
 refine Pa (XY rfl rfl) ?_
 refine Qe (hK3 _ _ _ ?_)
 refine Qm rfl (fun hc10 => ?_) (fun hc10 => ?_)
 try simp only [dT, dF, nT, nF, tF, fT] at hc10
 refine Qd fun K5 hK5 => Qc ?_
 refine Ps ?_
 refine Ps ?_
 refine Ps ?_
 refine Qe (hK5 _ _ _ (Qi (hret _ _ _ ?_)))
 refine Ea Tryz.results43 (.cons (Qh rfl) (.cons (Qh rfl) (.cons (Qh rfl) .nil))) (ndI b v x D) (by first | exact Hp.le_refl _ | assumption) ?_
 exact ⟨rfl, rfl⟩
 try simp only [dT, dF, nT, nF, tF, fT] at hc10
 refine Qj (hK2 _ _ _ (Qd fun K6 hK6 => Qc ?_))
 first | refine Pa (La o56) ?_ | refine Pa (Ls o56) ?_
 refine Pa (Yz rfl rfl) ?_
 refine Ra Tryz.call62 (QdZ b v x D 63 [.pointer (some ⟨bX, 0, none⟩), .pointer (some ⟨bC, 0, none⟩)] [blk bX [.pointer (some ⟨b.x, 0, none⟩)] 56, blk bC [.string (str cmd)] 9] hd) ?_
 rintro r R2 L' hR2 ⟨rfl, rfl⟩
 try simp only [cA, nA]
 refine Ps ?_
 refine Qe (hK6 _ _ _ (Qd fun K7 hK7 => Qd fun K8 hK8 => Qc ?_))
 first | refine Pa (La o56) ?_ | refine Pa (Ls o56) ?_
 refine Pa (Ca Tryz.call37 ((zi b v x D).eq3 (v' := .bool true) (by rw [hd]))) ?_
 refine Qe (hK8 _ _ _ (Qz rfl (Qd fun K9 hK9 => Qc ?_)))
 refine Ps ?_
 refine Ps ?_
 refine Ps ?_
 refine Qe (hK9 _ _ _ (Qi (hret _ _ _ ?_)))
 refine Ea Tryz.results43 (.cons (Qh rfl) (.cons (Qh rfl) (.cons (Qh rfl) .nil))) (ndI b v x D) (by first | exact Hp.le_refl _ | assumption) ?_
 exact ⟨rfl, rfl⟩
theorem qF {x : ND} {D : DK} {f : NS → Bool × NS} (h : Xn (x, D) = true) : Xt (x, D) f = ([], (x, D)) := by unfold Xt; rw [if_pos h]
theorem Qkv {R : Hp} (b : NB) (v : NV) (m : MS) (hw : MW m) (hv : NOk R v m.x) :
  Tri Tryz.prog 50 [.pointer (some ⟨b.x, 0, none⟩)] R (ndI b v m.x m.D) (fun r R' L' => ∃ v', FrX msgE R' m.tick.2 r ∧ NOk R' v' m.tick.1.x ∧ L' = ndI b v' m.tick.1.x m.tick.1.D) := by
 by_cases hd : Xn (m.x, m.D) = true
 ·refine Tri.mono (Qj1 b v m.x m.D hd) (fun r R' L' hR h => ?_) (fun _ _ _ _ h => h)
  obtain ⟨rfl, rfl⟩ := h
  have e : m.tick = (m, []) := by unfold MS.tick MS.act; rw [qF hd]; simp only [qR hw.out]
  rw [e]
  exact ⟨v, FrX.nil, hv.mono hR, rfl⟩
 ·refine Tri.mono (Qlj b v m.x m.D 0 690000000 (by omega) (hw.up hd) hv hw.ok (by omega)) (fun r R' L' _ h => ?_) (fun _ _ _ _ h => h)
  obtain ⟨v', hr, hv', rfl⟩ := h
  exact ⟨_, hr, hv'.q, rfl⟩
theorem Qkx {R : Hp} (b : NB) (v : NV) (m : MS) (g : Msg) (ve : Value) (hw : MW m) (hg : MIm 0 g) (hve : FrX entE R g.es ve) (hv : NOk R v m.x) :
  Tri Tryz.prog 53 [.pointer (some ⟨b.x, 0, none⟩), .agg ⟨QV g ve⟩] R (ndI b v m.x m.D) (fun r R' L' => ∃ v', FrX msgE R' (m.recv g).2 r ∧ NOk R' v' (m.recv g).1.x ∧ L' = ndI b v' (m.recv g).1.x (m.recv g).1.D) := by
 by_cases hd : Xn (m.x, m.D) = true
 ·refine Tri.mono (Qgu b v m.x m.D g ve hve hd) (fun r R' L' hR h => ?_) (fun _ _ _ _ h => h)
  obtain ⟨rfl, rfl⟩ := h
  have e : m.recv g = (m, []) := by unfold MS.recv MS.act; rw [qF hd]; simp only [qR hw.out]
  rw [e]
  exact ⟨v, FrX.nil, hv.mono hR, rfl⟩
 ·refine Tri.mono (Qht b v m.x m.D g ve 0 690000000 (by omega) (hw.up hd) hv hg hve hw.ok (by omega)) (fun r R' L' _ h => ?_) (fun _ _ _ _ h => h)
  obtain ⟨v', hr, hv', rfl⟩ := h
  exact ⟨_, hr, hv'.q, rfl⟩
theorem Qkz {R : Hp} (b : NB) (v : NV) (m : MS) (cmd : Bs) (hw : MW m) (hc : cmd.length ≤ 100) (hv : NOk R v m.x) :
  Tri Tryz.prog 43 [.pointer (some ⟨b.x, 0, none⟩), .string (str cmd)] R (ndI b v m.x m.D) (fun r R' L' => ∃ v' vl, r = Xa [.int .u64 (m.prop cmd).1.1, .int .u64 (m.prop cmd).1.2, vl] ∧ FrX msgE R' (m.prop cmd).2.2 vl ∧ NOk R' v' (m.prop cmd).2.1.x ∧ L' = ndI b v' (m.prop cmd).2.1.x (m.prop cmd).2.1.D) := by
 by_cases hd : Xn (m.x, m.D) = true
 ·refine Tri.mono (Qgz b v m.x m.D cmd hd) (fun r R' L' hR h => ?_) (fun _ _ _ _ h => h)
  obtain ⟨rfl, rfl⟩ := h
  have e : XA (m.x, m.D) cmd = ((0, 0, []), (m.x, m.D)) := by
   unfold XA
   rw [qF hd]
   by_cases h : m.x.role = 2
   ·rw [if_neg (by simp [h]), if_pos hd]
   ·rw [if_pos h]
  have e2 : m.prop cmd = ((0, 0), (m, [])) := by unfold MS.prop MS.act; rw [e]; simp only [qR hw.out]
  rw [e2]
  exact ⟨v, _, rfl, FrX.nil, hv.mono hR, rfl⟩
 ·refine Tri.mono (QhA b v m.x m.D cmd 0 690000000 (by omega) (hw.up hd) hv hc hw.ok (by omega)) (fun r R' L' _ h => ?_) (fun _ _ _ _ h => h)
  obtain ⟨vl, v', rfl, hr, hv', rfl⟩ := h
  exact ⟨_, _, rfl, hr, hv'.q, rfl⟩
end V
end Go.Proofs.YtenfjpigffjgmaaGreat
set_option linter.unusedSimpArgs false
set_option linter.unusedVariables false
set_option maxRecDepth 100000
namespace Go.Proofs.YtenfjpigffjgmaaGreat
open Go.RowKit
namespace V
set_option maxHeartbeats 4000000
theorem ji (i : Int) (m : MS) (o : List OC) : (XG i m o).1.x = m.x ∧ (XG i m o).1.D = m.D := by
 unfold XG
 split
 ·exact ⟨rfl, rfl⟩
 ·obtain ⟨a, b, _⟩ := QaY i m.rest.todo (m.rest, o)
  obtain ⟨c, d, _⟩ := jf m
  exact ⟨a.trans c, b.trans d⟩
def QcT (w : GV) (c : MV) (m' : MS) (G' : GS) (R' : Hp) (L' : List Asn) : Prop :=
 ∃ c' vn css vo, c'.m = c.m ∧ NOk R' c'.v m'.x ∧ Els oneE R' G'.st css ∧ L' = Yd c' m' ++ grR { w with vn := vn, css := css, vo := vo } G'
def GrP (w : GV) (G' : GS) (R' : Hp) (L' : List Asn) : Prop := ∃ vn css vo cs, GOk R' ⟨w.g, w.va, w.n, vn, css, vo, cs⟩ G' ∧ L' = grL ⟨w.g, w.va, w.n, vn, css, vo, cs⟩ G'
theorem QiL {cs : List MV} {i : Nat} {c c' : MV} (hc : cs[i]? = some c) (h : c'.m = c.m) : Zz (cs.set i c') = Zz cs := by
 have hi := (List.getElem?_eq_some_iff.1 hc).1
 unfold Zz
 apply List.ext_getElem?
 intro j
 rw [List.getElem?_map, List.getElem?_map, List.getElem?_set]
 by_cases hj : i = j
 ·subst hj; rw [if_pos rfl, if_pos hi, hc]; simp [h]
 ·rw [if_neg hj]
theorem jm {P : Program} {f : FuncId} {args : List Value} {R : Hp} {w : GV} {G G' : GS} {i : Nat} {c : MV} {m m' : MS} {Pr : Value → Prop} (hok : GOk R w G) (hc : w.cs[i]? = some c) (hm : G.ms[i]? = some m) (hms : G'.ms = G.ms.set i m')
  (h : Tri P f args R (Yd c m ++ grR w G) (fun r R' L' => Pr r ∧ QcT w c m' G' R' L')) : Tri P f args R (grL w G) (fun r R' L' => Pr r ∧ GrP w G' R' L') := by
 have h2 := Tri.big (post := fun r R' As' L1 => Pr r ∧ ∃ c' vn css vo, c'.m = c.m ∧ NOk R' c'.v m'.x ∧ Els oneE R' G'.st css ∧ As' = Yd c' m' ∧ L1 = grR { w with vn := vn, css := css, vo := vo } G') (qH hc hm)
  (Tri.mono h (fun r R' L' _ h => by
   obtain ⟨h0, c', vn, css, vo, h1, h2, h3, h4⟩ := h
   exact ⟨_, _, ⟨h0, c', vn, css, vo, h1, h2, h3, rfl, rfl⟩, h4⟩) (fun _ _ _ _ h => h))
 refine Tri.mono h2 (fun r R' L' hR h => ?_) (fun _ _ _ _ h => h)
 obtain ⟨As', L1, ⟨h0, c', vn, css, vo, hcm, h1, h2, rfl, rfl⟩, rfl⟩ := h
 have hi := (List.getElem?_eq_some_iff.1 hc).1
 refine ⟨h0, vn, css, vo, w.cs.set i c', ⟨?_, ?_, h2⟩, ?_⟩
 ·rw [hms]; simp [hok.len]
 ·intro j c1 m1 hc1 hm1
  rw [hms] at hm1
  dsimp only at hc1
  rw [List.getElem?_set] at hc1 hm1
  by_cases hj : i = j
  ·subst hj
   rw [if_pos rfl, if_pos hi] at hc1
   rw [if_pos rfl, if_pos (by rw [← hok.len]; exact hi)] at hm1
   cases hc1; cases hm1
   exact h1
  ·rw [if_neg hj] at hc1 hm1
   exact (hok.nd j c1 m1 hc1 hm1).mono hR
 ·have e1 := QiL hc hcm
  have e2 : (w.cs.set i c').length = w.cs.length := by simp
  simp only [grL, grR, grS, grB, e1, e2, hms]
  rw [QiX]
theorem QbG {G : GS} {i : Nat} {m : MS} {l : List Msg} (hi : i < G.ms.length) (hw : GW (G.done i m l)) (hap : 0 ≤ m.ap ∧ m.ap ≤ 150000000000000) (hl : 0 ≤ G.last) :
  (∀ x ∈ l, yx x) ∧ G.st.length + l.length ≤ 1000000 ∧ (0 ≤ G.last ∧ G.last + l.length ≤ 1000000) ∧ (¬ m.dn = true → m.x.g.ok ∧ m.x.commit ≤ 150000000000000 ∧ m.rest.l.length ≤ 100000) := by
 have h1 := hw.st
 have h2 := hw.last
 have h3 : (G.st ++ Xk G.last l).length ≤ 900000 := h1
 have h4 : 0 ≤ G.last + l.length ∧ G.last + l.length ≤ 900000 := h2
 rw [List.length_append, qA] at h3
 refine ⟨fun x hx => ?_, by omega, ⟨hl, by omega⟩, fun hd => ?_⟩
 ·have : ∃ k, (k, x) ∈ Xk G.last l := by
   clear h1 h2 h3 h4 hw
   generalize G.last = q
   induction l generalizing q with
   | nil => cases hx
   | cons y l ih =>
    rcases List.mem_cons.1 hx with rfl | hx
    ·exact ⟨q + 1, by simp [Xk]⟩
    ·obtain ⟨k, hk⟩ := ih hx (q + 1)
     exact ⟨k, by rw [Xk]; exact List.mem_cons_of_mem _ hk⟩
  obtain ⟨k, hk⟩ := this
  exact (hw.msg (k, x) (List.mem_append_right _ hk)).2
 ·have hmem : (XG i m G.out).1 ∈ (G.done i m l).ms := by
   show _ ∈ G.ms.set i _
   exact List.mem_of_getElem? (i := i) (by rw [List.getElem?_set, if_pos rfl, if_pos hi])
  have hmw := hw.ms _ hmem
  obtain ⟨e1, e2⟩ := ji i m G.out
  have hn := hmw.up (by unfold MS.dn; rw [e1, e2]; exact hd)
  rw [e1] at hn
  have hc := hn.commit
  refine ⟨hn.g (by omega), by omega, ?_⟩
  have h5 := hmw.l.1
  unfold XG at h5
  rw [if_neg hd] at h5
  exact Nat.le_trans (Qig i m.rest.todo (m.rest, G.out)) (by omega)
theorem GOk.map {R : Hp} {w : GV} {G : GS} (h : GOk R w G) {i : Nat} {c : MV} (hc : w.cs[i]? = some c) : (w.cs[i]?).map MV.m = some c.m := by rw [hc]; rfl
theorem Qaz {G : GS} {i : Nat} {m : MS} (hm : G.ms[i]? = some m) : G.tick i = G.done i m.tick.1 m.tick.2 := by unfold GS.tick; rw [hm]
theorem QhS {R : Hp} (w : GV) (G : GS) (c : MV) (m : MS) (i : Nat) (hok : GOk R w G) (hc : w.cs[i]? = some c) (hm : G.ms[i]? = some m) (hw : GW G) (hw' : GW (G.tick i)) :
  Tri Tryz.prog 26 [.pointer (some ⟨w.g, 0, none⟩), .int .i64 (i : Int)] R (Yd c m ++ grR w G) (fun r R' L' => True ∧ QcT w c (XG i m.tick.1 G.out).1 (G.tick i) R' L') := by
 have hi := (List.getElem?_eq_some_iff.1 hm).1
 have hmw := hw.ms m (List.mem_of_getElem? hm)
 have hnd := hok.nd i c m hc hm
 rw [Qaz hm] at hw' ⊢
 obtain ⟨d1, d2, d3, d4⟩ := QbG hi hw' hmw.ap hw.last.1
 have d5 := hw.out
 refine Qn Tryz.func26 rfl Tryz.ntmps26 rfl (fun σ F Q hret hend hpan => ?_)
 try simp only [cA, nA]
 refine Qd fun K1 hK1 => Qc ?_
 refine Pm ?_
 refine Pm ?_
 refine Pa (Ca Tryz.call33 ((qo w i).eq3 (Zc hc))) ?_
 refine Ps ?_
 refine Qe (hK1 _ _ _ (Qd fun K2 hK2 => Qc ?_))
 refine Pm ?_
 refine Pa (ZM Tryz.underlying81 rfl rfl) ?_
 refine Qe (hK2 _ _ _ (Qz rfl (Qc ?_)))
 refine Pm ?_
 refine Pm ?_
 refine Pm ?_
 refine Pa (Qf rfl) ?_
 refine Pa (Ga Tryz.underlying87 Tryz.sizeOf56) ?_
 first | refine Pa (La o56) ?_ | refine Pa (Ls o56) ?_
 refine Ra Tryz.call50 (Qkv c.b c.v m hmw hnd) ?_
 rintro r R2 L' hR2 ⟨v', hr, hv', rfl⟩
 have hro := hr.one
 try simp only [cA, nA]
 refine Ra Tryz.call44 (QbD w G { c with v := v' } m.tick.1 i m.tick.2 r (by exact hok.map (c := c) hc) hr d1 (hok.els.mono hR2) hv' d2 d3 d4 hmw.ap (by omega)) ?_
 rintro r R3 L' hR3 ⟨vl', vn, css, vo, hels, rfl⟩
 try simp only [cA, nA]
 refine Qe (hend _ _ _ ?_)
 apply QO Tryz.results26 .nil _ (Yd { c with v := v', vl := vl' } (XG i m.tick.1 G.out).1 ++ grR { w with vn := vn, css := css, vo := vo } (G.done i m.tick.1 m.tick.2)) (Hp.le_trans hR2 hR3) rfl
 case hp => exact ⟨trivial, { c with v := v', vl := vl' }, vn, css, vo, rfl, by rw [(ji i m.tick.1 G.out).1]; exact hv'.mono hR3, hels, rfl⟩
 case hS => exact sb_
theorem Qet {R : Hp} (w : GV) (G : GS) (i : Nat) (hok : GOk R w G) (hi : i < G.ms.length) (hw : GW G) (hw' : GW (G.tick i)) :
  Tri Tryz.prog 26 [.pointer (some ⟨w.g, 0, none⟩), .int .i64 (i : Int)] R (grL w G) (fun r R' L' => GrP w (G.tick i) R' L') := by
 obtain ⟨m, hm⟩ : ∃ m, G.ms[i]? = some m := ⟨_, List.getElem?_eq_getElem hi⟩
 obtain ⟨c, hc, _, _⟩ := hok.at hm
 exact Tri.mono (jm hok hc hm (m' := (XG i m.tick.1 G.out).1) (by rw [Qaz hm]; rfl) (QhS w G c m i hok hc hm hw hw')) (fun _ _ _ _ h => h.2) (fun _ _ _ _ h => h)
theorem Qce {G : GS} {k : Int} {i : Nat} {m : MS} (hb : XU G.st k = true) (hto : (atM G.st k).2.to = (i : Int)) (hm : G.ms[i]? = some m) : G.deliver k = (G.take k).done i (m.recv (atM G.st k).2).1 (m.recv (atM G.st k).2).2 := by
 unfold GS.deliver
 rw [if_pos hb, if_pos (by omega), hto, Int.toNat_natCast, hm]
theorem Qc1 {G : GS} (hw : GW G) : QdV G.st := fun x hx => (hw.msg x hx).2
theorem Ql8 {G : GS} (hw : GW G) {k : Int} (hb : XU G.st k = true) : MIm 0 (atM G.st k).2 := by
 obtain ⟨n, rfl⟩ := Int.eq_ofNat_of_zero_le (show 0 ≤ k by unfold XU at hb; simp at hb; omega)
 have hn : n < G.st.length := by unfold XU at hb; simp at hb; omega
 rw [(jK (x := G.st[n]) (by simp)).1]
 exact (hw.msg _ (List.getElem_mem hn)).1
theorem Qi7 {R : Hp} (w : GV) (G : GS) (c : MV) (m : MS) (i : Nat) (k : Int) (hok : GOk R w G) (hc : w.cs[i]? = some c) (hm : G.ms[i]? = some m) (hw : GW G) (hw' : GW (G.deliver k)) (hb : XU G.st k = true) (hto : (atM G.st k).2.to = (i : Int)) :
  Tri Tryz.prog 31 [.pointer (some ⟨w.g, 0, none⟩), .int .i64 k] R (Yd c m ++ grR w G) (fun r R' L' => r = .bool (XU G.st k) ∧ QcT w c (XG i (m.recv (atM G.st k).2).1 G.out).1 (G.deliver k) R' L') := by
 have hi := (List.getElem?_eq_some_iff.1 hm).1
 have hmw := hw.ms m (List.mem_of_getElem? hm)
 have hnd := hok.nd i c m hc hm
 rw [Qce hb hto hm] at hw' ⊢
 obtain ⟨d1, d2, d3, d4⟩ := QbG (G := G.take k) hi hw' hmw.ap hw.last.1
 have d5 := hw.out
 have him := Ql8 hw hb
 have hst := hw.st
 obtain ⟨g, hg⟩ : ∃ g, g = (atM G.st k).2 := ⟨_, rfl⟩
 have ht := Qdd (R := R) w.n w.vn G.last G.st w.css hok.els (Qc1 hw) (by omega) k
 rw [← hg] at hto him d1 d2 d3 d4 ht hw' ⊢
 rw [hb] at ht ⊢
 refine Qn Tryz.func31 rfl Tryz.ntmps31 rfl (fun σ F Q hret hend hpan => ?_)
 try simp only [cA, nA]
 refine Qd fun K1 hK1 => Qc ?_
 refine Ps ?_
 refine Qe (hK1 _ _ _ (Qd fun K2 hK2 => Qd fun K3 hK3 => Qc ?_))
 refine Pm ?_
 refine Pa (Yb Tryz.underlying26 rfl rfl) ?_
 refine Qe (hK3 _ _ _ (Qt rfl (Qj (hK2 _ _ _ (Qd fun K4 hK4 => Qc ?_)))))
 refine Pm ?_
 refine Pa (Qf rfl) ?_
 refine Pa (Ga Tryz.underlying90 Tryz.sizeOf66) ?_
 first | refine Pa (La o66) ?_ | refine Pa (Ls o66) ?_
 refine Pm ?_
 refine Ra Tryz.call52 (ht) ?_
 rintro r R2 L' hR2 ⟨⟨ve, rfl, hve⟩, vn2, css2, hk2, rfl⟩
 have hveo := hve.one
 try simp only [cA, nA]
 refine Pm ?_
 refine Pa (Qo rfl rfl) ?_
 refine Pa (Qo rfl rfl) ?_
 refine QA (wn0 rfl) rfl Tryz.zeroValue117 rfl (fun bg => ?_)
 refine Sm (vs := QV g ve) Xu (Qbx hveo) ?_
 refine Ps ?_
 refine Qe (hK4 _ _ _ (Qd fun K5 hK5 => Qd fun K6 hK6 => Qc ?_))
 refine Pm ?_
 refine Pa (Ga Tryz.underlying117 Tryz.sizeOf3) ?_
 refine Pa ((Yld.to (u := .int .i64 (i : Int)) (La o3) (by rw [hto]))) ?_
 refine Pa (Ca Tryz.call33 ((qo w (i : Int)).eq3 (Zc hc))) ?_
 refine Ps ?_
 refine Qe (hK6 _ _ _ (Qd fun K7 hK7 => Qc ?_))
 refine Pm ?_
 refine Pm ?_
 refine Pb (Qg rfl) ?_
 refine Pb (ZM Tryz.underlying81 rfl rfl) ?_
 refine Pa (Qr rfl rfl) ?_
 refine Qe (hK7 _ _ _ ?_)
 refine Ql (eL 0 rfl (eL 5 rfl (eL 6 rfl (eL 7 rfl (eL 27 rfl eN))))) ?_
 refine Qz rfl ?_
 refine Xc (L := [blk bg (QV g ve) 117, mbB c m.ap]) [0, 1, 2, 3, 4, 5, 6, 7] [8] [9] _ sb_ (by kernel_rfl) (by kernel_rfl) (by kernel_rfl) rfl ?_
 refine Wa rfl (fun R1 hR1 G => (Qg rfl)) ?_
 refine Wa rfl (fun R1 hR1 G => (Ga Tryz.underlying117 Tryz.sizeOf3)) ?_
 refine Wa rfl (fun R1 hR1 G => (Yld.to (u := .int .i64 (i : Int)) (La o3) (by rw [hto]))) ?_
 refine Wa rfl (fun R1 hR1 G => (Qg rfl)) ?_
 refine Wa rfl (fun R1 hR1 G => (Qf rfl)) ?_
 refine Wa rfl (fun R1 hR1 G => (Ga Tryz.underlying87 Tryz.sizeOf56)) ?_
 first | refine Wa rfl (fun R1 hR1 G => (La o56)) ?_ | refine Wa rfl (fun R1 hR1 G => (Ls o56)) ?_
 refine Wa rfl (fun R1 hR1 G => (Lm (vs := QV g ve) Xu)) ?_
 refine QZ ?_
 refine QD rfl ?_
 try simp only [cA, nA, List.append_nil]
 refine Ra Tryz.call53 (Qkx c.b c.v m g ve hmw him hve (hnd.mono hR2)) ?_
 rintro r R3 L' hR3 ⟨v', hr, hv', rfl⟩
 have hro := hr.one
 try simp only [cA, nA]
 refine QE le_ sb_ ?_
 refine Xd ?_
 try simp only [cA, nA, List.append_nil]
 refine Ra Tryz.call44 (QbD { w with vn := vn2, css := css2 } (G.take k) { c with v := v' } (m.recv g).1 i (m.recv g).2 r (by exact hok.map (c := c) hc) hr d1 (hk2.mono hR3) hv' d2 d3 d4 hmw.ap (by exact Nat.le_trans d5 (by decide))) ?_
 rintro r R4 L' hR4 ⟨vl', vn, css, vo, hels, rfl⟩
 try simp only [cA, nA]
 refine Qe (hK5 _ _ _ (Qd fun K8 hK8 => Qc ?_))
 refine Pm ?_
 refine Ps ?_
 refine Qe (hK8 _ _ _ (Qi (hret _ _ _ ?_)))
 apply XT Tryz.results31 (.cons (Qh rfl) .nil) _ (Yd { c with v := v', vl := vl' } (XG i (m.recv g).1 G.out).1 ++ grR { w with vn := vn, css := css, vo := vo } ((G.take k).done i (m.recv g).1 (m.recv g).2)) (Hp.le_trans hR2 (Hp.le_trans hR3 hR4)) rfl
 case hp => exact ⟨rfl, { c with v := v', vl := vl' }, vn, css, vo, rfl, by rw [(ji i (m.recv g).1 G.out).1]; exact hv'.mono hR4, hels, rfl⟩
 case hS => exact sb_
theorem Qi6 {R : Hp} (w : GV) (G : GS) (k : Int) (hok : GOk R w G) (hw : GW G) (hno : XU G.st k = false ∨ yq w.cs (atM G.st k).2.to = .pointer none) :
  Tri Tryz.prog 31 [.pointer (some ⟨w.g, 0, none⟩), .int .i64 k] R (grR w G) (fun r R' L' => r = .bool (XU G.st k) ∧ ∃ vn css, Els oneE R' (G.take k).st css ∧ L' = grR { w with vn := vn, css := css } (G.take k)) := by
 have hst := hw.st
 obtain ⟨g, hg⟩ : ∃ g, g = (atM G.st k).2 := ⟨_, rfl⟩
 obtain ⟨bb, hbb⟩ : ∃ bb, bb = XU G.st k := ⟨_, rfl⟩
 have ht := Qdd (R := R) w.n w.vn G.last G.st w.css hok.els (Qc1 hw) (by omega) k
 rw [← hg] at ht hno
 rw [← hbb] at ht hno ⊢
 obtain ⟨pt, hpt, hpo⟩ : ∃ pt, yq w.cs g.to = .pointer pt ∧ (bb = true → pt = none) := by
  obtain ⟨pt, hpt⟩ : ∃ pt, yq w.cs g.to = .pointer pt := by
   unfold yq
   split
   ·split <;> exact ⟨_, rfl⟩
   ·exact ⟨_, rfl⟩
  refine ⟨pt, hpt, fun h => ?_⟩
  rcases hno with h1 | h1
  ·rw [h1] at h; cases h
  ·rw [h1] at hpt; cases hpt; rfl
 refine Qn Tryz.func31 rfl Tryz.ntmps31 rfl (fun σ F Q hret hend hpan => ?_)
 try simp only [cA, nA]
 refine Qd fun K1 hK1 => Qc ?_
 refine Ps ?_
 refine Qe (hK1 _ _ _ (Qd fun K2 hK2 => Qd fun K3 hK3 => Qc ?_))
 refine Pm ?_
 refine Pa (Yb Tryz.underlying26 rfl rfl) ?_
 refine Qe (hK3 _ _ _ (Qt rfl (Qj (hK2 _ _ _ (Qd fun K4 hK4 => Qc ?_)))))
 refine Pm ?_
 refine Pa (Qf rfl) ?_
 refine Pa (Ga Tryz.underlying90 Tryz.sizeOf66) ?_
 first | refine Pa (La o66) ?_ | refine Pa (Ls o66) ?_
 refine Pm ?_
 refine Ra Tryz.call52 (ht) ?_
 rintro r R2 L' hR2 ⟨⟨ve, rfl, hve⟩, vn2, css2, hk2, rfl⟩
 have hveo := hve.one
 try simp only [cA, nA]
 refine Pm ?_
 refine Pa (Qo rfl rfl) ?_
 refine Pa (Qo rfl rfl) ?_
 refine QA (wn0 rfl) rfl Tryz.zeroValue117 rfl (fun bg => ?_)
 refine Sm (vs := QV g ve) Xu (Qbx hveo) ?_
 refine Ps ?_
 refine Qe (hK4 _ _ _ (Qd fun K5 hK5 => Qd fun K6 hK6 => Qc ?_))
 refine Pm ?_
 refine Pa (Ga Tryz.underlying117 Tryz.sizeOf3) ?_
 first | refine Pa (La o3) ?_ | refine Pa (Ls o3) ?_
 refine Pa (Ca Tryz.call33 ((qo w g.to).eq3 hpt)) ?_
 refine Ps ?_
 refine Qe (hK6 _ _ _ (Qd fun K7 hK7 => Qc ?_))
 refine Pm ?_
 refine Pm ?_
 refine QL 24 rfl (fun hg24 => ?_) (fun hg24 => ?_)
 try simp only [dT, dF, nT, nF, tF, fT] at hg24
 refine Pb (Qg rfl) ?_
 refine Pb (ZM Tryz.underlying81 rfl rfl) ?_
 refine Pa (Qr rfl rfl) ?_
 refine Qe (hK7 _ _ _ ?_)
 refine Ql (eL 0 rfl (eL 5 rfl (eL 6 rfl (eL 7 rfl (eL 27 rfl eN))))) ?_
 refine Qm rfl (fun hc27 => ?_) (fun hc27 => ?_)
 ·rw [hpo hg24] at hc27; simp at hc27
 try simp only [dT, dF, nT, nF, tF, fT] at hc27
 refine Qj (hK5 _ _ _ (Qd fun K9 hK9 => Qc ?_))
 refine Pm ?_
 refine Ps ?_
 refine Qe (hK9 _ _ _ (Qi (hret _ _ _ ?_)))
 apply XT Tryz.results31 (.cons (Qh rfl) .nil) _ (grR { w with vn := vn2, css := css2 } (G.take k)) hR2 rfl
 case hp => exact ⟨rfl, vn2, css2, hk2, rfl⟩
 case hS => exact sb_
 try simp only [dT, dF, nT, nF, tF, fT] at hg24
 refine Pk ?_
 refine Pk ?_
 refine Pa (Qp rfl rfl) ?_
 refine Qe (hK7 _ _ _ (Qt rfl (Qj (hK5 _ _ _ (Qd fun K10 hK10 => Qc ?_)))))
 refine Pm ?_
 refine Ps ?_
 refine Qe (hK10 _ _ _ (Qi (hret _ _ _ ?_)))
 apply XT Tryz.results31 (.cons (Qh rfl) .nil) _ (grR { w with vn := vn2, css := css2 } (G.take k)) hR2 rfl
 case hp => exact ⟨rfl, vn2, css2, hk2, rfl⟩
 case hS => exact sb_
end V
end Go.Proofs.YtenfjpigffjgmaaGreat
set_option linter.unusedSimpArgs false
set_option linter.unusedVariables false
set_option maxRecDepth 100000
namespace Go.Proofs.YtenfjpigffjgmaaGreat
open Go.RowKit
namespace V
set_option maxHeartbeats 4000000
theorem Tri.fr {P : Program} {f : FuncId} {args : List Value} {R : Hp} {L : List Asn} {A : Asn} {post : Value → Hp → List Asn → Prop} (h : Tri P f args R L post) : Tri P f args R (A :: L) (fun r R' L' => ∃ L1, post r R' L1 ∧ L' = A :: L1) := fun σ F w hs => by
 refine (h σ (A :: F) w (hs.sub (QaA A L F))).mono fun e w' ⟨R', L', hR, hw, hp⟩ => ?_
 cases e with
 | panicked ch => exact hp.elim
 | outgrown => exact hp.elim
 | returned v => exact ⟨R', A :: L', hR, hw.sub (jb A L' F), L', hp, rfl⟩
theorem Qa9 {R : Hp} (w : GV) (G : GS) (k : Int) (hok : GOk R w G) (hw : GW G) (hw' : GW (G.deliver k)) :
  Tri Tryz.prog 31 [.pointer (some ⟨w.g, 0, none⟩), .int .i64 k] R (grL w G) (fun r R' L' => r = .bool (XU G.st k) ∧ GrP w (G.deliver k) R' L') := by
 have hno : (XU G.st k = false ∨ yq w.cs (atM G.st k).2.to = .pointer none) → G.deliver k = G.take k → Tri Tryz.prog 31 [.pointer (some ⟨w.g, 0, none⟩), .int .i64 k] R (grL w G) (fun r R' L' => r = .bool (XU G.st k) ∧ GrP w (G.deliver k) R' L') := fun h he => by
  refine Tri.mono (Tri.fr (Qi6 w G k hok hw h)) (fun r R' L' hR h2 => ?_) (fun _ _ _ _ h => h)
  obtain ⟨L1, ⟨h0, vn, css, h1, rfl⟩, rfl⟩ := h2
  rw [he]
  exact ⟨h0, vn, css, w.vo, w.cs, ⟨hok.len, fun i c m hc hm => (hok.nd i c m hc hm).mono hR, h1⟩, rfl⟩
 by_cases hb : XU G.st k = true
 ·by_cases h0 : 0 ≤ (atM G.st k).2.to
  ·obtain ⟨i, hi⟩ := Int.eq_ofNat_of_zero_le h0
   cases hm : G.ms[i]? with
   | none =>
    refine hno (.inr ?_) ?_
    ·rw [hi]
     refine qS (.inr ?_)
     rw [List.getElem?_eq_none_iff] at hm
     rw [hok.len]; omega
    ·unfold GS.deliver
     rw [if_pos hb, if_pos h0, hi, Int.toNat_natCast, hm]
   | some m =>
    obtain ⟨c, hc, _, _⟩ := hok.at hm
    exact jm hok hc hm (by rw [Qce hb hi hm]; rfl) (Qi7 w G c m i k hok hc hm hw hw' hb hi)
  ·refine hno (.inr (qS (.inl (by omega)))) ?_
   unfold GS.deliver
   rw [if_pos hb, if_neg h0]
 ·refine hno (.inl (by simpa using hb)) ?_
  unfold GS.deliver GS.take
  rw [if_neg hb, (qB (by simpa using hb)).2]
theorem QaH {G : GS} {i : Nat} {m : MS} {cmd : Bs} (hm : G.ms[i]? = some m) : G.propose i cmd = ((m.prop cmd).1, G.done i (m.prop cmd).2.1 (m.prop cmd).2.2) := by unfold GS.propose; rw [hm]
theorem QhT {R : Hp} (w : GV) (G : GS) (c : MV) (m : MS) (i : Nat) (cmd : Bs) (hcl : cmd.length ≤ 100) (hok : GOk R w G) (hc : w.cs[i]? = some c) (hm : G.ms[i]? = some m) (hw : GW G) (hw' : GW (G.propose i cmd).2) :
  Tri Tryz.prog 16 [.pointer (some ⟨w.g, 0, none⟩), .int .i64 (i : Int), .string (str cmd)] R (Yd c m ++ grR w G) (fun r R' L' => r = Xa [.int .u64 (G.propose i cmd).1.1, .int .u64 (G.propose i cmd).1.2] ∧ QcT w c (XG i (m.prop cmd).2.1 G.out).1 (G.propose i cmd).2 R' L') := by
 have hi := (List.getElem?_eq_some_iff.1 hm).1
 have hmw := hw.ms m (List.mem_of_getElem? hm)
 have hnd := hok.nd i c m hc hm
 rw [QaH hm] at hw' ⊢
 obtain ⟨d1, d2, d3, d4⟩ := QbG hi hw' hmw.ap hw.last.1
 have d5 := hw.out
 refine Qn Tryz.func16 rfl Tryz.ntmps16 rfl (fun σ F Q hret hend hpan => ?_)
 try simp only [cA, nA]
 refine Qd fun K1 hK1 => Qc ?_
 refine Ps ?_
 refine Ps ?_
 refine Qe (hK1 _ _ _ (Qd fun K2 hK2 => Qc ?_))
 refine Pm ?_
 refine Pm ?_
 refine Pa (Ca Tryz.call33 ((qo w i).eq3 (Zc hc))) ?_
 refine Ps ?_
 refine Qe (hK2 _ _ _ (Qd fun K3 hK3 => Qd fun K4 hK4 => Qc ?_))
 refine Pm ?_
 refine Pa (Yb Tryz.underlying81 rfl rfl) ?_
 refine Qe (hK4 _ _ _ (Qt rfl (Qj (hK3 _ _ _ (Qd fun K5 hK5 => Qc ?_)))))
 refine Pm ?_
 refine Pa (Qf rfl) ?_
 refine Pa (Ga Tryz.underlying87 Tryz.sizeOf56) ?_
 first | refine Pa (La o56) ?_ | refine Pa (Ls o56) ?_
 refine Pm ?_
 refine Ra Tryz.call43 (Qkz c.b c.v m cmd hmw hcl hnd) ?_
 rintro r R2 L' hR2 ⟨v', vl, rfl, hr, hv', rfl⟩
 have hro := hr.one
 try simp only [cA, nA]
 refine Pm ?_
 refine Pa (Qo rfl rfl) ?_
 refine Pa (Qo rfl rfl) ?_
 refine Pa (Qo rfl rfl) ?_
 refine Ps ?_
 refine Ps ?_
 refine Ps ?_
 refine Qe (hK5 _ _ _ ?_)
 refine Ql (eL 0 rfl (eL 1 rfl (eL 9 rfl (eL 10 rfl (eL 11 rfl eN))))) ?_
 refine Qd fun K6 hK6 => Qc ?_
 refine Pm ?_
 refine Pm ?_
 refine Pm ?_
 refine Ra Tryz.call44 (QbD w G { c with v := v' } (m.prop cmd).2.1 i (m.prop cmd).2.2 vl (by exact hok.map (c := c) hc) hr d1 (hok.els.mono hR2) hv' d2 d3 d4 hmw.ap (by omega)) ?_
 rintro r R3 L' hR3 ⟨vl', vn, css, vo, hels, rfl⟩
 try simp only [cA, nA]
 refine Qe (hK6 _ _ _ (Qd fun K7 hK7 => Qc ?_))
 refine Pm ?_
 refine Pm ?_
 refine Ps ?_
 refine Ps ?_
 refine Qe (hK7 _ _ _ (Qi (hret _ _ _ ?_)))
 apply XT Tryz.results16 (.cons (Qh rfl) (.cons (Qh rfl) .nil)) _ (Yd { c with v := v', vl := vl' } (XG i (m.prop cmd).2.1 G.out).1 ++ grR { w with vn := vn, css := css, vo := vo } (G.done i (m.prop cmd).2.1 (m.prop cmd).2.2)) (Hp.le_trans hR2 hR3) rfl
 case hp => exact ⟨rfl, { c with v := v', vl := vl' }, vn, css, vo, rfl, by rw [(ji i (m.prop cmd).2.1 G.out).1]; exact hv'.mono hR3, hels, rfl⟩
 case hS => exact sb_
theorem zM {R : Hp} (w : GV) (G : GS) (i : Nat) (cmd : Bs) (hcl : cmd.length ≤ 100) (hok : GOk R w G) (hi : i < G.ms.length) (hw : GW G) (hw' : GW (G.propose i cmd).2) :
  Tri Tryz.prog 16 [.pointer (some ⟨w.g, 0, none⟩), .int .i64 (i : Int), .string (str cmd)] R (grL w G) (fun r R' L' => r = Xa [.int .u64 (G.propose i cmd).1.1, .int .u64 (G.propose i cmd).1.2] ∧ GrP w (G.propose i cmd).2 R' L') := by
 obtain ⟨m, hm⟩ : ∃ m, G.ms[i]? = some m := ⟨_, List.getElem?_eq_getElem hi⟩
 obtain ⟨c, hc, _, _⟩ := hok.at hm
 exact jm hok hc hm (m' := (XG i (m.prop cmd).2.1 G.out).1) (by rw [QaH hm]; rfl) (QhT w G c m i cmd hcl hok hc hm hw hw')
theorem QkY {G : GS} {i : Nat} {m : MS} (hm : G.ms[i]? = some m) : G.compact i = (m.comp.1, { G with ms := G.ms.set i m.comp.2 }) := by unfold GS.compact; rw [hm]
theorem QcJ {G : GS} {i : Nat} {m : MS} {n : Int} (hm : G.ms[i]? = some m) : G.fuel i n = { G with ms := G.ms.set i { m with D := m.D.setFuel n } } := by unfold GS.fuel; rw [hm]
theorem QhU {R : Hp} (w : GV) (G : GS) (c : MV) (m : MS) (i : Nat) (n : Int) (hok : GOk R w G) (hc : w.cs[i]? = some c) (hm : G.ms[i]? = some m) :
  Tri Tryz.prog 30 [.pointer (some ⟨w.g, 0, none⟩), .int .i64 (i : Int), .int .i64 n] R (Yd c m ++ grR w G) (fun r R' L' => True ∧ QcT w c { m with D := m.D.setFuel n } (G.fuel i n) R' L') := by
 have hnd := hok.nd i c m hc hm
 rw [QcJ hm]
 refine Qn Tryz.func30 rfl Tryz.ntmps30 rfl (fun σ F Q hret hend hpan => ?_)
 try simp only [cA, nA]
 refine Qd fun K1 hK1 => Qc ?_
 refine Pm ?_
 refine Pm ?_
 refine Pa (Ca Tryz.call33 ((qo w i).eq3 (Zc hc))) ?_
 refine Ps ?_
 refine Qe (hK1 _ _ _ (Qd fun K2 hK2 => Qc ?_))
 refine Pm ?_
 refine Pa (ZM Tryz.underlying81 rfl rfl) ?_
 refine Qe (hK2 _ _ _ (Qz rfl (Qc ?_)))
 refine Pm ?_
 refine Pa (Qf rfl) ?_
 refine Pa (Ga Tryz.underlying87 Tryz.sizeOf83) ?_
 first | refine Pa (La o83) ?_ | refine Pa (Ls o83) ?_
 refine Pm ?_
 refine Ra Tryz.call51 (QlZ c.b.d c.v.u m.D n) ?_
 rintro r R2 L' hR2 ⟨rfl, rfl⟩
 try simp only [cA, nA]
 refine Qe (hend _ _ _ ?_)
 apply QO Tryz.results30 .nil _ (Yd c { m with D := m.D.setFuel n } ++ grR w G) (Hp.le_refl _) rfl
 case hp => exact ⟨trivial, c, w.vn, w.css, w.vo, rfl, hnd, hok.els, rfl⟩
 case hS => exact sb_
theorem Qi5 {R : Hp} (w : GV) (G : GS) (i : Nat) (n : Int) (hok : GOk R w G) (hi : i < G.ms.length) :
  Tri Tryz.prog 30 [.pointer (some ⟨w.g, 0, none⟩), .int .i64 (i : Int), .int .i64 n] R (grL w G) (fun r R' L' => GrP w (G.fuel i n) R' L') := by
 obtain ⟨m, hm⟩ : ∃ m, G.ms[i]? = some m := ⟨_, List.getElem?_eq_getElem hi⟩
 obtain ⟨c, hc, _, _⟩ := hok.at hm
 exact Tri.mono (jm hok hc hm (by rw [QcJ hm]) (QhU w G c m i n hok hc hm)) (fun _ _ _ _ h => h.2) (fun _ _ _ _ h => h)
end V
end Go.Proofs.YtenfjpigffjgmaaGreat
set_option linter.unusedSimpArgs false
set_option linter.unusedVariables false
set_option maxRecDepth 100000
namespace Go.Proofs.YtenfjpigffjgmaaGreat
open Go.RowKit
namespace V
set_option maxHeartbeats 4000000
theorem QdE {c : Cx} {E : Env} {R : Hp} {L : List Asn} {ty : TypeId} {p : String} {af : Array Edge} {g : Option (Nat × Bool)} {d : Option Tmp} {x : Operand} {t e : TypeId} {u : Value} (hT : c.P.underlying t = some (.pointer e)) (e1 : ev E x = some u) : Yld c E R L ⟨d, .makeInterface t x, ty, p, af, g⟩ (.iface t u) := fun a w hf hs => by
 have r : (Instr.makeInterface t u).run c.P w = .ok (.iface t u) w := by
  unfold Instr.makeInterface
  simp [run_underlying hT]
 simp [execOp, hf.ev e1, r, Oper.quietUpon]
theorem QkC {R : Hp} : Tri Tryz.prog 20 [] R [] (fun r R' L' => R = R' ∧ ∃ b, r = ifV b ∧ L' = [lsB b (.slice none 0 0), lsS (.slice none 0 0) []]) := by
 refine Qn Tryz.func20 rfl Tryz.ntmps20 rfl (fun σ F Q hret hend hpan => ?_)
 try simp only [cA, nA]
 refine Ql eN ?_
 refine Qd fun K1 hK1 => Qc ?_
 refine Ps ?_
 refine Qe (hK1 _ _ _ (Qd fun K2 hK2 => Qc ?_))
 refine YP (A := lsS (.slice none 0 0) []) (Yt _ _) ?_
 refine Pa (QX (cells := [_]) [(0, 1)] Tryz.underlying105 Tryz.zeroValue105 (fun _ => rfl) rfl rfl) ?_
 refine Xi (wn0 rfl) rfl rfl rfl (fun b => ?_)
 refine Pa ((QdE Tryz.underlying103 rfl)) ?_
 refine Ps ?_
 refine Qe (hK2 _ _ _ (Qi (hret _ _ _ ?_)))
 refine Ea Tryz.results20 (.cons (Qh rfl) .nil) [lsB b (.slice none 0 0), lsS (.slice none 0 0) []] le_ ?_
 exact ⟨rfl, b, rfl, rfl⟩
theorem Qdk {R : Hp} (w : GV) (bm bd : Nat) (px im ap : Value) (u : Value) (D : DK) (rs : List Rec) (p : Bs) (g : LG) (i n : Nat) (hc : (w.cs[i]?).map MV.m = some bm) (hn : i < n ∧ n ≤ 9) (ho : px.oneCell' = true ∧ im.oneCell' = true) (hD : D.ok 690000000) (hd : D.down = false) (ht : ZC D.b rs p g) (hgd : g.down = false) (hop : (D.open rs p).1 = 0 ∧ (D.open rs p).2.down = false) :
  Tri Tryz.prog 35 [.pointer (some ⟨w.g, 0, none⟩), .int .i64 (i : Int), .int .i64 (n : Int)] R [blk bm [.pointer (some ⟨bd, 0, none⟩), px, im, ap] 87, dkB bd u D, dkS u D, grB w, grS w]
   (fun r R' L' => ∃ c : MV, c.m = bm ∧ NOk R' c.v (ND.start i n g) ∧ L' = Yd c (Ym i n g (D.open rs p).2) ++ [grB w, grS w]) := by
 obtain ⟨c0, hc0, hcm⟩ := Option.map_eq_some_iff.1 hc
 have hi2 : i < w.cs.length := (List.getElem?_eq_some_iff.1 hc0).1
 have hnth : nth (Zz w.cs) ((i : Int).toNat * 1 + 0) = some (.pointer (some ⟨bm, 0, none⟩)) := by rw [Int.toNat_natCast, ZT]; simp [Zz, hc0, hcm]
 obtain ⟨h1, h2, h3⟩ := ht
 obtain ⟨h4, h5⟩ := hop
 have hgs := (Plays.okR h3).state
 have hop2 := QlK (R := R) bd u D 690000000 rs p g hD (by omega) h1 h2 h3
 rw [h4] at hop2
 refine Qn Tryz.func35 rfl Tryz.ntmps35 rfl (fun σ F Q hret hend hpan => ?_)
 try simp only [cA, nA]
 refine Qd fun K1 hK1 => Qc ?_
 refine Pm ?_
 refine Pa (Qf rfl) ?_
 refine Pa (Ga Tryz.underlying90 Tryz.sizeOf88) ?_
 first | refine Pa (La o88) ?_ | refine Pa (Ls o88) ?_
 refine Pm ?_
 refine Pa ((Qs (sz := 1) (n := w.cs.length) Tryz.underlying88 Tryz.sizeOf81 rfl rfl fd_ (by omega))) ?_
 refine Pa ((Xz o81 rfl fd_ hnth)) ?_
 refine Ps ?_
 refine Qe (hK1 _ _ _ (Qd fun K2 hK2 => Qc ?_))
 refine Pm ?_
 refine Pa (Qf rfl) ?_
 refine Pa (Ga Tryz.underlying87 Tryz.sizeOf83) ?_
 first | refine Pa (La o83) ?_ | refine Pa (Ls o83) ?_
 refine Ra Tryz.call56 (hop2) ?_
 rintro r R2 L' hR2 ⟨pl, u2, rfl, (⟨_, hx, _⟩ | ⟨bl, va, rfl, _, hva, rfl⟩)⟩; exact absurd rfl hx
 try simp only [cA, nA]
 refine Pm ?_
 refine Pa (Qo rfl rfl) ?_
 refine Pa (Qo rfl rfl) ?_
 refine Ps ?_
 refine Ps ?_
 refine Qe (hK2 _ _ _ (Qd fun K3 hK3 => Qc ?_))
 refine Pm ?_
 refine Pm ?_
 refine Pm ?_
 refine Pm ?_
 refine Ra Tryz.call57 (Qj5 bl bd i n u2 va g (D.open rs p).2 hn hva) ?_
 rintro r R3 L' hR3 (⟨hx, _, _⟩ | ⟨_, bx, rfl, hv, rfl⟩); simp [hgd, h5] at hx
 try simp only [cA, nA]
 refine Pm ?_
 refine Pa (Qo rfl rfl) ?_
 refine Pa (Qo rfl rfl) ?_
 refine Pa (Qf rfl) ?_
 refine Pa (Ga Tryz.underlying87 Tryz.sizeOf56) ?_
 refine Sa o56 ?_
 refine Qe (hK3 _ _ _ ?_)
 refine Ql (eL 0 rfl (eL 6 rfl (eL 7 rfl eN))) ?_
 refine Qd fun K4 hK4 => Qc ?_
 refine Pm ?_
 refine Pm ?_
 refine Pm ?_
 refine Pa (Qf rfl) ?_
 refine Pa (Ga Tryz.underlying90 Tryz.sizeOf49) ?_
 first | refine Pa (La o49) ?_ | refine Pa (Ls o49) ?_
 refine QiB (wn0 rfl) rfl rfl Tryz.call20 rfl (QkC) sp_ (fun _ _ _ _ h => h.elim) ?_
 rintro r R4 L' hR4 ⟨rfl, bl2, rfl, rfl⟩
 try simp only [cA, nA]
 refine Pa (Qf rfl) ?_
 refine Pa (Ga Tryz.underlying87 Tryz.sizeOf85) ?_
 refine Sa o85 ?_
 refine Pa (Qf rfl) ?_
 refine Pa (Ga Tryz.underlying87 Tryz.sizeOf36) ?_
 refine Sa o36 ?_
 refine Qe (hK4 _ _ _ (Qd fun K5 hK5 => Qc ?_))
 refine Pm ?_
 refine Pa (Ca Tryz.call25 (zl bl (some ⟨bd, 0, none⟩) va g)) ?_
 refine Pm ?_
 refine Pa (Qo rfl rfl) ?_
 refine Pa (Qo rfl rfl) ?_
 refine Pa (Qo rfl rfl) ?_
 refine Ps ?_
 refine Ps ?_
 refine Ps ?_
 refine Qe (hK5 _ _ _ ?_)
 refine Ql (eL 6 rfl (eL 9 rfl (eL 11 rfl eN))) ?_
 refine Qd fun K6 hK6 => Qc ?_
 refine Pm ?_
 refine Pa (XN rfl rfl) ?_
 refine Qe (hK6 _ _ _ ?_)
 refine Qm rfl (fun hc55 => ?_) (fun hc55 => ?_)
 have f1 : g.base > 0 := by simpa using hc55
 have e1 : Ym i n g (D.open rs p).2 = ⟨ND.start i n g, (D.open rs p).2, unS g.state, g.base⟩ := by unfold Ym; rw [if_pos f1]
 refine Qd fun K8 hK8 => Qc ?_
 refine Pm ?_
 refine Pa (Qf rfl) ?_
 refine Pa (Ga Tryz.underlying87 Tryz.sizeOf85) ?_
 first | refine Pa (La o85) ?_ | refine Pa (Ls o85) ?_
 refine Pm ?_
 refine Qae (wn0 rfl) rfl rfl (fun w => by kernel_rfl) Tryz.call171 rfl (Qc8 bl2 (.slice none 0 0) [] g.state (by omega)) sp_ (fun _ _ _ _ h => h.elim) ?_
 rintro r R5 L' hR5 ⟨rfl, vl3, rfl⟩
 try simp only [cA, nA]
 refine Qe (hK8 _ _ _ (Qc ?_))
 refine Pm ?_
 refine Pm ?_
 refine Pa (Qf rfl) ?_
 refine Pa (Ga Tryz.underlying87 Tryz.sizeOf36) ?_
 refine Sa o36 ?_
 refine Qe (hend _ _ _ ?_)
 apply QO Tryz.results35 .nil _ (Yd ⟨bm, ⟨bx, bl, bd⟩, bl2, NV.new u2 va, vl3⟩ ⟨ND.start i n g, (D.open rs p).2, unS g.state, g.base⟩ ++ [grB w, grS w]) (by first | exact Hp.le_trans hR2 (Hp.le_trans hR3 hR5) | exact Hp.le_trans hR2 hR3) rfl
 case hp => rw [e1]; exact ⟨⟨bm, ⟨bx, bl, bd⟩, bl2, NV.new u2 va, vl3⟩, rfl, hv.mono hR5, rfl⟩
 case hS => exact sb_
 have f1 : ¬ g.base > 0 := by simpa using hc55
 have e1 : Ym i n g (D.open rs p).2 = ⟨ND.start i n g, (D.open rs p).2, [], 0⟩ := by unfold Ym; rw [if_neg f1]
 refine Qj (hend _ _ _ ?_)
 apply QO Tryz.results35 .nil _ (Yd ⟨bm, ⟨bx, bl, bd⟩, bl2, NV.new u2 va, .slice none 0 0⟩ ⟨ND.start i n g, (D.open rs p).2, [], 0⟩ ++ [grB w, grS w]) (by first | exact Hp.le_trans hR2 (Hp.le_trans hR3 hR5) | exact Hp.le_trans hR2 hR3) rfl
 case hp => rw [e1]; exact ⟨⟨bm, ⟨bx, bl, bd⟩, bl2, NV.new u2 va, .slice none 0 0⟩, rfl, hv, rfl⟩
 case hS => exact sb_
theorem Plays.down : ∀ {rs : List Rec} {g h : LG}, Plays g rs h → h.down = g.down
 | _, _, _, .nil _ _ => rfl
 | _, _, _, .cons _ _ _ p => by rw [Plays.down p, zx]
theorem QlL {D : DK} {rs : List Rec} {p : Bs} (h1 : D.down = false) (h2 : D.bound = false) : (D.open rs p).1 = 0 ∧ (D.open rs p).2.down = false ∧ (D.open rs p).2.bound = false := by
 unfold DK.open
 rw [if_neg (by rw [h1]; decide)]
 split
 ·exact ⟨rfl, h1, h2⟩
 ·unfold DK.swap
  rw [jT ⟨h1, h2⟩]
  exact ⟨rfl, h1, h2⟩
theorem DK.crash_ok {D : DK} {m : Nat} (h : D.ok m) (keep : Int) : (D.crash keep).ok m := by
 obtain ⟨k1, k2, k3, k4, k5⟩ := h
 have hkl : D.keeps keep ≤ D.b.length := by unfold DK.keeps; omega
 have hbl : (D.crash keep).b.length = D.keeps keep := by unfold DK.crash; simp; omega
 exact ⟨by show D.keeps keep ≤ _; rw [hbl]; exact Nat.le_refl _, by rw [hbl]; omega, k3, k4, fun h => by have h : false = true := h; cases h⟩
def QdC (D : DK) (keep : Int) : Prop := ∃ rs p g, ZC (D.crash keep).b rs p g
theorem jG {G : GS} {i : Nat} {m : MS} {keep : Int} (hm : G.ms[i]? = some m) : G.crash i keep = { G with ms := G.ms.set i (m.crash i G.ms.length keep) } := by unfold GS.crash; rw [hm]
theorem QkV (m : MS) (i n : Nat) (keep : Int) : (m.crash i n keep).x = ND.start i n (Qbi (m.D.crash keep).b) := by
 unfold MS.crash Ym
 split <;> rfl
theorem QgL {R : Hp} (w : GV) (G : GS) (c : MV) (m : MS) (i : Nat) (keep : Int) (hok : GOk R w G) (hc : w.cs[i]? = some c) (hm : G.ms[i]? = some m) (hw : GW G) (ho : QdC m.D keep) :
  Tri Tryz.prog 12 [.pointer (some ⟨w.g, 0, none⟩), .int .i64 (i : Int), .int .i64 keep] R (Yd c m ++ grR w G) (fun r R' L' => True ∧ QcT w c (m.crash i G.ms.length keep) (G.crash i keep) R' L') := by
 have hi := (List.getElem?_eq_some_iff.1 hm).1
 have hmw := hw.ms m (List.mem_of_getElem? hm)
 have hn := hw.n
 have ht := QdN ho
 have hoc := QlL (D := m.D.crash keep) (rs := jR (m.D.crash keep).b) (p := Qbh (m.D.crash keep).b) rfl rfl
 have hst := fun (R : Hp) (u : Value) => Qdk (R := R) w c.m c.b.d (.pointer (some ⟨c.b.x, 0, none⟩)) (ifV c.l) (.int .u64 m.ap) u (m.D.crash keep) _ _ _ i G.ms.length (hok.map hc) ⟨hi, hn⟩ ⟨rfl, rfl⟩ (DK.crash_ok hmw.ok keep) rfl ht (ht.2.2.down) ⟨hoc.1, hoc.2.1⟩
 rw [jG hm]
 refine Qn Tryz.func12 rfl Tryz.ntmps12 rfl (fun σ F Q hret hend hpan => ?_)
 try simp only [cA, nA]
 refine Qd fun K1 hK1 => Qc ?_
 refine Pm ?_
 refine Pm ?_
 refine Pa (Ca Tryz.call33 ((qo w i).eq3 (Zc hc))) ?_
 refine Ps ?_
 refine Qe (hK1 _ _ _ (Qd fun K2 hK2 => Qc ?_))
 refine Pm ?_
 refine Pa (ZM Tryz.underlying81 rfl rfl) ?_
 refine Qe (hK2 _ _ _ (Qz rfl (Qd fun K3 hK3 => Qc ?_)))
 refine Pm ?_
 refine Pa (Qf rfl) ?_
 refine Pa (Ga Tryz.underlying87 Tryz.sizeOf83) ?_
 first | refine Pa (La o83) ?_ | refine Pa (Ls o83) ?_
 refine Pm ?_
 refine Ra Tryz.call34 (QkW c.b.d c.v.u m.D 690000000 hmw.ok (by omega) keep) ?_
 rintro r R2 L' hR2 ⟨rfl, u2, rfl⟩
 have hst2 := hst R u2
 rw [← hok.len] at hst2
 try simp only [cA, nA]
 refine Qe (hK3 _ _ _ (Qc ?_))
 refine Pm ?_
 refine Pm ?_
 refine Pm ?_
 refine Pa (Qf rfl) ?_
 refine Pa (Ga Tryz.underlying90 Tryz.sizeOf88) ?_
 first | refine Pa (La o88) ?_ | refine Pa (Ls o88) ?_
 first | refine Pa (QG Tryz.underlying88 rfl) ?_ | refine Pa (QB Tryz.underlying88 rfl fd_) ?_
 refine Ra Tryz.call35 (hst2) ?_
 rintro r R3 L' hR3 ⟨c', hcm, hv', rfl⟩
 rw [hok.len] at hv' ⊢
 try simp only [cA, nA]
 refine Qe (hend _ _ _ ?_)
 apply QO Tryz.results12 .nil _ (Yd c' (m.crash i G.ms.length keep) ++ grR w { G with ms := G.ms.set i (m.crash i G.ms.length keep) }) hR3 rfl
 case hp => exact ⟨trivial, c', w.vn, w.css, w.vo, hcm, by rw [QkV]; exact hv', hok.els.mono hR3, rfl⟩
 case hS => exact sb_
theorem QhV {R : Hp} (w : GV) (G : GS) (i : Nat) (keep : Int) (hok : GOk R w G) (hi : i < G.ms.length) (hw : GW G) (ho : ∀ m, G.ms[i]? = some m → QdC m.D keep) :
  Tri Tryz.prog 12 [.pointer (some ⟨w.g, 0, none⟩), .int .i64 (i : Int), .int .i64 keep] R (grL w G) (fun r R' L' => GrP w (G.crash i keep) R' L') := by
 obtain ⟨m, hm⟩ : ∃ m, G.ms[i]? = some m := ⟨_, List.getElem?_eq_getElem hi⟩
 obtain ⟨c, hc, _, _⟩ := hok.at hm
 exact Tri.mono (jm hok hc hm (by rw [jG hm]) (QgL w G c m i keep hok hc hm hw (ho m hm))) (fun _ _ _ _ h => h.2) (fun _ _ _ _ h => h)
end V
end Go.Proofs.YtenfjpigffjgmaaGreat
set_option linter.unusedSimpArgs false
set_option linter.unusedVariables false
set_option maxRecDepth 100000
namespace Go.Proofs.YtenfjpigffjgmaaGreat
open Go.RowKit
namespace V
set_option maxHeartbeats 4000000
theorem Qct {P : Program} (n : Nat) {t : TypeId} {a b : Array TypeId} {v : Bool} {f : Fn} {fs cs : Array Value} {w : World} (hT : P.underlying t = some (.func a b v)) : (Op.equalIn (n + 1) t (.func f fs cs) .nilFunc).run P w = .ok false w := by
 simp [Op.equalIn, run_underlying hT]
theorem QdX {P : Program} {t : TypeId} {a b : Array TypeId} {v : Bool} {f : Fn} {fs cs : Array Value} {w : World} (hT : P.underlying t = some (.func a b v)) : (Op.equal t (.func f fs cs) .nilFunc).run P w = .ok false w := Qct 9999 hT
theorem Qle {c : Cx} {E : Env} {R : Hp} {L : List Asn} {ty : TypeId} {p : String} {af : Array Edge} {g : Option (Nat × Bool)} {d : Option Tmp} {x y : Operand} {t t' : TypeId} {a b : Array TypeId} {v : Bool} {f : Fn} {fs cs : Array Value} (hT : c.P.underlying t = some (.func a b v)) (e1 : ev E x = some (.func f fs cs)) (e2 : ev E y = some .nilFunc) :
  Yld c E R L ⟨d, .binOp .eql t x y t', ty, p, af, g⟩ (.bool false) :=
 fun _ w hf _ => by simp [execOp, hf.ev e1, hf.ev e2, eqGuard, binOp, QdX hT, Oper.quietUpon]
theorem Qh2 (l : List (List Asn)) (As : List Asn) : Find (gA As) ((l ++ [As]).map gA) (l.map gA) := by
 induction l with
 | nil => exact .head _
 | cons B l ih => exact .tail ih
theorem Qic {l : List (List Asn)} {As : List Asn} (g : Hp) (k : stars [gA As, Ya l] g) : Ya (l ++ [As]) g := by
 obtain ⟨h1, h2, a, b, c, d, k1, _, a2, _, _, d2, _⟩ := k
 exact (Qh2 l As).back ⟨h1, k1, a, Hp.le_trans a2 b, Hp.dis_le c a2, d, d2⟩
theorem Sat.bigSnoc {L M : List Asn} {R : Hp} {σ : World} {w : World} {l : List (List Asn)} {As : List Asn} (hS : Sub L (As ++ Ya l :: M)) (hs : Sat σ R L w) : Sat σ R (Ya (l ++ [As]) :: M) w :=
 Sat.join (A := Ya (l ++ [As])) (As := [gA As, Ya l]) Qic (Sat.join (A := gA As) (As := As) (fun _ k => k) (hs.sub hS))
theorem Qgq {c : Cx} {ops : Array Oper} {Q : Exit → Act → World → Prop} {E : Env} {R : Hp} {L M : List Asn} {o : List Oper} {l : List (List Asn)} {As : List Asn} (hS : Sub L (As ++ Ya l :: M)) (h : RJ c ops Q o E R (Ya (l ++ [As]) :: M)) : RJ c ops Q o E R L := fun a w hf hs => h a w hf (hs.bigSnoc hS)
def yf (n k : Nat) : GS := ⟨(List.range k).map fun i => Ym i n LG.new DK.new, [], 0, []⟩
theorem jx (n k : Nat) : (yf n k).ms.length = k := by simp [yf]
theorem QhJ {cs : List MV} {ms : List MS} (h : cs.length = ms.length) (c : MV) (m : MS) : ZA cs ms ++ [Yd c m] = ZA (cs ++ [c]) (ms ++ [m]) := by
 unfold ZA
 rw [List.zipWith_append h]; rfl
theorem Qdc (n k : Nat) : (yf n (k + 1)).ms = (yf n k).ms ++ [Ym k n LG.new DK.new] := by simp [yf, List.range_succ]
theorem Ql1 : ZC DK.new.b [] [] LG.new := ⟨rfl, zb, .nil _ LG.new_ok⟩
def mv0 (b : Nat) : MV := ⟨b, ⟨0, 0, 0⟩, 0, NV.new (.slice none 0 0) (.slice none 0 0), .slice none 0 0⟩
theorem Qaf (cs : List MV) (c : MV) : Zz cs ++ [.pointer (some ⟨c.m, 0, none⟩)] = Zz (cs ++ [c]) := by simp [Zz]
theorem QhR {R R' : Hp} {w : GV} {n k : Nat} {c' : MV} (hok : GOk R w (yf n k)) (hwn : w.cs.length = k) (hR : R.le R') (hv : NOk R' c'.v (ND.start k n LG.new)) (va : Value) : GOk R' { w with va := va, cs := w.cs ++ [c'] } (yf n (k + 1)) := by
 refine ⟨by rw [jx]; simp [hwn], fun i c m hc hm => ?_, hok.els.mono hR⟩
 rw [Qdc] at hm
 dsimp only at hc
 by_cases hi : i < k
 ·rw [List.getElem?_append_left (by rw [hwn]; exact hi)] at hc
  rw [List.getElem?_append_left (by rw [jx]; exact hi)] at hm
  exact (hok.nd i c m hc hm).mono hR
 ·rw [List.getElem?_append_right (by omega), hwn] at hc
  rw [List.getElem?_append_right (by rw [jx]; omega), jx] at hm
  by_cases h0 : i - k = 0
  ·rw [h0] at hc hm
   simp at hc hm
   subst hc; subst hm
   have e : (Ym k n LG.new DK.new).x = ND.start k n LG.new := by unfold Ym; split <;> rfl
   rw [e]; exact hv
  ·rw [List.getElem?_eq_none (by simp; omega)] at hc; cases hc
theorem QfO {R : Hp} (n : Nat) (hn : 1 ≤ n ∧ n ≤ 9) : Tri Tryz.prog 19 [.int .i64 (n : Int), fnV] R []
  (fun r R' L' => ∃ w, r = Xa [.pointer (some ⟨w.g, 0, none⟩), .int .i64 0] ∧ GOk R' w (GS.new n) ∧ L' = grL w (GS.new n)) := by
 refine Qn Tryz.func19 rfl Tryz.ntmps19 rfl (fun σ F Q hret hend hpan => ?_)
 try simp only [cA, nA]
 refine Qd fun K1 hK1 => Qc ?_
 refine Ps ?_
 refine Ps ?_
 refine Qe (hK1 _ _ _ (Qd fun K2 hK2 => Qd fun K3 hK3 => Qc ?_))
 refine Pm ?_
 refine Pa ((Yld.to (u := .bool false) (QW rfl rfl) (by rw [decide_eq_false (by omega)]))) ?_
 refine Pm ?_
 refine Pb (Qg rfl) ?_
 refine Pb ((Yld.to (u := .bool false) (XN rfl rfl) (by rw [decide_eq_false (by omega)]))) ?_
 refine Pa (Qp rfl rfl) ?_
 refine Pm ?_
 refine Pb (Qg rfl) ?_
 refine Pb ((Qle Tryz.underlying49 rfl rfl)) ?_
 refine Pa (Qp rfl rfl) ?_
 refine Qe (hK3 _ _ _ (Qt rfl (Qj (hK2 _ _ _ (Qd fun K4 hK4 => Qc ?_)))))
 refine Pm ?_
 refine Ra Tryz.call46 (QiT) ?_
 rintro r R1 L' hR1 ⟨rfl, bn, rfl, rfl⟩
 refine YP (A := slc 81 1 (.slice none 0 0) 0 []) (Yt _ _) ?_
 refine YP (A := ocS (.slice none 0 0) []) (Yt _ _) ?_
 refine YP (A := Ya []) (fun _ => trivial) ?_
 try simp only [cA, nA]
 refine Pa (QX (cells := [_, _, _, _]) [(0, 1), (1, 1), (2, 1), (3, 1)] Tryz.underlying90 Tryz.zeroValue90 (fun _ => rfl) rfl rfl) ?_
 refine Xi (wn0 rfl) rfl rfl rfl (fun bg => ?_)
 refine Ps ?_
 refine Qe (hK4 _ _ _ (Qd fun K5 hK5 => Qd fun K6 hK6 => Qc ?_))
 refine Pm ?_
 refine Pm ?_
 refine Qe (hK6 _ _ _ (Qq ?_))
 refine Ql (E' := (fun (x : Nat × GV × Hp) => [(0, .int .i64 (n : Int)), (6, .pointer (some ⟨x.2.1.g, 0, none⟩)), (23, .int .i64 (n : Int)), (24, .int .i64 (x.1 : Int))]) (0, ⟨bg, .slice none 0 0, bn, .slice none 0 0, [], .slice none 0 0, []⟩, R)) (eC rfl (eC rfl (eC rfl (eC rfl eN)))) ?_
 refine Xm (M := (fun (x : Nat × GV × Hp) => grL x.2.1 (yf n x.1) ++ F) (0, ⟨bg, .slice none 0 0, bn, .slice none 0 0, [], .slice none 0 0, []⟩, R)) sb_ ?_
 refine Xg (fun (x : Nat × GV × Hp) => [(0, .int .i64 (n : Int)), (6, .pointer (some ⟨x.2.1.g, 0, none⟩)), (23, .int .i64 (n : Int)), (24, .int .i64 (x.1 : Int))]) (fun (x : Nat × GV × Hp) => x.2.2) (fun (x : Nat × GV × Hp) => grL x.2.1 (yf n x.1) ++ F) (fun (x : Nat × GV × Hp) => x.1 ≤ n ∧ x.2.1.cs.length = x.1 ∧ GOk x.2.2 x.2.1 (yf n x.1) ∧ R.le x.2.2) (fun (x : Nat × GV × Hp) => n - x.1) (0, ⟨bg, .slice none 0 0, bn, .slice none 0 0, [], .slice none 0 0, []⟩, R) (⟨by simp, rfl, ⟨rfl, fun i c m hc _ => (by simp at hc), Els.nil⟩, Hp.le_refl _⟩) ?_
 rintro ⟨k, w, R4⟩ ⟨hk, hwn, hok, hR4⟩
 try dsimp only
 dsimp only at hk hwn hok hR4
 refine Qd fun K7 hK7 => Qc ?_
 refine Pa (QW rfl rfl) ?_
 refine Qe (hK7 _ _ _ (Qd fun K8 hK8 => ?_))
 refine Qm rfl (fun hc25 => ?_) (fun hc25 => ?_)
 try simp only [dT, dF, nT, nF, tF, fT] at hc25
 refine Qj (hK8 _ _ _ (Qd fun K10 hK10 => Qq (Qd fun K11 hK11 => Qc ?_)))
 refine Pm ?_
 refine Ps ?_
 refine Qe (hK11 _ _ _ (Qd fun K12 hK12 => ?_))
 have hk2 : k < n := by (try simp at hc25); omega
 refine Qc ?_
 refine Ra Tryz.call47 (Qmq) ?_
 rintro r R2 L' hR2 ⟨rfl, bd, u0, rfl, rfl⟩
 try simp only [cA, nA]
 refine Pa (QX (cells := [_, _, _, _]) [(0, 1), (1, 1), (2, 1), (3, 1)] Tryz.underlying87 Tryz.zeroValue87 (fun _ => rfl) rfl rfl) ?_
 refine Xi (wn0 rfl) rfl rfl rfl (fun bm => ?_)
 refine Ps ?_
 refine Qe (hK12 _ _ _ ?_)
 refine Ql (eL 0 rfl (eL 6 rfl (eL 7 rfl (eL 8 rfl (eL 23 rfl (eL 24 rfl eN)))))) ?_
 refine Qd fun K13 hK13 => Qc ?_
 refine Pm ?_
 refine Pm ?_
 refine Pa (Qf rfl) ?_
 refine Pa (Ga Tryz.underlying90 Tryz.sizeOf88) ?_
 first | refine Pa (La o88) ?_ | refine Pa (Ls o88) ?_
 refine Pm ?_
 refine QC (sz := 1) (wn0 rfl) rfl Tryz.underlying88 Tryz.sizeOf81 Tryz.zeroValue81 rfl rfl rfl (by decide) (by decide) (fun bz => ?_)
 refine XP (sz := 1) (by_ := 8) ⟨Tryz.underlying88, _, _, rfl, rfl, rfl, rfl, rfl⟩ (wn0 rfl) rfl rfl rfl fd_ (YS (xs := [.pointer (some ⟨bm, 0, none⟩)]) Tryz.underlying88 fd_ (by (first | (simp [Value.oneCell']; done) | (intro u hu; simp only [List.mem_cons, List.not_mem_nil, or_false] at hu; rcases hu with rfl | rfl | rfl | rfl <;> first | rfl | assumption)))) rfl om_ (by simp only [maxLen]; omega) (fun v37 ho37 hh37 => ?_)
 rw [show Zz w.cs ++ [.pointer (some ⟨bm, 0, none⟩)] = Zz (w.cs ++ [mv0 bm]) from Qaf w.cs (mv0 bm), show w.cs.length + 1 = (w.cs ++ [mv0 bm]).length by simp]
 refine Pa (Qf rfl) ?_
 refine Pa (Ga Tryz.underlying90 Tryz.sizeOf88) ?_
 refine Sa o88 ?_
 refine Qe (hK13 _ _ _ (Qc ?_))
 refine Pm ?_
 refine Pm ?_
 refine Pm ?_
 have hst := Qdk (R := R4) { w with va := v37, cs := w.cs ++ [mv0 bm] } bm bd (.pointer none) .nilIface (.int .u64 0) u0 DK.new [] [] LG.new k n (by simp [← hwn, mv0]) ⟨hk2, hn.2⟩ ⟨rfl, rfl⟩ (by exact ⟨by decide, by decide, by decide, by decide, by decide⟩) rfl Ql1 rfl ⟨rfl, rfl⟩
 rw [show (DK.new.open [] []).2 = DK.new from rfl] at hst
 refine Ra Tryz.call35 (hst) ?_
 rintro r R5 L' hR5 ⟨c', hcm, hv', rfl⟩
 refine Qgq (l := ZA w.cs (yf n k).ms) (As := Yd c' (Ym k n LG.new DK.new)) sb_ ?_
 have hgs : grS { w with va := v37, cs := w.cs ++ [mv0 bm] } = grS { w with va := v37, cs := w.cs ++ [c'] } := by unfold grS; dsimp only; rw [← Qaf w.cs (mv0 bm), ← Qaf w.cs c', hcm]; simp [mv0]
 refine Xo (A := grS { w with va := v37, cs := w.cs ++ [mv0 bm] }) (B := grS { w with va := v37, cs := w.cs ++ [c'] }) fd_ (fun h hh => hgs ▸ hh) ?_
 have hok2 : GOk R5 { w with va := v37, cs := w.cs ++ [c'] } (yf n (k + 1)) := QhR hok hwn hR5 hv' v37
 rw [QhJ hok.len, ← Qdc]
 try simp only [cA, nA]
 refine Qe (hK10 _ _ _ (Qc ?_))
 first | refine Pa (Qy rfl rfl om_) ?_ | refine Pa (QS rfl rfl) ?_
 refine Pm ?_
 refine Qe ?_
 refine Xs (q' := Xe _ _ _ _ _ _ _) rfl ?_
 refine QM ((k + 1, { w with va := v37, cs := w.cs ++ [c'] }, R5)) (⟨by dsimp only; omega, by simp [hwn], hok2, Hp.le_trans hR4 hR5⟩) (by dsimp only; omega) (eC rfl (eC rfl (eC rfl (eC rfl eN)))) rfl sb_
 try simp only [dT, dF, nT, nF, tF, fT] at hc25
 refine QQ (hK5 _ _ _ (Qd fun K14 hK14 => ?_))
 obtain rfl : k = n := by (try simp at hc25); omega
 refine Qc ?_
 refine Pm ?_
 refine Ps ?_
 refine Ps ?_
 refine Qe (hK14 _ _ _ (Qi (hret _ _ _ ?_)))
 apply XT Tryz.results19 (.cons (Qh rfl) (.cons (Qh rfl) .nil)) _ (grL w (yf k k)) hR4 rfl
 case hp => exact ⟨w, rfl, hok, rfl⟩
 case hS => exact sb_
end V
end Go.Proofs.YtenfjpigffjgmaaGreat
set_option linter.unusedSimpArgs false
set_option linter.unusedVariables false
set_option maxRecDepth 100000
namespace Go.Proofs.YtenfjpigffjgmaaGreat
open Go.RowKit
namespace V
set_option maxHeartbeats 4000000
theorem QTri.split {P : Program} {f : FuncId} {args : List Value} {R : Hp} {L pre F : List Asn} {v : Value} (h : QTri P f args R pre v) (s : Split L pre F) : QTri P f args R L v := fun σ G w hs => by
 have s2 := s.app G
 refine (h σ (F ++ G) w (s2.sat hs)).mono fun e w' ⟨he, hw⟩ => ⟨he, s2.satBack hw⟩
theorem QTri.mem {P : Program} {f : FuncId} {args : List Value} {R : Hp} {cs : List MV} {ms : List MS} {i : Nat} {c : MV} {m : MS} {pre F : List Asn} {v : Value} (hc : cs[i]? = some c) (hm : ms[i]? = some m) (h : QTri P f args R pre v) (s : Split (Yd c m) pre F) : QTri P f args R [Ya (ZA cs ms)] v :=
 QTri.big (qH hc hm) (h.split (by simpa using s))
@[reducible] def grA (w : GV) (G : GS) : Asn := Ya (ZA w.cs G.ms)
section
variable {R : Hp} {w : GV} {G : GS} {i : Nat} {c : MV} {m : MS}
theorem QcH (hc : w.cs[i]? = some c) (hm : G.ms[i]? = some m) : QTri Tryz.prog 22 [.pointer (some ⟨w.g, 0, none⟩), .int .i64 (i : Int)] R [grA w G, grB w, grS w] (.pointer (some ⟨c.b.x, 0, none⟩)) := QTri.big (qH hc hm) (Qi4 w c m i hc)
theorem QgM (hc : w.cs[i]? = some c) (hm : G.ms[i]? = some m) : QTri Tryz.prog 18 [.pointer (some ⟨w.g, 0, none⟩), .int .i64 (i : Int)] R [grA w G, grB w, grS w] (.int .u64 m.ap) := QTri.big (qH hc hm) (Qfj w c m i hc)
theorem Qex (hc : w.cs[i]? = some c) (hm : G.ms[i]? = some m) : QTri Tryz.prog 17 [.pointer (some ⟨w.g, 0, none⟩), .int .i64 (i : Int)] R [grA w G, grB w, grS w] c.vl := QTri.big (qH hc hm) (QmG w c m i hc)
theorem Qdl (hc : w.cs[i]? = some c) (hm : G.ms[i]? = some m) : QTri Tryz.prog 58 [.pointer (some ⟨c.b.x, 0, none⟩)] R [grA w G] (.int .i64 m.x.leader) := QTri.mem hc hm (QgD c.b c.v m.x) sp_
theorem QkL (hc : w.cs[i]? = some c) (hm : G.ms[i]? = some m) : QTri Tryz.prog 38 [.pointer (some ⟨c.b.x, 0, none⟩)] R [grA w G] (.int .i64 m.x.role) := QTri.mem hc hm (Qbu c.b c.v m.x) sp_
theorem QhZ (hc : w.cs[i]? = some c) (hm : G.ms[i]? = some m) : QTri Tryz.prog 23 [.pointer (some ⟨c.b.x, 0, none⟩)] R [grA w G] (.pointer (some ⟨c.b.l, 0, none⟩)) := QTri.mem hc hm (Qcy c.b c.v m.x) sp_
theorem QfP (hc : w.cs[i]? = some c) (hm : G.ms[i]? = some m) : QTri Tryz.prog 24 [.pointer (some ⟨c.b.l, 0, none⟩)] R [grA w G] (.int .u64 m.x.g.term) := QTri.mem hc hm (YL c.b.l (some ⟨c.b.d, 0, none⟩) c.v.va m.x.g) sp_
end
theorem QhY {R : Hp} (w : GV) (i : Int) (h : i < 0 ∨ (w.cs.length : Int) ≤ i) : QTri Tryz.prog 22 [.pointer (some ⟨w.g, 0, none⟩), .int .i64 i] R [grB w, grS w] (.pointer none) := by
 have ha := (qo (R := R) w i).eq3 (qS h)
 refine Tri.q ?_
 refine Qn Tryz.func22 rfl Tryz.ntmps22 rfl (fun σ F Q hret hend hpan => ?_)
 try simp only [cA, nA]
 refine Qd fun K1 hK1 => Qc ?_
 refine Ps ?_
 refine Qe (hK1 _ _ _ (Qd fun K2 hK2 => Qd fun K3 hK3 => Qc ?_))
 refine Pm ?_
 refine Pm ?_
 refine Pa (Ca Tryz.call33 (ha)) ?_
 refine Ps ?_
 refine Qe (hK3 _ _ _ (Qd fun K4 hK4 => Qc ?_))
 refine Pm ?_
 refine Pa (ZM Tryz.underlying81 rfl rfl) ?_
 refine Qe (hK4 _ _ _ (Qt rfl (Qj (hK2 _ _ _ ?_))))
 refine Ql eN ?_
 refine Qd fun K5 hK5 => Qc ?_
 refine Ps ?_
 refine Qe (hK5 _ _ _ (Qi (hret _ _ _ ?_)))
 refine Ea Tryz.results22 (.cons (Qh rfl) .nil) [grB w, grS w] le_ ?_
 exact ⟨rfl, rfl, rfl⟩
theorem ndNoRole_q {R : Hp} : QTri Tryz.prog 38 [.pointer none] R [] (.int .i64 0) := by
 refine Tri.q ?_
 refine Qn Tryz.func38 rfl Tryz.ntmps38 rfl (fun σ F Q hret hend hpan => ?_)
 try simp only [cA, nA]
 refine Qd fun K1 hK1 => Qc ?_
 refine Ps ?_
 refine Qe (hK1 _ _ _ (Qd fun K2 hK2 => Qd fun K3 hK3 => Qc ?_))
 refine Pm ?_
 refine Pa (Yb Tryz.underlying56 rfl rfl) ?_
 refine Qe (hK3 _ _ _ (Qz rfl (Qd fun K4 hK4 => Qc ?_)))
 refine Ps ?_
 refine Qe (hK4 _ _ _ (Qi (hret _ _ _ ?_)))
 refine Ea Tryz.results38 (.cons (Qh rfl) .nil) [] le_ ?_
 exact ⟨rfl, rfl, rfl⟩
def GS.leader (G : GS) (i : Nat) : Int := match G.ms[i]? with | some m => m.x.leader | none => -1
def GS.term (G : GS) (i : Nat) : Int := match G.ms[i]? with | some m => m.x.g.term | none => 0
def GS.role (G : GS) (i : Int) : Int := if 0 ≤ i then (match G.ms[i.toNat]? with | some m => m.x.role | none => 0) else 0
def GS.alike (G : GS) (k : Nat) : Bool := (List.range k).all fun i => decide (G.leader i = G.leader 0 ∧ G.term i = G.term 0)
def GS.leads (G : GS) (n : Nat) : Int × Bool := if G.alike n = true then (G.leader 0, decide (¬ G.leader 0 = -1) && decide (G.role (G.leader 0) = 2)) else (-1, false)
theorem QgZ {G : GS} {k : Nat} (h : G.alike k = true) : G.alike (k + 1) = decide (G.leader k = G.leader 0 ∧ G.term k = G.term 0) := by
 unfold GS.alike at *
 rw [List.range_succ, List.all_append, h]; simp
theorem QeX {G : GS} {k n : Nat} (hk : k < n) (h : ¬ (G.leader k = G.leader 0 ∧ G.term k = G.term 0)) : ¬ G.alike n = true := fun ha => by
 unfold GS.alike at ha
 rw [List.all_eq_true] at ha
 exact h (of_decide_eq_true (ha k (by simpa using hk)))
theorem GS.at_l {G : GS} {i : Nat} {m : MS} (hm : G.ms[i]? = some m) : G.leader i = m.x.leader ∧ G.term i = m.x.g.term ∧ G.role (i : Int) = m.x.role := by
 unfold GS.leader GS.term GS.role
 rw [if_pos (by omega), Int.toNat_natCast, hm]
 exact ⟨rfl, rfl, rfl⟩
theorem QkM {R : Hp} {w : GV} {G : GS} (hl : w.cs.length = G.ms.length) (i : Int) : ∃ p, QTri Tryz.prog 22 [.pointer (some ⟨w.g, 0, none⟩), .int .i64 i] R [grA w G, grB w, grS w] (.pointer p) ∧ QTri Tryz.prog 38 [.pointer p] R [grA w G] (.int .i64 (G.role i)) := by
 by_cases h : 0 ≤ i ∧ i < G.ms.length
 ·obtain ⟨i, rfl⟩ := Int.eq_ofNat_of_zero_le h.1
  obtain ⟨m, hm⟩ : ∃ m, G.ms[i]? = some m := ⟨_, List.getElem?_eq_getElem (by omega)⟩
  obtain ⟨c, hc⟩ : ∃ c, w.cs[i]? = some c := ⟨_, List.getElem?_eq_getElem (by omega)⟩
  exact ⟨_, QcH hc hm, by rw [(GS.at_l hm).2.2]; exact QkL hc hm⟩
 ·refine ⟨none, (QhY w i (by omega)).split (F := [grA w G]) sp_, ?_⟩
  have e : G.role i = 0 := by
   unfold GS.role
   by_cases h0 : 0 ≤ i
   ·rw [if_pos h0, List.getElem?_eq_none (by omega)]
   ·rw [if_neg h0]
  rw [e]
  exact ndNoRole_q.split (F := [grA w G]) sp_
theorem QkD {R : Hp} (w : GV) (G : GS) (n : Nat) (hl : w.cs.length = G.ms.length) (hn : 0 < n ∧ n ≤ G.ms.length) (hn9 : n ≤ 9) : QTri Tryz.prog 36 [.pointer (some ⟨w.g, 0, none⟩), .int .i64 (n : Int)] R [grA w G, grB w, grS w] (Xa [.int .i64 (G.leads n).1, .bool (G.leads n).2]) := by
 obtain ⟨m0, hm0⟩ : ∃ m, G.ms[0]? = some m := ⟨_, List.getElem?_eq_getElem (by omega)⟩
 obtain ⟨c0, hc0⟩ : ∃ c, w.cs[0]? = some c := ⟨_, List.getElem?_eq_getElem (by omega)⟩
 obtain ⟨l0, t0, _⟩ := GS.at_l hm0
 have hnd0 := QcH (R := R) (i := 0) hc0 hm0
 obtain ⟨pw, hpw, hpr⟩ := QkM (R := R) hl (G.leader 0)
 refine Tri.q ?_
 refine Qn Tryz.func36 rfl Tryz.ntmps36 rfl (fun σ F Q hret hend hpan => ?_)
 try simp only [cA, nA]
 refine Qd fun K1 hK1 => Qc ?_
 refine Ps ?_
 refine Ps ?_
 refine Qe (hK1 _ _ _ (Qd fun K2 hK2 => Qc ?_))
 refine Pm ?_
 refine Pa (Ca Tryz.call22 (hnd0)) ?_
 refine Pa (Ca Tryz.call58 ((Qdl hc0 hm0).eq3 (by rw [← l0]))) ?_
 refine Ps ?_
 refine Qe (hK2 _ _ _ (Qd fun K3 hK3 => Qd fun K4 hK4 => Qc ?_))
 refine Pm ?_
 refine Pm ?_
 refine Qe (hK4 _ _ _ (Qq ?_))
 refine Ql (E' := (fun (x : Nat) => [(0, .pointer (some ⟨w.g, 0, none⟩)), (6, .int .i64 (G.leader 0)), (12, .int .i64 (n : Int)), (13, .int .i64 (x : Int))]) 0) (eC rfl (eC rfl (eC rfl (eC rfl eN)))) ?_
 refine Xm (M := (fun (x : Nat) => grA w G :: grB w :: grS w :: F) 0) sb_ ?_
 refine Xg (fun (x : Nat) => [(0, .pointer (some ⟨w.g, 0, none⟩)), (6, .int .i64 (G.leader 0)), (12, .int .i64 (n : Int)), (13, .int .i64 (x : Int))]) (fun (x : Nat) => R) (fun (x : Nat) => grA w G :: grB w :: grS w :: F) (fun (x : Nat) => x ≤ n ∧ G.alike x = true) (fun (x : Nat) => n - x) 0 (⟨by omega, rfl⟩) ?_
 rintro k ⟨hk, ha⟩
 try dsimp only
 refine Qd fun K5 hK5 => Qc ?_
 refine Pa (QW rfl rfl) ?_
 refine Qe (hK5 _ _ _ (Qd fun K6 hK6 => ?_))
 refine Qm rfl (fun hc14 => ?_) (fun hc14 => ?_)
 try simp only [dT, dF, nT, nF, tF, fT] at hc14
 refine Qj (hK6 _ _ _ (Qd fun K8 hK8 => Qq (Qd fun K9 hK9 => Qc ?_)))
 refine Pm ?_
 refine Ps ?_
 refine Qe (hK9 _ _ _ (Qd fun K10 hK10 => ?_))
 have hk2 : k < n := by (try simp at hc14); omega
 obtain ⟨m, hm⟩ : ∃ m, G.ms[k]? = some m := ⟨_, List.getElem?_eq_getElem (by omega)⟩
 obtain ⟨c, hc⟩ : ∃ c, w.cs[k]? = some c := ⟨_, List.getElem?_eq_getElem (by omega)⟩
 obtain ⟨lk, tk, _⟩ := GS.at_l hm
 refine Qc ?_
 refine Pm ?_
 refine Pm ?_
 refine Pa (Ca Tryz.call22 (QcH hc hm)) ?_
 refine Ps ?_
 refine Qe (hK10 _ _ _ (Qd fun K11 hK11 => Qc ?_))
 refine Pm ?_
 refine Pa (Ca Tryz.call58 ((Qdl hc hm).eq3 (by rw [← lk]))) ?_
 refine Pm ?_
 refine Pa (XY rfl rfl) ?_
 refine Pm ?_
 refine QL 23 rfl (fun hg23 => ?_) (fun hg23 => ?_)
 try simp only [dT, dF, nT, nF, tF, fT] at hg23
 refine Pk ?_
 refine Pk ?_
 refine Pk ?_
 refine Pk ?_
 refine Pk ?_
 refine Pk ?_
 refine Pk ?_
 refine Pk ?_
 refine Pa (Qr rfl rfl) ?_
 refine Qe (hK11 _ _ _ ?_)
 refine Ql (eL 0 rfl (eL 6 rfl (eL 12 rfl (eL 13 rfl (eL 32 rfl eN))))) ?_
 refine Qz rfl (Qd fun K12 hK12 => Qc ?_)
 refine Ps ?_
 refine Ps ?_
 refine Qe (hK12 _ _ _ (Qi (hret _ _ _ ?_)))
 refine Ea Tryz.results36 (.cons (Qh rfl) (.cons (Qh rfl) .nil)) [grA w G, grB w, grS w] le_ ?_
 have hno : ¬ (G.leader k = G.leader 0 ∧ G.term k = G.term 0) := by simp_all
 rw [show G.leads n = (-1, false) by unfold GS.leads; rw [if_neg (QeX hk2 hno)]]; exact ⟨rfl, rfl, rfl⟩
 try simp only [dT, dF, nT, nF, tF, fT] at hg23
 refine Pb (Qg rfl) ?_
 refine Pb (Ca Tryz.call23 (QhZ hc hm)) ?_
 refine Pb (Ca Tryz.call24 ((QfP hc hm).eq3 (by rw [← tk]))) ?_
 refine Pb (Qg rfl) ?_
 refine Pb (Ca Tryz.call22 (hnd0)) ?_
 refine Pb (Ca Tryz.call23 (QhZ hc0 hm0)) ?_
 refine Pb (Ca Tryz.call24 ((QfP hc0 hm0).eq3 (by rw [← t0]))) ?_
 refine Pb (XY rfl rfl) ?_
 refine Pa (Qp rfl rfl) ?_
 refine Qe (hK11 _ _ _ ?_)
 refine Qm rfl (fun hc32 => ?_) (fun hc32 => ?_)
 try simp only [dT, dF, nT, nF, tF, fT] at hc32
 refine Qd fun K14 hK14 => Qc ?_
 refine Ps ?_
 refine Ps ?_
 refine Qe (hK14 _ _ _ (Qi (hret _ _ _ ?_)))
 refine Ea Tryz.results36 (.cons (Qh rfl) (.cons (Qh rfl) .nil)) [grA w G, grB w, grS w] le_ ?_
 have hno : ¬ (G.leader k = G.leader 0 ∧ G.term k = G.term 0) := by simp_all
 rw [show G.leads n = (-1, false) by unfold GS.leads; rw [if_neg (QeX hk2 hno)]]; exact ⟨rfl, rfl, rfl⟩
 try simp only [dT, dF, nT, nF, tF, fT] at hc32
 refine Qj (hK8 _ _ _ (Qc ?_))
 first | refine Pa (Qy rfl rfl om_) ?_ | refine Pa (QS rfl rfl) ?_
 refine Pm ?_
 refine Qe ?_
 refine Xs (q' := Xe _ _ _ _ _ _ _) rfl ?_
 refine QM (k + 1) (⟨by omega, by rw [QgZ ha]; simp_all⟩) (by omega) (eC rfl (eC rfl (eC rfl (eC rfl eN)))) rfl sb_
 try simp only [dT, dF, nT, nF, tF, fT] at hc14
 refine QQ (hK3 _ _ _ (Qd fun K15 hK15 => ?_))
 have hkn : k = n := by (try simp at hc14); omega
 have el : G.leads n = (G.leader 0, decide (¬ G.leader 0 = -1) && decide (G.role (G.leader 0) = 2)) := by unfold GS.leads; rw [if_pos (by rw [← hkn]; exact ha)]
 refine Qc ?_
 refine Pm ?_
 refine Pm ?_
 refine Pa (XY rfl rfl) ?_
 refine Pm ?_
 refine QL 37 rfl (fun hg37 => ?_) (fun hg37 => ?_)
 try simp only [dT, dF, nT, nF, tF, fT] at hg37
 refine Pb (Qg rfl) ?_
 refine Pb (Qg rfl) ?_
 refine Pb (Ca Tryz.call22 (hpw)) ?_
 refine Pb (Ca Tryz.call38 (hpr)) ?_
 refine Pb (QR rfl rfl) ?_
 refine Pa (Qr rfl rfl) ?_
 refine Ps ?_
 refine Ps ?_
 refine Qe (hK15 _ _ _ ?_)
 refine Ql (eL 4 rfl (eL 5 rfl eN)) ?_
 refine Qi (hret _ _ _ ?_)
 refine Ea Tryz.results36 (.cons (Qh rfl) (.cons (Qh rfl) .nil)) [grA w G, grB w, grS w] le_ ?_
 refine ⟨?_, rfl, rfl⟩; rw [el]; simp_all [Xa]
 try simp only [dT, dF, nT, nF, tF, fT] at hg37
 refine Pk ?_
 refine Pk ?_
 refine Pk ?_
 refine Pk ?_
 refine Pk ?_
 refine Pa (Qp rfl rfl) ?_
 refine Ps ?_
 refine Ps ?_
 refine Qe (hK15 _ _ _ (Qi (hret _ _ _ ?_)))
 refine Ea Tryz.results36 (.cons (Qh rfl) (.cons (Qh rfl) .nil)) [grA w G, grB w, grS w] le_ ?_
 refine ⟨?_, rfl, rfl⟩; rw [el]; simp_all [Xa]
end V
end Go.Proofs.YtenfjpigffjgmaaGreat
set_option linter.unusedSimpArgs false
set_option linter.unusedVariables false
set_option maxRecDepth 100000
namespace Go.Proofs.YtenfjpigffjgmaaGreat
open Go.RowKit
namespace V
set_option maxHeartbeats 4000000
def GS.drop (G : GS) (k : Int) : GS := { G with st := YV G.st k }
def GS.twice (G : GS) (k : Int) : GS := { G with st := twL G.st G.last k, last := twN G.st G.last k }
def GS.outs (G : GS) : GS := { G with out := [] }
structure Bud (n C : Nat) (J : Nat → Nat → GS → Prop) : Prop where
 gw : ∀ c d G, J c d G → GW G
 ln : ∀ c d G, J c d G → G.ms.length = n
 le : ∀ c d G, J (c + 1) d G → J c d G
 le2 : ∀ c d G, J c (d + 1) G → J c d G
 tick : ∀ c d G i, i < n → J (c + 1) (d + 1) G → J c d (G.tick i)
 del : ∀ c d G k, J (c + 1) d G → J c d (G.deliver k)
 prop : ∀ c d G i cmd, i < n → cmd.length ≤ 100 → J (c + 1) (d + 1) G → J c d (G.propose i cmd).2
 comp : ∀ c d G i, i < n → J (c + 1) d G → J c d (G.compact i).2
 fuel : ∀ c d G i k, i < n → Qer k → J (c + 1) d G → J c d (G.fuel i k)
 opens : ∀ (c d : Nat) (G : GS) (i : Nat) (m : MS) (k : Int), J (c + 1) d G → G.ms[i]? = some m → QdC m.D k
 crash : ∀ c d G i k, i < n → J (c + 1) d G → J c d (G.crash i k)
 drop : ∀ c d G k, J (c + 1) d G → J c d (G.drop k)
 twice : ∀ c d G k, J (c + 1) d G → J c d (G.twice k)
 last : ∀ c d G, J c d G → G.last + n * c ≤ n * C ∧ G.st.length + n * c ≤ n * C
 outs : ∀ c d G, J c d G → J c d G.outs
theorem Bud.les {n C : Nat} {J : Nat → Nat → GS → Prop} (h : Bud n C J) {G : GS} {d : Nat} : ∀ (k : Nat) {c : Nat}, J (c + k) d G → J c d G
 | 0, _, hj => hj
 | k + 1, c, hj => h.les k (h.le _ _ _ (by rw [show c + k + 1 = c + (k + 1) by omega]; exact hj))
theorem Bud.les2 {n C : Nat} {J : Nat → Nat → GS → Prop} (h : Bud n C J) {G : GS} {c : Nat} : ∀ (k : Nat) {d : Nat}, J c (d + k) G → J c d G
 | 0, _, hj => hj
 | k + 1, d, hj => h.les2 k (h.le2 _ _ _ (by rw [show d + k + 1 = d + (k + 1) by omega]; exact hj))
theorem Bud.leq {n C : Nat} {J : Nat → Nat → GS → Prop} (h : Bud n C J) {G : GS} {c c' d d' : Nat} (hc : c ≤ c') (hd : d ≤ d') (hj : J c' d' G) : J c d G :=
 h.les (c' - c) (h.les2 (d' - d) (by rw [show c + (c' - c) = c' by omega, show d + (d' - d) = d' by omega]; exact hj))
def GS.ticks (G : GS) (k : Nat) : GS := (List.range k).foldl GS.tick G
theorem ZY (G : GS) (k : Nat) : G.ticks (k + 1) = (G.ticks k).tick k := by unfold GS.ticks; rw [List.range_succ, List.foldl_append]; rfl
def GS.del1 (G : GS) : GS := if G.st.length > 0 then G.deliver 0 else G
def GS.dels (G : GS) : Nat → GS
 | 0 => G
 | k + 1 => (G.dels k).del1
theorem Qdp {G : GS} {k : Nat} (h : (G.dels k).st.length = 0) : ∀ j, G.dels (k + j) = G.dels k
 | 0 => rfl
 | j + 1 => by
  show (G.dels (k + j)).del1 = _
  rw [Qdp h j]
  unfold GS.del1
  rw [if_neg (by omega)]
theorem zn {G : GS} {k n : Nat} (hk : k ≤ n) (h : (G.dels k).st.length = 0) : G.dels n = G.dels k := by
 have := Qdp h (n - k)
 rw [show k + (n - k) = n by omega] at this
 exact this
def GS.round (G : GS) (n : Nat) : GS := (G.ticks n).dels 200
def GS.rounds (G : GS) (n : Nat) : Nat → GS
 | 0 => G
 | k + 1 => (G.rounds n k).round n
theorem Bud.ticks {n C : Nat} {J : Nat → Nat → GS → Prop} (h : Bud n C J) {G : GS} {c d : Nat} : ∀ {k : Nat}, k ≤ n → J (c + k) (d + k) G → J c d (G.ticks k)
 | 0, _, hj => hj
 | k + 1, hk, hj => by
  rw [ZY]
  exact h.tick _ _ _ _ (by omega) (h.ticks (c := c + 1) (d := d + 1) (by omega) (by rw [show c + 1 + k = c + (k + 1) by omega, show d + 1 + k = d + (k + 1) by omega]; exact hj))
theorem Bud.dels {n C : Nat} {J : Nat → Nat → GS → Prop} (h : Bud n C J) {G : GS} {d : Nat} : ∀ {k c : Nat}, J (c + k) d G → J c d (G.dels k)
 | 0, _, hj => hj
 | k + 1, c, hj => by
  have h1 := h.dels (k := k) (c := c + 1) (by rw [show c + 1 + k = c + (k + 1) by omega]; exact hj)
  show J c d (G.dels k).del1
  unfold GS.del1
  split
  ·exact h.del _ _ _ _ h1
  ·exact h.le _ _ _ h1
theorem Bud.round {n C : Nat} {J : Nat → Nat → GS → Prop} (h : Bud n C J) {G : GS} {c d : Nat} (hj : J (c + (n + 200)) (d + n) G) : J c d (G.round n) :=
 h.dels (h.ticks (Nat.le_refl n) (by rw [show c + 200 + n = c + (n + 200) by omega]; exact hj))
theorem Bud.rounds {n C : Nat} {J : Nat → Nat → GS → Prop} (h : Bud n C J) {G : GS} : ∀ {k c d : Nat}, J (c + k * (n + 200)) (d + k * n) G → J c d (G.rounds n k)
 | 0, c, d, hj => by simpa [GS.rounds] using hj
 | k + 1, c, d, hj => h.round (h.rounds (k := k) (by rw [show c + (n + 200) + k * (n + 200) = c + (k + 1) * (n + 200) by rw [Nat.add_mul]; omega, show d + n + k * n = d + (k + 1) * n by rw [Nat.add_mul]; omega]; exact hj))
theorem ze {R : Hp} (w : GV) (G : GS) (n r c d C : Nat) {J : Nat → Nat → GS → Prop} (hB : Bud n C J) (hn : 0 < n ∧ n ≤ 9) (hr : r ≤ 1000) (hok : GOk R w G) (hj : J (c + r * (n + 200)) (d + r * n) G) :
  Tri Tryz.prog 13 [.pointer (some ⟨w.g, 0, none⟩), .int .i64 (n : Int), .int .i64 (r : Int)] R (grL w G)
   (fun x R' L' => x = Xa [.int .i64 ((G.rounds n r).leads n).1, .bool ((G.rounds n r).leads n).2] ∧ GrP w (G.rounds n r) R' L') := by
 refine Qn Tryz.func13 rfl Tryz.ntmps13 rfl (fun σ F Q hret hend hpan => ?_)
 try simp only [cA, nA]
 refine Qd fun K1 hK1 => Qc ?_
 refine Ps ?_
 refine Ps ?_
 refine Qe (hK1 _ _ _ (Qd fun K2 hK2 => Qd fun K3 hK3 => Qc ?_))
 refine Pm ?_
 refine Pm ?_
 refine Qe (hK3 _ _ _ (Qq ?_))
 refine Ql (E' := (fun (x : Nat × GV × Hp) => [(0, .pointer (some ⟨w.g, 0, none⟩)), (1, .int .i64 (n : Int)), (10, .int .i64 (r : Int)), (11, .int .i64 (x.1 : Int))]) (0, w, R)) (eC rfl (eC rfl (eC rfl (eC rfl eN)))) ?_
 refine Xm (M := (fun (x : Nat × GV × Hp) => grL x.2.1 (G.rounds n x.1) ++ F) (0, w, R)) sb_ ?_
 refine Xg (fun (x : Nat × GV × Hp) => [(0, .pointer (some ⟨w.g, 0, none⟩)), (1, .int .i64 (n : Int)), (10, .int .i64 (r : Int)), (11, .int .i64 (x.1 : Int))]) (fun (x : Nat × GV × Hp) => x.2.2) (fun (x : Nat × GV × Hp) => grL x.2.1 (G.rounds n x.1) ++ F) (fun (x : Nat × GV × Hp) => x.1 ≤ r ∧ (∃ vn css vo cs, x.2.1 = ⟨w.g, w.va, w.n, vn, css, vo, cs⟩) ∧ GOk x.2.2 x.2.1 (G.rounds n x.1) ∧ J (c + (r - x.1) * (n + 200)) (d + (r - x.1) * n) (G.rounds n x.1) ∧ R.le x.2.2) (fun (x : Nat × GV × Hp) => r - x.1) (0, w, R) (⟨by simp, ⟨_, _, _, _, rfl⟩, hok, by simpa [GS.rounds] using hj, Hp.le_refl _⟩) ?_
 rintro ⟨k, w1, R1⟩ ⟨hk, hg1, hok1, hj1, hR1⟩
 try dsimp only
 dsimp only at hk hg1 hok1 hj1 hR1
 obtain ⟨vn1, css1, vo1, cs1, rfl⟩ := hg1
 refine Qd fun K4 hK4 => Qc ?_
 refine Pa (QW rfl rfl) ?_
 refine Qe (hK4 _ _ _ (Qd fun K5 hK5 => ?_))
 refine Qm rfl (fun hc12 => ?_) (fun hc12 => ?_)
 try simp only [dT, dF, nT, nF, tF, fT] at hc12
 refine Qj (hK5 _ _ _ (Qd fun K7 hK7 => Qq (Qd fun K8 hK8 => Qd fun K9 hK9 => ?_)))
 have hk2 : k < r := by (try simp at hc12); omega
 have hj2 : J (c + (r - (k + 1)) * (n + 200) + 200 + n) (d + (r - (k + 1)) * n + n) (G.rounds n k) := by rw [show c + (r - (k + 1)) * (n + 200) + 200 + n = c + (r - k) * (n + 200) by rw [show r - k = (r - (k + 1)) + 1 by omega, Nat.add_mul]; omega, show d + (r - (k + 1)) * n + n = d + (r - k) * n by rw [show r - k = (r - (k + 1)) + 1 by omega, Nat.add_mul]; omega]; exact hj1
 obtain ⟨cc, hcc⟩ : ∃ cc, cc = c + (r - (k + 1)) * (n + 200) := ⟨_, rfl⟩
 obtain ⟨dd, hdd⟩ : ∃ dd, dd = d + (r - (k + 1)) * n := ⟨_, rfl⟩
 rw [← hcc, ← hdd] at hj2
 obtain ⟨G1, hG1⟩ : ∃ G1, G1 = G.rounds n k := ⟨_, rfl⟩
 rw [← hG1] at hj2 hok1 ⊢
 refine Qc ?_
 refine Pm ?_
 refine Pm ?_
 refine Qe (hK9 _ _ _ (Qq ?_))
 refine Ql (E' := (fun (y : Nat × GV × Hp) => [(0, .pointer (some ⟨w.g, 0, none⟩)), (1, .int .i64 (n : Int)), (10, .int .i64 (r : Int)), (11, .int .i64 (k : Int)), (13, .int .i64 (n : Int)), (14, .int .i64 (y.1 : Int))]) (0, ⟨w.g, w.va, w.n, vn1, css1, vo1, cs1⟩, R1)) (eC rfl (eC rfl (eC rfl (eC rfl (eC rfl (eC rfl eN)))))) ?_
 refine Xm (M := (fun (y : Nat × GV × Hp) => grL y.2.1 (G1.ticks y.1) ++ F) (0, ⟨w.g, w.va, w.n, vn1, css1, vo1, cs1⟩, R1)) sb_ ?_
 refine Xg (fun (y : Nat × GV × Hp) => [(0, .pointer (some ⟨w.g, 0, none⟩)), (1, .int .i64 (n : Int)), (10, .int .i64 (r : Int)), (11, .int .i64 (k : Int)), (13, .int .i64 (n : Int)), (14, .int .i64 (y.1 : Int))]) (fun (y : Nat × GV × Hp) => y.2.2) (fun (y : Nat × GV × Hp) => grL y.2.1 (G1.ticks y.1) ++ F) (fun (y : Nat × GV × Hp) => y.1 ≤ n ∧ (∃ vn css vo cs, y.2.1 = ⟨w.g, w.va, w.n, vn, css, vo, cs⟩) ∧ GOk y.2.2 y.2.1 (G1.ticks y.1) ∧ R1.le y.2.2) (fun (y : Nat × GV × Hp) => n - y.1) (0, ⟨w.g, w.va, w.n, vn1, css1, vo1, cs1⟩, R1) (⟨by simp, ⟨_, _, _, _, rfl⟩, hok1, Hp.le_refl _⟩) ?_
 rintro ⟨j, w2, R2⟩ ⟨hj3, hg2, hok2, hR2⟩
 try dsimp only
 dsimp only at hj3 hg2 hok2 hR2
 obtain ⟨vn2, css2, vo2, cs2, rfl⟩ := hg2
 refine Qd fun K10 hK10 => Qc ?_
 refine Pa (QW rfl rfl) ?_
 refine Qe (hK10 _ _ _ (Qd fun K11 hK11 => ?_))
 refine Qm rfl (fun hc15 => ?_) (fun hc15 => ?_)
 try simp only [dT, dF, nT, nF, tF, fT] at hc15
 refine Qj (hK11 _ _ _ (Qd fun K13 hK13 => Qq (Qd fun K14 hK14 => ?_)))
 have hj4 : j < n := by (try simp at hc15); omega
 have hjt := hB.ticks (c := cc + 200 + (n - j)) (d := dd + (n - j)) (k := j) (by omega) (by rw [show cc + 200 + (n - j) + j = cc + 200 + n by omega, show dd + (n - j) + j = dd + n by omega]; exact hj2)
 have hjt2 := hB.tick (cc + 200 + (n - (j + 1))) (dd + (n - (j + 1))) _ j hj4 (by rw [show cc + 200 + (n - (j + 1)) + 1 = cc + 200 + (n - j) by omega, show dd + (n - (j + 1)) + 1 = dd + (n - j) by omega]; exact hjt)
 refine Qc ?_
 refine Pm ?_
 refine Ps ?_
 refine Qe (hK14 _ _ _ (Qc ?_))
 refine Pm ?_
 refine Pm ?_
 refine Ra Tryz.call26 (Qet ⟨w.g, w.va, w.n, vn2, css2, vo2, cs2⟩ (G1.ticks j) j hok2 (by rw [hB.ln _ _ _ hjt]; exact hj4) (hB.gw _ _ _ hjt) (hB.gw _ _ _ hjt2)) ?_
 rintro x R4 L' hR4 ⟨vn4, css4, vo4, cs4, hok4, rfl⟩
 rw [← ZY]
 try simp only [cA, nA]
 refine Qe (hK13 _ _ _ (Qc ?_))
 first | refine Pa (Qy rfl rfl om_) ?_ | refine Pa (QS rfl rfl) ?_
 refine Pm ?_
 refine Qe ?_
 refine Xs (q' := Xe _ _ _ _ _ _ _) rfl ?_
 refine QM ((j + 1, ⟨w.g, w.va, w.n, vn4, css4, vo4, cs4⟩, R4)) (⟨by dsimp only; omega, ⟨_, _, _, _, rfl⟩, by dsimp only; rw [ZY]; exact hok4, Hp.le_trans hR2 hR4⟩) (by dsimp only; omega) (eC rfl (eC rfl (eC rfl (eC rfl (eC rfl (eC rfl eN)))))) rfl sb_
 try simp only [dT, dF, nT, nF, tF, fT] at hc15
 refine QQ (hK8 _ _ _ (Qd fun K15 hK15 => ?_))
 have hjn0 : j = n := by (try simp at hc15); omega
 have hjt := hB.ticks (c := cc + 200) (d := dd) (k := n) (Nat.le_refl n) hj2
 rw [hjn0] at hok2 ⊢
 obtain ⟨G2, hG2⟩ : ∃ G2, G2 = G1.ticks n := ⟨_, rfl⟩
 rw [← hG2] at hjt hok2 ⊢
 refine Qc ?_
 refine Ps ?_
 refine Qe (hK15 _ _ _ (Qq ?_))
 refine Ql (E' := (fun (z : Nat × GV × Hp) => [(0, .pointer (some ⟨w.g, 0, none⟩)), (1, .int .i64 (n : Int)), (9, .int .i64 (z.1 : Int)), (10, .int .i64 (r : Int)), (11, .int .i64 (k : Int))]) (0, ⟨w.g, w.va, w.n, vn2, css2, vo2, cs2⟩, R2)) (eC rfl (eC rfl (eC rfl (eC rfl (eC rfl eN))))) ?_
 refine Xm (M := (fun (z : Nat × GV × Hp) => grL z.2.1 (G2.dels z.1) ++ F) (0, ⟨w.g, w.va, w.n, vn2, css2, vo2, cs2⟩, R2)) sb_ ?_
 refine Xg (fun (z : Nat × GV × Hp) => [(0, .pointer (some ⟨w.g, 0, none⟩)), (1, .int .i64 (n : Int)), (9, .int .i64 (z.1 : Int)), (10, .int .i64 (r : Int)), (11, .int .i64 (k : Int))]) (fun (z : Nat × GV × Hp) => z.2.2) (fun (z : Nat × GV × Hp) => grL z.2.1 (G2.dels z.1) ++ F) (fun (z : Nat × GV × Hp) => z.1 ≤ 200 ∧ (∃ vn css vo cs, z.2.1 = ⟨w.g, w.va, w.n, vn, css, vo, cs⟩) ∧ GOk z.2.2 z.2.1 (G2.dels z.1) ∧ R2.le z.2.2) (fun (z : Nat × GV × Hp) => 200 - z.1) (0, ⟨w.g, w.va, w.n, vn2, css2, vo2, cs2⟩, R2) (⟨by simp, ⟨_, _, _, _, rfl⟩, hok2, Hp.le_refl _⟩) ?_
 rintro ⟨q, w3, R3⟩ ⟨hq, hg3, hok3, hR3⟩
 try dsimp only
 dsimp only at hq hg3 hok3 hR3
 obtain ⟨vn3, css3, vo3, cs3, rfl⟩ := hg3
 refine Qd fun K16 hK16 => Qd fun K17 hK17 => Qc ?_
 refine Pm ?_
 refine Pa (QW rfl rfl) ?_
 refine Pm ?_
 refine QL 23 rfl (fun hg23 => ?_) (fun hg23 => ?_)
 try simp only [dT, dF, nT, nF, tF, fT] at hg23
 refine Pb (Qg rfl) ?_
 refine Pb (Ca Tryz.call28 (QcF ⟨w.g, w.va, w.n, vn3, css3, vo3, cs3⟩)) ?_
 refine Pb (Ca Tryz.call29 (jy w.n vn3 (G2.dels q).last (G2.dels q).st css3)) ?_
 refine Pb (XN rfl rfl) ?_
 refine Pa (Qr rfl rfl) ?_
 refine Qe (hK17 _ _ _ ?_)
 refine Ql (eL 0 rfl (eL 1 rfl (eL 9 rfl (eL 10 rfl (eL 11 rfl (eL 28 rfl eN)))))) ?_
 refine Qm rfl (fun hc28 => ?_) (fun hc28 => ?_)
 try simp only [dT, dF, nT, nF, tF, fT] at hc28
 refine Qj (hK16 _ _ _ (Qd fun K19 hK19 => Qq ?_))
 have hq2 : q < 200 := by (try simp at hg23); omega
 have hln : (G2.dels q).st.length > 0 := by (try simp at hc28); omega
 have hd1 : (G2.dels q).deliver 0 = G2.dels (q + 1) := by show _ = (G2.dels q).del1; unfold GS.del1; rw [if_pos hln]
 have hjd := hB.dels (c := cc + (200 - q)) (k := q) (by rw [show cc + (200 - q) + q = cc + 200 by omega]; exact hjt)
 have hjd2 := hB.del (cc + (200 - (q + 1))) dd _ 0 (by rw [show cc + (200 - (q + 1)) + 1 = cc + (200 - q) by omega]; exact hjd)
 refine Qc ?_
 refine Pm ?_
 refine Ra Tryz.call31 (Qa9 ⟨w.g, w.va, w.n, vn3, css3, vo3, cs3⟩ (G2.dels q) 0 hok3 (hB.gw _ _ _ hjd) (hB.gw _ _ _ hjd2)) ?_
 rintro x R5 L' hR5 ⟨rfl, vn5, css5, vo5, cs5, hok5, rfl⟩
 rw [hd1]
 try simp only [cA, nA]
 refine Qe (hK19 _ _ _ (Qc ?_))
 refine Pm ?_
 first | refine Pa (Qy rfl rfl om_) ?_ | refine Pa (QS rfl rfl) ?_
 refine Ps ?_
 refine Qe ?_
 refine Xs (q' := Xe _ _ _ _ _ _ _) rfl ?_
 refine QM ((q + 1, ⟨w.g, w.va, w.n, vn5, css5, vo5, cs5⟩, R5)) (⟨by dsimp only; omega, ⟨_, _, _, _, rfl⟩, by dsimp only; rw [hd1] at hok5; exact hok5, Hp.le_trans hR3 hR5⟩) (by dsimp only; omega) (eC rfl (eC rfl (eC rfl (eC rfl (eC rfl eN))))) rfl sb_
 try simp only [dT, dF, nT, nF, tF, fT] at hc28
 refine QQ (hK7 _ _ _ ?_)
 have hfin : G2.dels q = G2.dels 200 := by first | (exact (zn (by omega) (by omega)).symm) | (rw [show q = 200 by omega])
 have hrd : G2.dels 200 = G.rounds n (k + 1) := by rw [hG2, hG1]; rfl
 have hjn : J (c + (r - (k + 1)) * (n + 200)) (d + (r - (k + 1)) * n) (G.rounds n (k + 1)) := by rw [← hrd, ← hcc, ← hdd]; exact hB.dels hjt
 rw [hfin, hrd] at hok3 ⊢
 refine Qc ?_
 first | refine Pa (Qy rfl rfl om_) ?_ | refine Pa (QS rfl rfl) ?_
 refine Pm ?_
 refine Qe ?_
 refine Xs (q' := Xe _ _ _ _ _ _ _) rfl ?_
 refine QM ((k + 1, ⟨w.g, w.va, w.n, vn3, css3, vo3, cs3⟩, R3)) (⟨by dsimp only; omega, ⟨_, _, _, _, rfl⟩, hok3, by dsimp only; exact hjn, Hp.le_trans hR1 (Hp.le_trans hR2 hR3)⟩) (by dsimp only; omega) (eC rfl (eC rfl (eC rfl (eC rfl eN)))) rfl sb_
 try simp only [dT, dF, nT, nF, tF, fT] at hg23
 refine Pk ?_
 refine Pk ?_
 refine Pk ?_
 refine Pk ?_
 refine Pa (Qp rfl rfl) ?_
 refine Qe (hK17 _ _ _ (Qt rfl (QQ (hK7 _ _ _ ?_))))
 have hfin : G2.dels q = G2.dels 200 := by first | (exact (zn (by omega) (by omega)).symm) | (rw [show q = 200 by omega])
 have hrd : G2.dels 200 = G.rounds n (k + 1) := by rw [hG2, hG1]; rfl
 have hjn : J (c + (r - (k + 1)) * (n + 200)) (d + (r - (k + 1)) * n) (G.rounds n (k + 1)) := by rw [← hrd, ← hcc, ← hdd]; exact hB.dels hjt
 rw [hfin, hrd] at hok3 ⊢
 refine Qc ?_
 first | refine Pa (Qy rfl rfl om_) ?_ | refine Pa (QS rfl rfl) ?_
 refine Pm ?_
 refine Qe ?_
 refine Xs (q' := Xe _ _ _ _ _ _ _) rfl ?_
 refine QM ((k + 1, ⟨w.g, w.va, w.n, vn3, css3, vo3, cs3⟩, R3)) (⟨by dsimp only; omega, ⟨_, _, _, _, rfl⟩, hok3, by dsimp only; exact hjn, Hp.le_trans hR1 (Hp.le_trans hR2 hR3)⟩) (by dsimp only; omega) (eC rfl (eC rfl (eC rfl (eC rfl eN)))) rfl sb_
 try simp only [dT, dF, nT, nF, tF, fT] at hc12
 refine QQ (hK2 _ _ _ (Qd fun K20 hK20 => ?_))
 have hkr : k = r := by (try simp at hc12); omega
 have hms := hB.ln _ _ _ hj1
 rw [hkr] at hok1 hms ⊢
 refine Qc ?_
 refine Pm ?_
 refine Pm ?_
 refine Pa (Ca Tryz.call36 (QkD ⟨w.g, w.va, w.n, vn1, css1, vo1, cs1⟩ (G.rounds n r) n hok1.len (by rw [hms]; omega) hn.2)) ?_
 refine Pa (Qo rfl rfl) ?_
 refine Pa (Qo rfl rfl) ?_
 refine Ps ?_
 refine Ps ?_
 refine Qe (hK20 _ _ _ ?_)
 refine Ql (eL 6 rfl (eL 7 rfl eN)) ?_
 refine Qi (hret _ _ _ ?_)
 apply XT Tryz.results13 (.cons (Qh rfl) (.cons (Qh rfl) .nil)) _ (grL ⟨w.g, w.va, w.n, vn1, css1, vo1, cs1⟩ (G.rounds n r)) hR1 rfl
 case hp => exact ⟨rfl, vn1, css1, vo1, cs1, hok1, rfl⟩
 case hS => exact sb_
end V
end Go.Proofs.YtenfjpigffjgmaaGreat
set_option linter.unusedSimpArgs false
set_option linter.unusedVariables false
set_option maxRecDepth 100000
namespace Go.Proofs.YtenfjpigffjgmaaGreat
open Go.RowKit
namespace V
set_option maxHeartbeats 4000000
theorem Qfk {R : Hp} (w : GV) (G : GS) (hok : GOk R w G) : Tri Tryz.prog 15 [.pointer (some ⟨w.g, 0, none⟩)] R (grL w G)
  (fun r R' L' => r = w.vo ∧ R' = R ∧ ∃ vn css vo cs, GOk R' ⟨w.g, w.va, w.n, vn, css, vo, cs⟩ G.outs ∧ L' = grL ⟨w.g, w.va, w.n, vn, css, vo, cs⟩ G.outs ++ [ocS w.vo G.out]) := by
 refine Qn Tryz.func15 rfl Tryz.ntmps15 rfl (fun σ F Q hret hend hpan => ?_)
 try simp only [cA, nA]
 refine Qd fun K1 hK1 => Qc ?_
 refine Ps ?_
 refine Qe (hK1 _ _ _ (Qd fun K2 hK2 => Qd fun K3 hK3 => Qc ?_))
 refine Pm ?_
 refine Pa (Yb Tryz.underlying26 rfl rfl) ?_
 refine Qe (hK3 _ _ _ (Qt rfl (Qj (hK2 _ _ _ (Qd fun K4 hK4 => Qc ?_)))))
 refine Pm ?_
 refine Pa (Qf rfl) ?_
 refine Pa (Ga Tryz.underlying90 Tryz.sizeOf34) ?_
 first | refine Pa (La o34) ?_ | refine Pa (Ls o34) ?_
 refine Ps ?_
 refine Qe (hK4 _ _ _ (Qd fun K5 hK5 => Qc ?_))
 refine Pm ?_
 refine Pa (Qf rfl) ?_
 refine Pa (Ga Tryz.underlying90 Tryz.sizeOf34) ?_
 refine Sa o34 ?_
 refine YP (A := ocS (.slice none 0 0) []) (Yt _ _) ?_
 refine Qe (hK5 _ _ _ (Qd fun K6 hK6 => Qc ?_))
 refine Pm ?_
 refine Ps ?_
 refine Qe (hK6 _ _ _ (Qi (hret _ _ _ ?_)))
 refine Ea Tryz.results15 (.cons (Qh rfl) .nil) (grL ⟨w.g, w.va, w.n, w.vn, w.css, .slice none 0 0, w.cs⟩ G.outs ++ [ocS w.vo G.out]) le_ ?_
 exact ⟨rfl, rfl, w.vn, w.css, .slice none 0 0, w.cs, ⟨hok.len, hok.nd, hok.els⟩, rfl⟩
theorem Qbf {cs : List MV} {ms : List MS} {i : Nat} {c : MV} {m : MS} (hc : cs[i]? = some c) (hm : ms[i]? = some m) : ∀ h, Ya (ZA cs ms) h → ∃ q cap, c.vl = .slice q m.l.length cap := fun h k => by
 obtain ⟨h1, h2, _, _, _, d, _⟩ := jJ (qH hc hm) h k
 obtain ⟨_, h3, _, _, _, _, e⟩ := d
 obtain ⟨_, h4, _, _, _, _, e⟩ := e
 obtain ⟨h5, _, _, _, _, f, _⟩ := e
 obtain ⟨q, cap, hq, _⟩ := qD _ f
 exact ⟨q, cap, hq⟩
structure AwOK (t : Int) : Prop where
 l1 : ((GS.new 3).rounds 3 60).leads 3 = (0, true)
 p : (((GS.new 3).rounds 3 60).propose 0 [97]).1 = (2, t)
 t0 : t > 0
 l2 : ((((GS.new 3).rounds 3 60).propose 0 [97]).2.rounds 3 10).leads 3 = (0, true)
 o : ((((GS.new 3).rounds 3 60).propose 0 [97]).2.rounds 3 10).out.length = 3
 d : ∀ m, ((((GS.new 3).rounds 3 60).propose 0 [97]).2.rounds 3 10).ms[0]? = some m → m.l.length = 1
 a : ∀ m, ((((GS.new 3).rounds 3 60).propose 0 [97]).2.rounds 3 10).ms[1]? = some m → m.ap = 2
theorem Qie {R : Hp} {C c d : Nat} {J : Nat → Nat → GS → Prop} (hB : Bud 3 C J) (hj : J (c + 10 * (3 + 200) + 1 + 60 * (3 + 200)) (d + 10 * 3 + 1 + 60 * 3) (GS.new 3)) (t : Int) (ha : AwOK t) : Tri Tryz.prog 9 [] R [] (fun v R' L' => v = .bool true ∧ L' = []) := by
 have hj1 := hB.rounds (k := 60) (c := c + 10 * (3 + 200) + 1) (d := d + 10 * 3 + 1) hj
 have hj2 := hB.prop _ _ _ 0 [97] (by omega) (by decide) hj1
 have hj3 := hB.rounds (k := 10) (c := c) (d := d) hj2
 have h1 := ha.l1
 have h2 := ha.p
 have h3 := ha.l2
 have h4 := ha.o
 have h5 := ha.d
 have h6 := ha.a
 have ht := ha.t0
 have hw1 := hB.gw _ _ _ hj1
 have hw2 := hB.gw _ _ _ hj2
 obtain ⟨G1, hG1⟩ : ∃ G1, G1 = (GS.new 3).rounds 3 60 := ⟨_, rfl⟩
 rw [← hG1] at h1 h2 h3 h4 h5 h6 hj1 hj2 hj3 hw1 hw2
 obtain ⟨G2, hG2⟩ : ∃ G2, G2 = (G1.propose 0 [97]).2 := ⟨_, rfl⟩
 rw [← hG2] at h3 h4 h5 h6 hj2 hj3 hw2
 obtain ⟨G3, hG3⟩ : ∃ G3, G3 = G2.rounds 3 10 := ⟨_, rfl⟩
 rw [← hG3] at h3 h4 h5 h6 hj3
 have hn1 := hB.ln _ _ _ hj1
 have hn3 := hB.ln _ _ _ hj3
 obtain ⟨m0, hm0⟩ : ∃ m, G3.outs.ms[0]? = some m := ⟨_, List.getElem?_eq_getElem (by show 0 < G3.ms.length; omega)⟩
 obtain ⟨m1, hm1⟩ : ∃ m, G3.outs.ms[1]? = some m := ⟨_, List.getElem?_eq_getElem (by show 1 < G3.ms.length; omega)⟩
 have h5 := h5 m0 hm0
 have h6 := h6 m1 hm1
 refine Qn Tryz.func9 rfl Tryz.ntmps9 rfl (fun σ F Q hret hend hpan => ?_)
 try simp only [cA, nA]
 refine Ql eN ?_
 refine Qd fun K1 hK1 => Qc ?_
 refine Ps ?_
 refine Qe (hK1 _ _ _ (Qd fun K2 hK2 => Qc ?_))
 refine Ra Tryz.call19 (QfO 3 (by decide)) ?_
 rintro r R1 L' hR1 ⟨w, rfl, hok, rfl⟩
 try simp only [cA, nA]
 refine Pm ?_
 refine Pa (Qo rfl rfl) ?_
 refine Pa (Qo rfl rfl) ?_
 refine Ps ?_
 refine Ps ?_
 refine Qe (hK2 _ _ _ (Qd fun K3 hK3 => Qd fun K4 hK4 => Qc ?_))
 refine Pm ?_
 refine Pa ((Yld.to (u := .bool false) (XY rfl rfl) (by simp))) ?_
 refine Pm ?_
 refine Pb (Qg rfl) ?_
 refine Pb (Ca Tryz.call28 ((QcF w))) ?_
 refine Pb (Yb Tryz.underlying66 rfl rfl) ?_
 refine Pa (Qp rfl rfl) ?_
 refine Qe (hK4 _ _ _ (Qt rfl (Qj (hK3 _ _ _ (Qd fun K5 hK5 => Qc ?_)))))
 refine Pm ?_
 refine Ra Tryz.call13 (ze w (GS.new 3) 3 60 (c + 10 * (3 + 200) + 1) (d + 10 * 3 + 1) C hB (by decide) (by decide) hok hj) ?_
 rintro r R2 L' hR2 ⟨rfl, vn2, css2, vo2, cs2, hok2, rfl⟩
 rw [← hG1] at hok2 ⊢
 rw [h1]
 dsimp only
 try simp only [cA, nA]
 refine Pm ?_
 refine Pa (Qo rfl rfl) ?_
 refine Pa (Qo rfl rfl) ?_
 refine Ps ?_
 refine Ps ?_
 refine Qe (hK5 _ _ _ ?_)
 refine Ql (eL 1 rfl (eL 3 rfl (eL 4 rfl eN))) ?_
 refine Qd fun K6 hK6 => Qc ?_
 refine Pm ?_
 refine Pm ?_
 refine Ra Tryz.call16 (zM ⟨w.g, w.va, w.n, vn2, css2, vo2, cs2⟩ G1 0 [97] (by decide) hok2 (by omega) hw1 (by rw [← hG2]; exact hw2)) ?_
 rintro r R3 L' hR3 ⟨rfl, vn3, css3, vo3, cs3, hok3, rfl⟩
 rw [← hG2] at hok3 ⊢
 rw [h2]
 dsimp only
 try simp only [cA, nA]
 refine Pm ?_
 refine Pa (Qo rfl rfl) ?_
 refine Pa (Qo rfl rfl) ?_
 refine Ps ?_
 refine Ps ?_
 refine Qe (hK6 _ _ _ (Qd fun K7 hK7 => Qc ?_))
 refine Pm ?_
 refine Ra Tryz.call13 (ze ⟨w.g, w.va, w.n, vn3, css3, vo3, cs3⟩ G2 3 10 c d C hB (by decide) (by decide) hok3 hj2) ?_
 rintro r R4 L' hR4 ⟨rfl, vn4, css4, vo4, cs4, hok4, rfl⟩
 rw [← hG3] at hok4 ⊢
 rw [h3]
 dsimp only
 refine QaG (A := ocS vo4 G3.out) fd_ qE (fun hvo4 => ?_)
 try simp only [cA, nA]
 refine Pm ?_
 refine Pa (Qo rfl rfl) ?_
 refine Pa (Qo rfl rfl) ?_
 refine Ps ?_
 refine Ps ?_
 refine Qe (hK7 _ _ _ (Qd fun K8 hK8 => Qc ?_))
 refine Pm ?_
 refine Pm ?_
 refine Pb (Qg rfl) ?_
 refine Pa (Qr rfl rfl) ?_
 refine Pm ?_
 refine Pb (Qg rfl) ?_
 refine Pb ((Yld.to (u := .bool true) (QR rfl rfl) (by simp))) ?_
 refine Pa (Qr rfl rfl) ?_
 refine Pm ?_
 refine Pb (Qg rfl) ?_
 refine Pb ((Yld.to (u := .bool true) (XN rfl rfl) (by simp; omega))) ?_
 refine Pa (Qr rfl rfl) ?_
 refine Pm ?_
 refine Pb (Qg rfl) ?_
 refine XM (wn1 rfl rfl rfl rfl) rfl Tryz.call15 rfl (Qfk ⟨w.g, w.va, w.n, vn4, css4, vo4, cs4⟩ G3 hok4) sp_ (fun _ _ _ _ h => h.elim) ?_
 rintro r R5 L' hR5 ⟨rfl, rfl, vn5, css5, vo5, cs5, hok5, rfl⟩
 obtain ⟨c0, hc0, _, _⟩ := hok5.at hm0
 obtain ⟨c1, hc1, _, _⟩ := hok5.at hm1
 refine QaG (A := grA ⟨w.g, w.va, w.n, vn5, css5, vo5, cs5⟩ G3.outs) fd_ (Qbf hc0 hm0) (fun hq => ?_)
 obtain ⟨q0, cap0, hq0⟩ := hq
 try simp only [cA, nA]
 first | refine Pb (QG Tryz.underlying34 rfl) ?_ | refine Pb (QB Tryz.underlying34 rfl fd_) ?_
 refine Pb ((Yld.to (u := .bool true) (QR rfl rfl) (by rw [h4]; simp))) ?_
 refine Pa (Qr rfl rfl) ?_
 refine Pm ?_
 refine Pb (Qg rfl) ?_
 refine Pb (Ca Tryz.call17 ((Qex (w := ⟨w.g, w.va, w.n, vn5, css5, vo5, cs5⟩) (i := 0) hc0 hm0).eq3 hq0)) ?_
 first | refine Pb (QG Tryz.underlying42 rfl) ?_ | refine Pb (QB Tryz.underlying42 rfl fd_) ?_
 refine Pb ((Yld.to (u := .bool true) (QR rfl rfl) (by rw [h5]; simp))) ?_
 refine Pa (Qr rfl rfl) ?_
 refine Pm ?_
 refine Pb (Qg rfl) ?_
 refine Pb (Ca Tryz.call18 ((QgM (w := ⟨w.g, w.va, w.n, vn5, css5, vo5, cs5⟩) (i := 1) hc1 hm1).eq3 (by rw [h6]))) ?_
 refine Pb ((Yld.to (u := .bool true) (QR rfl rfl) (by simp))) ?_
 refine Pa (Qr rfl rfl) ?_
 refine Ps ?_
 refine Qe (hK8 _ _ _ ?_)
 refine Ql (eL 0 rfl eN) ?_
 refine Qi (hret _ _ _ ?_)
 refine Ea Tryz.results9 (.cons (Qh rfl) .nil) [] (by exact Hp.le_trans hR1 (Hp.le_trans hR2 (Hp.le_trans hR3 hR4))) ?_
 exact ⟨rfl, rfl⟩
end V
end Go.Proofs.YtenfjpigffjgmaaGreat
set_option linter.unusedSimpArgs false
set_option linter.unusedVariables false
set_option maxRecDepth 100000
namespace Go.Proofs.YtenfjpigffjgmaaGreat
open Go.RowKit
namespace V
set_option maxHeartbeats 4000000
def ZB (l : List Bs) (c : Bs) : List Bs := if c = [] then l else l ++ [c]
end V
end Go.Proofs.YtenfjpigffjgmaaGreat
set_option linter.unusedSimpArgs false
set_option linter.unusedVariables false
set_option maxRecDepth 100000
namespace Go.Proofs.YtenfjpigffjgmaaGreat
open Go.RowKit
namespace V
set_option maxHeartbeats 4000000
def GS.downs (G : GS) (n : Nat) : Nat → GS
 | 0 => G
 | k + 1 => if 1 ≤ k ∧ k ≤ n / 2 + 1 then (G.downs n k).fuel k 0 else G.downs n k
def dnN (n i : Nat) : Nat := min (i - 1) (n / 2 + 1)
def GS.round1 (G : GS) (n : Nat) : GS := (G.ticks n).dels 100
def GS.rounds1 (G : GS) (n : Nat) : Nat → GS
 | 0 => G
 | k + 1 => (G.rounds1 n k).round1 n
noncomputable def GS.crashes (G : GS) : Nat → GS
 | 0 => G
 | k + 1 => (G.crashes k).crash k 0
def Za : Bs := [116, 104, 101, 110]
def GS.min1 (n : Nat) (cmd : Bs) (r : Nat) : GS := ((((GS.new n).rounds n 100).downs n n).propose 0 cmd).2.rounds1 n r
noncomputable def GS.min2 (n : Nat) (cmd : Bs) (r : Nat) : GS := ((GS.min1 n cmd r).crashes n).rounds n 200
structure MinOK (n : Nat) (cmd : Bs) (r : Nat) (L : Nat) : Prop where
 l1 : ((GS.new n).rounds n 100).leads n = (0, true)
 none : ∀ m ∈ (GS.min1 n cmd r).ms, m.l = []
 lt : L < n
 l2 : (GS.min2 n cmd r).leads n = ((L : Int), true)
 at_ : ¬ ((GS.min2 n cmd r).propose L Za).1.1 = 0
 l3 : ((((GS.min2 n cmd r).propose L Za).2.rounds n 10).leads n).2 = true
 d : ∀ m, (((GS.min2 n cmd r).propose L Za).2.rounds n 10).ms[0]? = some m → m.l = [Za] ∨ m.l = [cmd, Za]
theorem Bud.downs {n C : Nat} {J : Nat → Nat → GS → Prop} (h : Bud n C J) {G : GS} {d : Nat} : ∀ {k c : Nat}, k ≤ n → J (c + k) d G → J c d (G.downs n k)
 | 0, _, _, hj => hj
 | k + 1, c, hk, hj => by
  have h1 := h.downs (k := k) (c := c + 1) (by omega) (by rw [show c + 1 + k = c + (k + 1) by omega]; exact hj)
  show J c d (if _ then _ else _)
  split
  ·exact h.fuel _ _ _ _ _ (by omega) (by unfold Qer; decide) h1
  ·exact h.le _ _ _ h1
theorem Bud.round1 {n C : Nat} {J : Nat → Nat → GS → Prop} (h : Bud n C J) {G : GS} {c d : Nat} (hj : J (c + (n + 100)) (d + n) G) : J c d (G.round1 n) :=
 h.dels (h.ticks (Nat.le_refl n) (by rw [show c + 100 + n = c + (n + 100) by omega]; exact hj))
theorem Bud.rounds1 {n C : Nat} {J : Nat → Nat → GS → Prop} (h : Bud n C J) {G : GS} : ∀ {k c d : Nat}, J (c + k * (n + 100)) (d + k * n) G → J c d (G.rounds1 n k)
 | 0, c, d, hj => by simpa [GS.rounds1] using hj
 | k + 1, c, d, hj => h.round1 (h.rounds1 (k := k) (by rw [show c + (n + 100) + k * (n + 100) = c + (k + 1) * (n + 100) by rw [Nat.add_mul]; omega, show d + n + k * n = d + (k + 1) * n by rw [Nat.add_mul]; omega]; exact hj))
theorem Bud.crashes {n C : Nat} {J : Nat → Nat → GS → Prop} (h : Bud n C J) {G : GS} {d : Nat} : ∀ {k c : Nat}, k ≤ n → J (c + k) d G → J c d (G.crashes k)
 | 0, _, _, hj => hj
 | k + 1, c, hk, hj => h.crash _ _ _ _ _ (by omega) (h.crashes (k := k) (c := c + 1) (by omega) (by rw [show c + 1 + k = c + (k + 1) by omega]; exact hj))
theorem QmU {k : Nat} (h : k < 60) (z : Nat) : 60 * z = (60 - (k + 1)) * z + z + k * z := by
 conv => lhs; rw [show 60 = (60 - (k + 1)) + 1 + k by omega]
 rw [Nat.add_mul, Nat.add_mul, Nat.one_mul]
theorem QmP {n : Nat} : ((n : Int)).tdiv 2 = ((n / 2 : Nat) : Int) := rfl
theorem Qes {R : Hp} {C3 c3 d3 : Nat} {J3 : Nat → Nat → GS → Prop} (hB3 : Bud 3 C3 J3) (hj3 : J3 (c3 + 10 * (3 + 200) + 1 + 60 * (3 + 200)) (d3 + 10 * 3 + 1 + 60 * 3) (GS.new 3)) (t : Int) (haw : AwOK t)
  {C : Nat} {JJ : Nat → Nat → Nat → GS → Prop} (hBB : ∀ n, Bud n C (JJ n)) (hJJ : ∀ n, n = 3 ∨ n = 5 → JJ n (20000 + 42000 + 6400 + 100 * (n + 200) + 20) (1000 + 60 * n + 1 + 60 * n + 100 * n + 100 + 900) (GS.new n)) (five : Bool) (cmd : Bs) (r : Int) (hr : IntKind.u8.min ≤ r ∧ r ≤ IntKind.u8.max) {LL : Nat → Nat → Nat} (hM : ∀ n k, n = 3 ∨ n = 5 → ¬ cmd = [] → cmd.length ≤ 100 → k ≤ 60 → MinOK n cmd k (LL n k)) :
  Tri Tryz.prog 6 [.bool five, .string (str cmd), .int .u8 r] R [] (fun v R' L' => v = .bool true) := by
 obtain ⟨r0, r1⟩ := hr
 obtain ⟨rr, rfl⟩ : ∃ k : Nat, r = (k : Int) := ⟨r.toNat, by have : (0 : Int) ≤ r := r0; omega⟩
 refine Qn Tryz.func6 rfl Tryz.ntmps6 rfl (fun σ F Q hret hend hpan => ?_)
 try simp only [cA, nA]
 refine Qd fun K1 hK1 => Qc ?_
 refine Ps ?_
 refine Qe (hK1 _ _ _ (Qd fun K2 hK2 => Qd fun K3 hK3 => Qc ?_))
 refine Ra Tryz.call9 (Qie hB3 hj3 t haw) ?_
 rintro r R1 L' hR1 ⟨rfl, rfl⟩
 try simp only [cA, nA]
 refine Pa (Yp rfl) ?_
 refine Qe (hK3 _ _ _ (Qt rfl (Qj (hK2 _ _ _ (Qd fun K4 hK4 => Qd fun K5 hK5 => Qc ?_)))))
 refine Pm ?_
 refine Pa (yv rfl rfl) ?_
 refine Pm ?_
 refine QL 28 rfl (fun hg28 => ?_) (fun hg28 => ?_)
 try simp only [dT, dF, nT, nF, tF, fT] at hg28
 refine Pk ?_
 refine Pk ?_
 refine Pk ?_
 refine Pa (Qr rfl rfl) ?_
 refine Pm ?_
 refine Pk ?_
 refine Pk ?_
 refine Pa (Qr rfl rfl) ?_
 refine Qe (hK5 _ _ _ (Qz rfl (Qd fun K6 hK6 => Qc ?_)))
 refine Ps ?_
 refine Qe (hK6 _ _ _ (Qi (hret _ _ _ ?_)))
 refine Ea Tryz.results6 (.cons (Qh rfl) .nil) [] (by first | exact hR1 | exact hR6 | exact Hp.le_trans hR7 (Hp.le_trans hR8 (Hp.le_trans hR9 hR10)) | exact Hp.le_refl _) ?_
 rfl
 try simp only [dT, dF, nT, nF, tF, fT] at hg28
 refine Pb (Qg rfl) ?_
 refine Pb (YD Tryz.underlying9 rfl) ?_
 refine Pb (XN rfl rfl) ?_
 refine Pa (Qp rfl rfl) ?_
 refine Pm ?_
 refine QL 33 rfl (fun hg33 => ?_) (fun hg33 => ?_)
 try simp only [dT, dF, nT, nF, tF, fT] at hg33
 refine Pk ?_
 refine Pk ?_
 refine Pa (Qr rfl rfl) ?_
 refine Qe (hK5 _ _ _ ?_)
 refine Ql (eL 0 rfl (eL 1 rfl (eL 2 rfl (eL 36 rfl eN)))) ?_
 refine Qz rfl (Qd fun K7 hK7 => Qc ?_)
 refine Ps ?_
 refine Qe (hK7 _ _ _ (Qi (hret _ _ _ ?_)))
 refine Ea Tryz.results6 (.cons (Qh rfl) .nil) [] (by first | exact hR1 | exact hR6 | exact Hp.le_trans hR7 (Hp.le_trans hR8 (Hp.le_trans hR9 hR10)) | exact Hp.le_refl _) ?_
 rfl
 try simp only [dT, dF, nT, nF, tF, fT] at hg33
 refine Pb (Qg rfl) ?_
 refine Pb (XN rfl rfl) ?_
 refine Pa (Qp rfl rfl) ?_
 refine Qe (hK5 _ _ _ ?_)
 refine Qm rfl (fun hc36 => ?_) (fun hc36 => ?_)
 try simp only [dT, dF, nT, nF, tF, fT] at hc36
 refine Qd fun K9 hK9 => Qc ?_
 refine Ps ?_
 refine Qe (hK9 _ _ _ (Qi (hret _ _ _ ?_)))
 refine Ea Tryz.results6 (.cons (Qh rfl) .nil) [] (by first | exact hR1 | exact hR6 | exact Hp.le_trans hR7 (Hp.le_trans hR8 (Hp.le_trans hR9 hR10)) | exact Hp.le_refl _) ?_
 rfl
 have hcn : ¬ cmd = [] := by (try simp at hg28); assumption
 have hc100 : cmd.length ≤ 100 := by (try simp at hg33); omega
 have hr60 : rr ≤ 60 := by have hz := hc36; simp only [decide_eq_false_iff_not] at hz; omega
 refine Qj (hK4 _ _ _ (Qd fun K10 hK10 => Qc ?_))
 refine Ps ?_
 refine Qe (hK10 _ _ _ (Qd fun K11 hK11 => ?_))
 have hJ8 : ∀ (n : Nat), n = 3 ∨ n = 5 → EJ ⟨Tryz.prog, 177, σ⟩ K11 [(1, .string (str cmd)), (2, .int .u8 (rr : Int)), (7, .int .i64 (n : Int))] R1 (F) := by
  rintro n hn
  try dsimp only
  refine hK11 _ _ _ (Qd fun K12 hK12 => ?_)
  have hn9 : 3 ≤ n ∧ n ≤ 5 := by omega
  obtain ⟨J, hJe⟩ : ∃ J, J = JJ n := ⟨_, rfl⟩
  have hB := hBB n
  have hj := hJJ n hn
  rw [← hJe] at hB hj
  clear hJe
  have hI := hM n rr hn hcn hc100 hr60
  obtain ⟨L, hLe⟩ : ∃ L, L = LL n rr := ⟨_, rfl⟩
  rw [← hLe] at hI
  clear hLe
  have hj0 := hB.leq (c := (20000 + 42000 + 6400 + 20) + 100 * (n + 200)) (d := 1000 + 60 * n + 1 + 60 * n + 100 + 900 + 100 * n) (by omega) (by omega) hj
  refine Qc ?_
  refine Pm ?_
  refine Ra Tryz.call19 (QfO n (by omega)) ?_
  rintro r R2 L' hR2 ⟨w, rfl, hok, rfl⟩
  try simp only [cA, nA]
  refine Pm ?_
  refine Pa (Qo rfl rfl) ?_
  refine Pa (Qo rfl rfl) ?_
  refine Ps ?_
  refine Ps ?_
  refine Qe (hK12 _ _ _ (Qd fun K13 hK13 => Qd fun K14 hK14 => Qc ?_))
  refine Pm ?_
  refine Pa ((Yld.to (u := .bool false) (XY rfl rfl) (by simp))) ?_
  refine Qe (hK14 _ _ _ (Qt rfl (Qj (hK13 _ _ _ (Qd fun K15 hK15 => Qc ?_)))))
  refine Pm ?_
  refine Pm ?_
  refine Ra Tryz.call13 (ze w (GS.new n) n 100 (20000 + 42000 + 6400 + 20) (1000 + 60 * n + 1 + 60 * n + 100 + 900) C hB (by omega) (by omega) hok hj0) ?_
  rintro x R3 L' hR3 ⟨rfl, vn0, css0, vo0, cs0, hok0, rfl⟩
  rw [hI.l1]
  have hj1 := hB.rounds hj0
  have q1 := hI.none
  have q2 := hI.l2
  have q3 := hI.at_
  have q4 := hI.l3
  have q5 := hI.d
  have q6 := hI.lt
  obtain ⟨G0, hG0⟩ : ∃ G0, G0 = (GS.new n).rounds n 100 := ⟨_, rfl⟩
  obtain ⟨G4, hG4⟩ : ∃ G4, G4 = ((G0.downs n n).propose 0 cmd).2.rounds1 n rr := ⟨_, rfl⟩
  have hm1 : GS.min1 n cmd rr = G4 := by rw [hG4, hG0]; rfl
  obtain ⟨G5, hG5⟩ : ∃ G5, G5 = (G4.crashes n).rounds n 200 := ⟨_, rfl⟩
  have hm2 : GS.min2 n cmd rr = G5 := by rw [hG5, ← hm1]; rfl
  rw [hm1] at q1
  rw [hm2] at q2 q3 q4 q5
  rw [← hG0] at hok0 hj1 ⊢
  clear hG0 hm1 hm2 hI
  try simp only [cA, nA]
  refine Pm ?_
  refine Pa (Qo rfl rfl) ?_
  refine Pa (Qo rfl rfl) ?_
  refine Ps ?_
  refine Ps ?_
  refine Qe (hK15 _ _ _ ?_)
  refine Ql (eL 1 rfl (eL 2 rfl (eL 7 rfl (eL 8 rfl (eL 10 rfl (eL 11 rfl eN)))))) ?_
  refine Qd fun K16 hK16 => Qd fun K17 hK17 => Qc ?_
  refine Pm ?_
  refine Pa (Yp rfl) ?_
  refine Qe (hK17 _ _ _ (Qt rfl (Qj (hK16 _ _ _ (Qd fun K18 hK18 => Qc ?_)))))
  refine Ps ?_
  refine Qe (hK18 _ _ _ (Qd fun K19 hK19 => Qd fun K20 hK20 => Qc ?_))
  refine Pm ?_
  refine Pm ?_
  refine Qe (hK20 _ _ _ (Qq ?_))
  refine Ql (E' := (fun (x : Nat × GV × Hp) => [(1, .string (str cmd)), (2, .int .u8 (rr : Int)), (7, .int .i64 (n : Int)), (8, .pointer (some ⟨w.g, 0, none⟩)), (10, .int .i64 0), (12, .int .i64 (dnN n x.1 : Nat)), (53, .int .i64 (n : Int)), (54, .int .i64 (x.1 : Int))]) (0, ⟨w.g, w.va, w.n, vn0, css0, vo0, cs0⟩, R3)) (eC rfl (eC rfl (eC rfl (eC rfl (eC rfl (eC rfl (eC rfl (eC rfl eN)))))))) ?_
  refine Xm (M := (fun (x : Nat × GV × Hp) => grL x.2.1 (G0.downs n x.1) ++ F) (0, ⟨w.g, w.va, w.n, vn0, css0, vo0, cs0⟩, R3)) sb_ ?_
  refine Xg (fun (x : Nat × GV × Hp) => [(1, .string (str cmd)), (2, .int .u8 (rr : Int)), (7, .int .i64 (n : Int)), (8, .pointer (some ⟨w.g, 0, none⟩)), (10, .int .i64 0), (12, .int .i64 (dnN n x.1 : Nat)), (53, .int .i64 (n : Int)), (54, .int .i64 (x.1 : Int))]) (fun (x : Nat × GV × Hp) => x.2.2) (fun (x : Nat × GV × Hp) => grL x.2.1 (G0.downs n x.1) ++ F) (fun (x : Nat × GV × Hp) => x.1 ≤ n ∧ (∃ vn css vo cs, x.2.1 = ⟨w.g, w.va, w.n, vn, css, vo, cs⟩) ∧ GOk x.2.2 x.2.1 (G0.downs n x.1) ∧ R.le x.2.2) (fun (x : Nat × GV × Hp) => n - x.1) (0, ⟨w.g, w.va, w.n, vn0, css0, vo0, cs0⟩, R3) (⟨by simp, ⟨_, _, _, _, rfl⟩, hok0, Hp.le_trans hR1 (Hp.le_trans hR2 hR3)⟩) ?_
  rintro ⟨i, w1, R4⟩ ⟨hi, hg1, hok1, hR4⟩
  try dsimp only
  dsimp only at hi hg1 hok1 hR4
  obtain ⟨vn1, css1, vo1, cs1, rfl⟩ := hg1
  refine Qd fun K21 hK21 => Qc ?_
  refine Pa (QW rfl rfl) ?_
  refine Qe (hK21 _ _ _ (Qd fun K22 hK22 => ?_))
  refine Qm rfl (fun hc55 => ?_) (fun hc55 => ?_)
  try simp only [dT, dF, nT, nF, tF, fT] at hc55
  refine Qj (hK22 _ _ _ (Qd fun K24 hK24 => Qq (Qd fun K25 hK25 => ?_)))
  have hi2 : i < n := by have hz := hc55; omega
  have hjd := hB.downs (G := G0) (c := 20000 + 42000 + 6400 + 10) (d := 1000 + 60 * n + 1 + 60 * n + 100 + 900) (k := i) (by omega) (hB.leq (by omega) (by omega) hj1)
  refine Qc ?_
  refine Pm ?_
  refine Ps ?_
  refine Qe (hK25 _ _ _ (Qd fun K26 hK26 => Qc ?_))
  refine Pm ?_
  refine Pm ?_
  refine Pa (XY rfl rfl) ?_
  refine Pm ?_
  refine QL 60 rfl (fun hg60 => ?_) (fun hg60 => ?_)
  try simp only [dT, dF, nT, nF, tF, fT] at hg60
  refine Pb (Qg rfl) ?_
  refine Pb (Qg rfl) ?_
  refine Pb ((Yld.to (u := .int .i64 ((n / 2 : Nat) : Int)) (Qf3 rfl rfl (by decide)) (by rw [QmP, ZX (by (simp only [IntKind.min, IntKind.max, IntKind.signed, IntKind.bits, Bool.false_eq_true, ite_false, ite_true]; omega))]))) ?_
  refine Pb (zq rfl rfl) ?_
  refine Pa (Qr rfl rfl) ?_
  refine Qe (hK26 _ _ _ ?_)
  refine Qm rfl (fun hc65 => ?_) (fun hc65 => ?_)
  have hin : 1 ≤ i ∧ i ≤ n / 2 + 1 := by have hz := hc65; unfold dnN at hz; (try simp at hz hg60); omega
  have hdw : G0.downs n (i + 1) = (G0.downs n i).fuel i 0 := by show (if _ then _ else _) = _; rw [if_pos hin]
  have hdn : (dnN n i : Int) + 1 = (dnN n (i + 1) : Nat) := by unfold dnN; omega
  refine Qd fun K28 hK28 => Qc ?_
  refine Pm ?_
  refine Pm ?_
  refine Ra Tryz.call30 (Qi5 ⟨w.g, w.va, w.n, vn1, css1, vo1, cs1⟩ (G0.downs n i) i 0 hok1 (by rw [hB.ln _ _ _ hjd]; exact hi2)) ?_
  rintro x R5 L' hR5 ⟨vn2, css2, vo2, cs2, hok2, rfl⟩
  rw [← hdw]
  try simp only [cA, nA]
  refine Qe (hK28 _ _ _ ?_)
  refine Ql (eL 1 rfl (eL 2 rfl (eL 7 rfl (eL 8 rfl (eL 10 rfl (eL 12 rfl (eL 53 rfl (eL 54 rfl eN)))))))) ?_
  refine Qc ?_
  refine Pm ?_
  refine Pa ((Yld.to (u := .int .i64 (dnN n (i + 1) : Nat)) (Qy rfl rfl (by unfold dnN; omega)) (by rw [hdn]))) ?_
  refine Ps ?_
  refine Qe (hK24 _ _ _ (Qc ?_))
  first | refine Pa (Qy rfl rfl om_) ?_ | refine Pa (QS rfl rfl) ?_
  refine Pm ?_
  refine Qe ?_
  refine Xs (q' := Xe _ _ _ _ _ _ _) rfl ?_
  refine QM ((i + 1, ⟨w.g, w.va, w.n, vn2, css2, vo2, cs2⟩, R5)) (⟨by dsimp only; omega, ⟨_, _, _, _, rfl⟩, by dsimp only; rw [hdw]; exact hok2, Hp.le_trans hR4 hR5⟩) (by dsimp only; omega) (eC rfl (eC rfl (eC rfl (eC rfl (eC rfl (eC rfl (eC rfl (eC rfl eN)))))))) rfl sb_
  have hin : ¬ (1 ≤ i ∧ i ≤ n / 2 + 1) := by have hz := hc65; unfold dnN at hz; (try simp at hz hg60); omega
  have hdw : G0.downs n (i + 1) = G0.downs n i := by show (if _ then _ else _) = _; rw [if_neg hin]
  have hdn : dnN n i = dnN n (i + 1) := by unfold dnN; omega
  rw [hdn, ← hdw]
  refine Qj (hK24 _ _ _ (Qc ?_))
  first | refine Pa (Qy rfl rfl om_) ?_ | refine Pa (QS rfl rfl) ?_
  refine Pm ?_
  refine Qe ?_
  refine Xs (q' := Xe _ _ _ _ _ _ _) rfl ?_
  refine QM ((i + 1, ⟨w.g, w.va, w.n, vn1, css1, vo1, cs1⟩, R4)) (⟨by dsimp only; omega, ⟨_, _, _, _, rfl⟩, by dsimp only; rw [hdw]; exact hok1, hR4⟩) (by dsimp only; omega) (eC rfl (eC rfl (eC rfl (eC rfl (eC rfl (eC rfl (eC rfl (eC rfl eN)))))))) rfl sb_
  have hin : ¬ (1 ≤ i ∧ i ≤ n / 2 + 1) := by have hz := hg60; (try simp at hz); omega
  have hdw : G0.downs n (i + 1) = G0.downs n i := by show (if _ then _ else _) = _; rw [if_neg hin]
  have hdn : dnN n i = dnN n (i + 1) := by (try simp at hg60); unfold dnN; omega
  rw [hdn, ← hdw]
  refine Pk ?_
  refine Pk ?_
  refine Pk ?_
  refine Pk ?_
  refine Pa (Qp rfl rfl) ?_
  refine Qe (hK26 _ _ _ (Qt rfl (Qj (hK24 _ _ _ (Qc ?_)))))
  first | refine Pa (Qy rfl rfl om_) ?_ | refine Pa (QS rfl rfl) ?_
  refine Pm ?_
  refine Qe ?_
  refine Xs (q' := Xe _ _ _ _ _ _ _) rfl ?_
  refine QM ((i + 1, ⟨w.g, w.va, w.n, vn1, css1, vo1, cs1⟩, R4)) (⟨by dsimp only; omega, ⟨_, _, _, _, rfl⟩, by dsimp only; rw [hdw]; exact hok1, hR4⟩) (by dsimp only; omega) (eC rfl (eC rfl (eC rfl (eC rfl (eC rfl (eC rfl (eC rfl (eC rfl eN)))))))) rfl sb_
  try simp only [dT, dF, nT, nF, tF, fT] at hc55
  refine QQ (hK19 _ _ _ (Qd fun K29 hK29 => ?_))
  have hin : i = n := by have hz := hc55; omega
  rw [hin] at hok1 ⊢
  have hjd := hB.downs (G := G0) (c := 20000 + 42000 + 6400 + 10) (d := 1000 + 60 * n + 1 + 60 * n + 100 + 900) (k := n) (Nat.le_refl n) (hB.leq (by omega) (by omega) hj1)
  obtain ⟨G1, hG1⟩ : ∃ G1, G1 = G0.downs n n := ⟨_, rfl⟩
  rw [← hG1] at hok1 hjd hG4 ⊢
  have hjd2 := hB.leq (c := (20000 + 42000 + 9) + 60 * (n + 100) + 1) (d := (1000 + 60 * n + 100 + 900) + 60 * n + 1) (by omega) (by omega) hjd
  have hjp := hB.prop _ _ _ 0 cmd (by omega) hc100 hjd2
  refine Qc ?_
  refine Pm ?_
  refine Pm ?_
  refine Pm ?_
  refine Ra Tryz.call16 (zM ⟨w.g, w.va, w.n, vn1, css1, vo1, cs1⟩ G1 0 cmd hc100 hok1 (by rw [hB.ln _ _ _ hjd]; omega) (hB.gw _ _ _ hjd) (hB.gw _ _ _ hjp)) ?_
  rintro x R5 L' hR5 ⟨rfl, vn2, css2, vo2, cs2, hok2, rfl⟩
  obtain ⟨G2, hG2⟩ : ∃ G2, G2 = (G1.propose 0 cmd).2 := ⟨_, rfl⟩
  rw [← hG2] at hok2 hjp hG4 ⊢
  try simp only [cA, nA]
  refine Qe (hK29 _ _ _ (Qd fun K30 hK30 => Qd fun K31 hK31 => Qc ?_))
  refine Pm ?_
  refine Pm ?_
  refine Qe (hK31 _ _ _ (Qq ?_))
  refine Ql (E' := (fun (x : Nat × GV × Hp) => [(1, .string (str cmd)), (7, .int .i64 (n : Int)), (8, .pointer (some ⟨w.g, 0, none⟩)), (76, .int .u8 (rr : Int)), (77, .int .u8 (x.1 : Int))]) (0, ⟨w.g, w.va, w.n, vn2, css2, vo2, cs2⟩, R5)) (eC rfl (eC rfl (eC rfl (eC rfl (eC rfl eN))))) ?_
  refine Xm (M := (fun (x : Nat × GV × Hp) => grL x.2.1 (G2.rounds1 n x.1) ++ F) (0, ⟨w.g, w.va, w.n, vn2, css2, vo2, cs2⟩, R5)) sb_ ?_
  refine Xg (fun (x : Nat × GV × Hp) => [(1, .string (str cmd)), (7, .int .i64 (n : Int)), (8, .pointer (some ⟨w.g, 0, none⟩)), (76, .int .u8 (rr : Int)), (77, .int .u8 (x.1 : Int))]) (fun (x : Nat × GV × Hp) => x.2.2) (fun (x : Nat × GV × Hp) => grL x.2.1 (G2.rounds1 n x.1) ++ F) (fun (x : Nat × GV × Hp) => x.1 ≤ rr ∧ (∃ vn css vo cs, x.2.1 = ⟨w.g, w.va, w.n, vn, css, vo, cs⟩) ∧ GOk x.2.2 x.2.1 (G2.rounds1 n x.1) ∧ R.le x.2.2) (fun (x : Nat × GV × Hp) => rr - x.1) (0, ⟨w.g, w.va, w.n, vn2, css2, vo2, cs2⟩, R5) (⟨by simp, ⟨_, _, _, _, rfl⟩, hok2, Hp.le_trans hR4 hR5⟩) ?_
  rintro ⟨k, w1, R6⟩ ⟨hk, hg1, hok3, hR6⟩
  try dsimp only
  dsimp only at hk hg1 hok3 hR6
  obtain ⟨vn3, css3, vo3, cs3, rfl⟩ := hg1
  refine Qd fun K32 hK32 => Qc ?_
  refine Pa (QW rfl rfl) ?_
  refine Qe (hK32 _ _ _ (Qd fun K33 hK33 => ?_))
  refine Qm rfl (fun hc78 => ?_) (fun hc78 => ?_)
  try simp only [dT, dF, nT, nF, tF, fT] at hc78
  refine Qj (hK33 _ _ _ (Qd fun K35 hK35 => Qq (Qd fun K36 hK36 => Qd fun K37 hK37 => ?_)))
  have hk2 : k < rr := by have hz := hc78; omega
  have e60 := QmU (show k < 60 by omega)
  have hjk := hB.rounds1 (G := G2) (k := k) (c := (20000 + 42000 + 9) + (60 - (k + 1)) * (n + 100) + 100 + n) (d := (1000 + 60 * n + 100 + 900) + (60 - (k + 1)) * n + n) (by rw [show (20000 + 42000 + 9) + (60 - (k + 1)) * (n + 100) + 100 + n + k * (n + 100) = (20000 + 42000 + 9) + 60 * (n + 100) by rw [e60 (n + 100)]; omega, show (1000 + 60 * n + 100 + 900) + (60 - (k + 1)) * n + n + k * n = (1000 + 60 * n + 100 + 900) + 60 * n by have := e60 n; omega]; exact hjp)
  obtain ⟨cc, hcc⟩ : ∃ cc, cc = (20000 + 42000 + 9) + (60 - (k + 1)) * (n + 100) := ⟨_, rfl⟩
  obtain ⟨dd, hdd⟩ : ∃ dd, dd = (1000 + 60 * n + 100 + 900) + (60 - (k + 1)) * n := ⟨_, rfl⟩
  rw [← hcc, ← hdd] at hjk
  obtain ⟨G3, hG3⟩ : ∃ G3, G3 = G2.rounds1 n k := ⟨_, rfl⟩
  rw [← hG3] at hjk hok3 ⊢
  refine Qc ?_
  refine Pm ?_
  refine Pm ?_
  refine Qe (hK37 _ _ _ (Qq ?_))
  refine Ql (E' := (fun (y : Nat × GV × Hp) => [(1, .string (str cmd)), (7, .int .i64 (n : Int)), (8, .pointer (some ⟨w.g, 0, none⟩)), (76, .int .u8 (rr : Int)), (77, .int .u8 (k : Int)), (79, .int .i64 (n : Int)), (80, .int .i64 (y.1 : Int))]) (0, ⟨w.g, w.va, w.n, vn3, css3, vo3, cs3⟩, R6)) (eC rfl (eC rfl (eC rfl (eC rfl (eC rfl (eC rfl (eC rfl eN))))))) ?_
  refine Xm (M := (fun (y : Nat × GV × Hp) => grL y.2.1 (G3.ticks y.1) ++ F) (0, ⟨w.g, w.va, w.n, vn3, css3, vo3, cs3⟩, R6)) sb_ ?_
  refine Xg (fun (y : Nat × GV × Hp) => [(1, .string (str cmd)), (7, .int .i64 (n : Int)), (8, .pointer (some ⟨w.g, 0, none⟩)), (76, .int .u8 (rr : Int)), (77, .int .u8 (k : Int)), (79, .int .i64 (n : Int)), (80, .int .i64 (y.1 : Int))]) (fun (y : Nat × GV × Hp) => y.2.2) (fun (y : Nat × GV × Hp) => grL y.2.1 (G3.ticks y.1) ++ F) (fun (y : Nat × GV × Hp) => y.1 ≤ n ∧ (∃ vn css vo cs, y.2.1 = ⟨w.g, w.va, w.n, vn, css, vo, cs⟩) ∧ GOk y.2.2 y.2.1 (G3.ticks y.1) ∧ R6.le y.2.2) (fun (y : Nat × GV × Hp) => n - y.1) (0, ⟨w.g, w.va, w.n, vn3, css3, vo3, cs3⟩, R6) (⟨by simp, ⟨_, _, _, _, rfl⟩, hok3, Hp.le_refl _⟩) ?_
  rintro ⟨j, w2, R7⟩ ⟨hj3, hg2, hok4, hR7⟩
  try dsimp only
  dsimp only at hj3 hg2 hok4 hR7
  obtain ⟨vn4, css4, vo4, cs4, rfl⟩ := hg2
  refine Qd fun K38 hK38 => Qc ?_
  refine Pa (QW rfl rfl) ?_
  refine Qe (hK38 _ _ _ (Qd fun K39 hK39 => ?_))
  refine Qm rfl (fun hc81 => ?_) (fun hc81 => ?_)
  try simp only [dT, dF, nT, nF, tF, fT] at hc81
  refine Qj (hK39 _ _ _ (Qd fun K41 hK41 => Qq (Qd fun K42 hK42 => ?_)))
  have hj4 : j < n := by have hz := hc81; omega
  have hjt := hB.ticks (c := cc + 100 + (n - j)) (d := dd + (n - j)) (k := j) (by omega) (by rw [show cc + 100 + (n - j) + j = cc + 100 + n by omega, show dd + (n - j) + j = dd + n by omega]; exact hjk)
  have hjt2 := hB.tick (cc + 100 + (n - (j + 1))) (dd + (n - (j + 1))) _ j hj4 (by rw [show cc + 100 + (n - (j + 1)) + 1 = cc + 100 + (n - j) by omega, show dd + (n - (j + 1)) + 1 = dd + (n - j) by omega]; exact hjt)
  refine Qc ?_
  refine Pm ?_
  refine Ps ?_
  refine Qe (hK42 _ _ _ (Qc ?_))
  refine Pm ?_
  refine Pm ?_
  refine Ra Tryz.call26 (Qet ⟨w.g, w.va, w.n, vn4, css4, vo4, cs4⟩ (G3.ticks j) j hok4 (by rw [hB.ln _ _ _ hjt]; exact hj4) (hB.gw _ _ _ hjt) (hB.gw _ _ _ hjt2)) ?_
  rintro x R8 L' hR8 ⟨vn6, css6, vo6, cs6, hok6, rfl⟩
  rw [← ZY]
  try simp only [cA, nA]
  refine Qe (hK41 _ _ _ ?_)
  refine Ql (eL 1 rfl (eL 7 rfl (eL 8 rfl (eL 76 rfl (eL 77 rfl (eL 79 rfl (eL 80 rfl eN))))))) ?_
  refine Qc ?_
  first | refine Pa (Qy rfl rfl om_) ?_ | refine Pa (QS rfl rfl) ?_
  refine Pm ?_
  refine Qe ?_
  refine Xs (q' := Xe _ _ _ _ _ _ _) rfl ?_
  refine QM ((j + 1, ⟨w.g, w.va, w.n, vn6, css6, vo6, cs6⟩, R8)) (⟨by dsimp only; omega, ⟨_, _, _, _, rfl⟩, by dsimp only; rw [ZY]; exact hok6, Hp.le_trans hR7 hR8⟩) (by dsimp only; omega) (eC rfl (eC rfl (eC rfl (eC rfl (eC rfl (eC rfl (eC rfl eN))))))) rfl sb_
  try simp only [dT, dF, nT, nF, tF, fT] at hc81
  refine QQ (hK36 _ _ _ (Qd fun K43 hK43 => ?_))
  have hjn0 : j = n := by have hz := hc81; omega
  have hjt := hB.ticks (c := cc + 100) (d := dd) (k := n) (Nat.le_refl n) hjk
  rw [hjn0] at hok4 ⊢
  obtain ⟨G6, hG6⟩ : ∃ G6, G6 = G3.ticks n := ⟨_, rfl⟩
  rw [← hG6] at hjt hok4 ⊢
  refine Qc ?_
  refine Ps ?_
  refine Qe (hK43 _ _ _ (Qq ?_))
  refine Ql (E' := (fun (z : Nat × GV × Hp) => [(1, .string (str cmd)), (7, .int .i64 (n : Int)), (8, .pointer (some ⟨w.g, 0, none⟩)), (15, .int .i64 (z.1 : Int)), (76, .int .u8 (rr : Int)), (77, .int .u8 (k : Int))]) (0, ⟨w.g, w.va, w.n, vn4, css4, vo4, cs4⟩, R7)) (eC rfl (eC rfl (eC rfl (eC rfl (eC rfl (eC rfl eN)))))) ?_
  refine Xm (M := (fun (z : Nat × GV × Hp) => grL z.2.1 (G6.dels z.1) ++ F) (0, ⟨w.g, w.va, w.n, vn4, css4, vo4, cs4⟩, R7)) sb_ ?_
  refine Xg (fun (z : Nat × GV × Hp) => [(1, .string (str cmd)), (7, .int .i64 (n : Int)), (8, .pointer (some ⟨w.g, 0, none⟩)), (15, .int .i64 (z.1 : Int)), (76, .int .u8 (rr : Int)), (77, .int .u8 (k : Int))]) (fun (z : Nat × GV × Hp) => z.2.2) (fun (z : Nat × GV × Hp) => grL z.2.1 (G6.dels z.1) ++ F) (fun (z : Nat × GV × Hp) => z.1 ≤ 100 ∧ (∃ vn css vo cs, z.2.1 = ⟨w.g, w.va, w.n, vn, css, vo, cs⟩) ∧ GOk z.2.2 z.2.1 (G6.dels z.1) ∧ R7.le z.2.2) (fun (z : Nat × GV × Hp) => 100 - z.1) (0, ⟨w.g, w.va, w.n, vn4, css4, vo4, cs4⟩, R7) (⟨by simp, ⟨_, _, _, _, rfl⟩, hok4, Hp.le_refl _⟩) ?_
  rintro ⟨q, w3, R8⟩ ⟨hq, hg3, hok5, hR8⟩
  try dsimp only
  dsimp only at hq hg3 hok5 hR8
  obtain ⟨vn5, css5, vo5, cs5, rfl⟩ := hg3
  refine Qd fun K44 hK44 => Qd fun K45 hK45 => Qc ?_
  refine Pm ?_
  refine Pa (QW rfl rfl) ?_
  refine Pm ?_
  refine QL 89 rfl (fun hg89 => ?_) (fun hg89 => ?_)
  try simp only [dT, dF, nT, nF, tF, fT] at hg89
  refine Pb (Qg rfl) ?_
  refine Pb (Ca Tryz.call28 (QcF ⟨w.g, w.va, w.n, vn5, css5, vo5, cs5⟩)) ?_
  refine Pb (Ca Tryz.call29 (jy w.n vn5 (G6.dels q).last (G6.dels q).st css5)) ?_
  refine Pb (XN rfl rfl) ?_
  refine Pa (Qr rfl rfl) ?_
  refine Qe (hK45 _ _ _ ?_)
  refine Qm rfl (fun hc94 => ?_) (fun hc94 => ?_)
  try simp only [dT, dF, nT, nF, tF, fT] at hc94
  refine Qj (hK44 _ _ _ (Qd fun K47 hK47 => Qq ?_))
  have hq2 : q < 100 := by (try simp at hg89); omega
  have hln : (G6.dels q).st.length > 0 := by (try simp at hc94); omega
  have hd1 : (G6.dels q).deliver 0 = G6.dels (q + 1) := by show _ = (G6.dels q).del1; unfold GS.del1; rw [if_pos hln]
  have hjd := hB.dels (c := cc + (100 - q)) (k := q) (by rw [show cc + (100 - q) + q = cc + 100 by omega]; exact hjt)
  have hjd2 := hB.del (cc + (100 - (q + 1))) dd _ 0 (by rw [show cc + (100 - (q + 1)) + 1 = cc + (100 - q) by omega]; exact hjd)
  refine Qc ?_
  refine Pm ?_
  refine Ra Tryz.call31 (Qa9 ⟨w.g, w.va, w.n, vn5, css5, vo5, cs5⟩ (G6.dels q) 0 hok5 (hB.gw _ _ _ hjd) (hB.gw _ _ _ hjd2)) ?_
  rintro x R9 L' hR9 ⟨rfl, vn6, css6, vo6, cs6, hok6, rfl⟩
  rw [hd1]
  try simp only [cA, nA]
  refine Qe (hK47 _ _ _ (Qc ?_))
  refine Pm ?_
  first | refine Pa (Qy rfl rfl om_) ?_ | refine Pa (QS rfl rfl) ?_
  refine Ps ?_
  refine Qe ?_
  refine Xs (q' := Xe _ _ _ _ _ _ _) rfl ?_
  refine QM ((q + 1, ⟨w.g, w.va, w.n, vn6, css6, vo6, cs6⟩, R9)) (⟨by dsimp only; omega, ⟨_, _, _, _, rfl⟩, by dsimp only; rw [hd1] at hok6; exact hok6, Hp.le_trans hR8 hR9⟩) (by dsimp only; omega) (eC rfl (eC rfl (eC rfl (eC rfl (eC rfl (eC rfl eN)))))) rfl sb_
  try simp only [dT, dF, nT, nF, tF, fT] at hc94
  refine QQ (hK35 _ _ _ ?_)
  have hfin : G6.dels q = G6.dels 100 := by first | (exact (zn (by omega) (by omega)).symm) | (rw [show q = 100 by omega])
  have hrd : G6.dels 100 = G2.rounds1 n (k + 1) := by rw [hG6, hG3]; rfl
  rw [hfin, hrd] at hok5 ⊢
  refine Qc ?_
  refine Pa ((Yld.to (u := .int .u8 ((k + 1 : Nat) : Int)) (QS rfl rfl) (by rw [ZX (by (simp only [IntKind.min, IntKind.max, IntKind.signed, IntKind.bits, Bool.false_eq_true, ite_false, ite_true]; omega))]; congr 1))) ?_
  refine Pm ?_
  refine Qe ?_
  refine Xs (q' := Xe _ _ _ _ _ _ _) rfl ?_
  refine QM ((k + 1, ⟨w.g, w.va, w.n, vn5, css5, vo5, cs5⟩, R8)) (⟨by dsimp only; omega, ⟨_, _, _, _, rfl⟩, hok5, Hp.le_trans hR6 (Hp.le_trans hR7 hR8)⟩) (by dsimp only; omega) (eC rfl (eC rfl (eC rfl (eC rfl (eC rfl eN))))) rfl sb_
  try simp only [dT, dF, nT, nF, tF, fT] at hg89
  refine Pk ?_
  refine Pk ?_
  refine Pk ?_
  refine Pk ?_
  refine Pa (Qp rfl rfl) ?_
  refine Qe (hK45 _ _ _ ?_)
  refine Ql (eL 1 rfl (eL 7 rfl (eL 8 rfl (eL 15 rfl (eL 76 rfl (eL 77 rfl (eL 94 rfl eN))))))) ?_
  refine Qt rfl (QQ (hK35 _ _ _ ?_))
  have hfin : G6.dels q = G6.dels 100 := by first | (exact (zn (by omega) (by omega)).symm) | (rw [show q = 100 by omega])
  have hrd : G6.dels 100 = G2.rounds1 n (k + 1) := by rw [hG6, hG3]; rfl
  rw [hfin, hrd] at hok5 ⊢
  refine Qc ?_
  refine Pa ((Yld.to (u := .int .u8 ((k + 1 : Nat) : Int)) (QS rfl rfl) (by rw [ZX (by (simp only [IntKind.min, IntKind.max, IntKind.signed, IntKind.bits, Bool.false_eq_true, ite_false, ite_true]; omega))]; congr 1))) ?_
  refine Pm ?_
  refine Qe ?_
  refine Xs (q' := Xe _ _ _ _ _ _ _) rfl ?_
  refine QM ((k + 1, ⟨w.g, w.va, w.n, vn5, css5, vo5, cs5⟩, R8)) (⟨by dsimp only; omega, ⟨_, _, _, _, rfl⟩, hok5, Hp.le_trans hR6 (Hp.le_trans hR7 hR8)⟩) (by dsimp only; omega) (eC rfl (eC rfl (eC rfl (eC rfl (eC rfl eN))))) rfl sb_
  try simp only [dT, dF, nT, nF, tF, fT] at hc78
  refine QQ (hK30 _ _ _ (Qd fun K48 hK48 => Qd fun K49 hK49 => ?_))
  have hkr : k = rr := by have hz := hc78; omega
  rw [hkr] at hok3 ⊢
  rw [← hG4] at hok3 ⊢
  have hjr := hB.rounds1 (G := G2) (k := rr) (c := 20000 + 42000 + 9) (d := 1000 + 60 * n + 100 + 900) (hB.leq (by have := Nat.mul_le_mul_right (n + 100) hr60; omega) (by have := Nat.mul_le_mul_right n hr60; omega) hjp)
  rw [← hG4] at hjr
  refine Qc ?_
  refine Pm ?_
  refine Pm ?_
  refine Qe (hK49 _ _ _ (Qq ?_))
  refine Ql (E' := (fun (y : Nat) => [(1, .string (str cmd)), (7, .int .i64 (n : Int)), (8, .pointer (some ⟨w.g, 0, none⟩)), (100, .int .i64 (n : Int)), (101, .int .i64 (y : Int))]) 0) (eC rfl (eC rfl (eC rfl (eC rfl (eC rfl eN))))) ?_
  refine Xm (M := (fun (y : Nat) => grL ⟨w.g, w.va, w.n, vn3, css3, vo3, cs3⟩ G4 ++ F) 0) sb_ ?_
  refine Xg (fun (y : Nat) => [(1, .string (str cmd)), (7, .int .i64 (n : Int)), (8, .pointer (some ⟨w.g, 0, none⟩)), (100, .int .i64 (n : Int)), (101, .int .i64 (y : Int))]) (fun (y : Nat) => R6) (fun (y : Nat) => grL ⟨w.g, w.va, w.n, vn3, css3, vo3, cs3⟩ G4 ++ F) (fun (y : Nat) => y ≤ n) (fun (y : Nat) => n - y) 0 (by simp) ?_
  rintro j hj5
  try dsimp only
  refine Qd fun K50 hK50 => Qc ?_
  refine Pa (QW rfl rfl) ?_
  refine Qe (hK50 _ _ _ (Qd fun K51 hK51 => ?_))
  refine Qm rfl (fun hc102 => ?_) (fun hc102 => ?_)
  try simp only [dT, dF, nT, nF, tF, fT] at hc102
  refine Qj (hK51 _ _ _ (Qd fun K53 hK53 => Qq (Qd fun K54 hK54 => ?_)))
  have hj6 : j < n := by have hz := hc102; omega
  obtain ⟨m0, hm0⟩ : ∃ m, G4.ms[j]? = some m := ⟨_, List.getElem?_eq_getElem (by rw [hB.ln _ _ _ hjr]; exact hj6)⟩
  have hml := q1 m0 (List.mem_of_getElem? hm0)
  obtain ⟨c0, hc0, _, _⟩ := hok3.at hm0
  refine qK (A := grA ⟨w.g, w.va, w.n, vn3, css3, vo3, cs3⟩ G4) fd_ (Qbf hc0 hm0) (fun hq => ?_)
  obtain ⟨q0, cap0, hq0⟩ := hq
  refine Qc ?_
  refine Pm ?_
  refine Ps ?_
  refine Qe (hK54 _ _ _ (Qd fun K55 hK55 => Qc ?_))
  refine Pm ?_
  refine Pm ?_
  refine Pa (Ca Tryz.call17 ((Qex (w := ⟨w.g, w.va, w.n, vn3, css3, vo3, cs3⟩) (i := j) hc0 hm0).eq3 hq0)) ?_
  first | refine Pa (QG Tryz.underlying42 rfl) ?_ | refine Pa (QB Tryz.underlying42 rfl fd_) ?_
  refine Pa ((Yld.to (u := .bool false) (XY rfl rfl) (by rw [hml]; simp))) ?_
  refine Qe (hK55 _ _ _ (Qt rfl (Qj (hK53 _ _ _ (Qc ?_)))))
  first | refine Pa (Qy rfl rfl om_) ?_ | refine Pa (QS rfl rfl) ?_
  refine Pm ?_
  refine Qe ?_
  refine Xs (q' := Xe _ _ _ _ _ _ _) rfl ?_
  refine QM (j + 1) (by omega) (by omega) (eC rfl (eC rfl (eC rfl (eC rfl (eC rfl eN))))) rfl sb_
  try simp only [dT, dF, nT, nF, tF, fT] at hc102
  refine QQ (hK48 _ _ _ (Qd fun K56 hK56 => Qd fun K57 hK57 => Qc ?_))
  refine Pm ?_
  refine Pm ?_
  refine Qe (hK57 _ _ _ (Qq ?_))
  refine Ql (E' := (fun (x : Nat × GV × Hp) => [(1, .string (str cmd)), (7, .int .i64 (n : Int)), (8, .pointer (some ⟨w.g, 0, none⟩)), (110, .int .i64 (n : Int)), (111, .int .i64 (x.1 : Int))]) (0, ⟨w.g, w.va, w.n, vn3, css3, vo3, cs3⟩, R6)) (eC rfl (eC rfl (eC rfl (eC rfl (eC rfl eN))))) ?_
  refine Xm (M := (fun (x : Nat × GV × Hp) => grL x.2.1 (G4.crashes x.1) ++ F) (0, ⟨w.g, w.va, w.n, vn3, css3, vo3, cs3⟩, R6)) sb_ ?_
  refine Xg (fun (x : Nat × GV × Hp) => [(1, .string (str cmd)), (7, .int .i64 (n : Int)), (8, .pointer (some ⟨w.g, 0, none⟩)), (110, .int .i64 (n : Int)), (111, .int .i64 (x.1 : Int))]) (fun (x : Nat × GV × Hp) => x.2.2) (fun (x : Nat × GV × Hp) => grL x.2.1 (G4.crashes x.1) ++ F) (fun (x : Nat × GV × Hp) => x.1 ≤ n ∧ (∃ vn css vo cs, x.2.1 = ⟨w.g, w.va, w.n, vn, css, vo, cs⟩) ∧ GOk x.2.2 x.2.1 (G4.crashes x.1) ∧ R.le x.2.2) (fun (x : Nat × GV × Hp) => n - x.1) (0, ⟨w.g, w.va, w.n, vn3, css3, vo3, cs3⟩, R6) (⟨by simp, ⟨_, _, _, _, rfl⟩, hok3, hR6⟩) ?_
  rintro ⟨i, w1, R7⟩ ⟨hi, hg1, hok4, hR7⟩
  try dsimp only
  dsimp only at hi hg1 hok4 hR7
  obtain ⟨vn4, css4, vo4, cs4, rfl⟩ := hg1
  refine Qd fun K58 hK58 => Qc ?_
  refine Pa (QW rfl rfl) ?_
  refine Qe (hK58 _ _ _ (Qd fun K59 hK59 => ?_))
  refine Qm rfl (fun hc112 => ?_) (fun hc112 => ?_)
  try simp only [dT, dF, nT, nF, tF, fT] at hc112
  refine Qj (hK59 _ _ _ (Qd fun K61 hK61 => Qq (Qd fun K62 hK62 => ?_)))
  have hi2 : i < n := by have hz := hc112; omega
  have hjc := hB.crashes (G := G4) (c := 20000 + 42000 + 3 + 1) (k := i) (by omega) (hB.leq (c' := 20000 + 42000 + 9) (by omega) (Nat.le_refl _) hjr)
  refine Qc ?_
  refine Pm ?_
  refine Ps ?_
  refine Qe (hK62 _ _ _ (Qc ?_))
  refine Pm ?_
  refine Pm ?_
  refine Ra Tryz.call12 (QhV ⟨w.g, w.va, w.n, vn4, css4, vo4, cs4⟩ (G4.crashes i) i 0 hok4 (by rw [hB.ln _ _ _ hjc]; exact hi2) (hB.gw _ _ _ hjc) (fun m hm => hB.opens (20000 + 42000 + 3) _ (G4.crashes i) i m 0 hjc hm)) ?_
  rintro x R8 L' hR8 ⟨vn5, css5, vo5, cs5, hok5, rfl⟩
  rw [show (G4.crashes i).crash i 0 = G4.crashes (i + 1) from rfl] at hok5 ⊢
  try simp only [cA, nA]
  refine Qe (hK61 _ _ _ ?_)
  refine Ql (eL 1 rfl (eL 7 rfl (eL 8 rfl (eL 110 rfl (eL 111 rfl eN))))) ?_
  refine Qc ?_
  first | refine Pa (Qy rfl rfl om_) ?_ | refine Pa (QS rfl rfl) ?_
  refine Pm ?_
  refine Qe ?_
  refine Xs (q' := Xe _ _ _ _ _ _ _) rfl ?_
  refine QM ((i + 1, ⟨w.g, w.va, w.n, vn5, css5, vo5, cs5⟩, R8)) (⟨by dsimp only; omega, ⟨_, _, _, _, rfl⟩, hok5, Hp.le_trans hR7 hR8⟩) (by dsimp only; omega) (eC rfl (eC rfl (eC rfl (eC rfl (eC rfl eN))))) rfl sb_
  try simp only [dT, dF, nT, nF, tF, fT] at hc112
  refine QQ (hK56 _ _ _ (Qd fun K63 hK63 => ?_))
  have hin : i = n := by have hz := hc112; omega
  rw [hin] at hok4 ⊢
  have hjc := hB.crashes (G := G4) (c := 20000 + 42000 + 4) (k := n) (Nat.le_refl n) (hB.leq (c' := 20000 + 42000 + 9) (by omega) (Nat.le_refl _) hjr)
  obtain ⟨G7, hG7⟩ : ∃ G7, G7 = G4.crashes n := ⟨_, rfl⟩
  rw [← hG7] at hok4 hjc hG5 ⊢
  have hjc2 := hB.leq (c := 1 + 10 * (n + 200) + 200 * (n + 200)) (d := 1 + 10 * n + 200 * n) (by omega) (by omega) hjc
  have hj8 := hB.rounds (G := G7) (k := 200) (c := 1 + 10 * (n + 200)) (d := 1 + 10 * n) hjc2
  rw [← hG5] at hj8
  have hjq := hB.prop (10 * (n + 200)) (10 * n) G5 L Za q6 (by decide) (by rw [show 10 * (n + 200) + 1 = 1 + 10 * (n + 200) by omega, show 10 * n + 1 = 1 + 10 * n by omega]; exact hj8)
  have hjq2 := hB.rounds (G := (G5.propose L Za).2) (k := 10) (c := 0) (d := 0) (by rw [Nat.zero_add, Nat.zero_add]; exact hjq)
  obtain ⟨P, hP⟩ : ∃ P, P = G5.propose L Za := ⟨_, rfl⟩
  obtain ⟨Q, hQ⟩ : ∃ Q, Q = P.2.rounds n 10 := ⟨_, rfl⟩
  rw [← hP] at q3 q4 q5 hjq hjq2
  rw [← hQ] at q4 q5 hjq2
  refine Qc ?_
  refine Pm ?_
  refine Pm ?_
  refine Ra Tryz.call13 (ze ⟨w.g, w.va, w.n, vn4, css4, vo4, cs4⟩ G7 n 200 (1 + 10 * (n + 200)) (1 + 10 * n) C hB (by omega) (by omega) hok4 hjc2) ?_
  rintro x R8 L' hR8 ⟨rfl, vn5, css5, vo5, cs5, hok5, rfl⟩
  rw [← hG5] at hok5 ⊢
  rw [q2]
  clear hG5 hG4
  try simp only [cA, nA]
  refine Pm ?_
  refine Pa (Qo rfl rfl) ?_
  refine Pa (Qo rfl rfl) ?_
  refine Ps ?_
  refine Ps ?_
  refine Qe (hK63 _ _ _ (Qd fun K64 hK64 => Qc ?_))
  refine Pm ?_
  refine Pm ?_
  refine Ra Tryz.call16 (zM ⟨w.g, w.va, w.n, vn5, css5, vo5, cs5⟩ G5 L Za (by decide) hok5 (by rw [hB.ln _ _ _ hj8]; exact q6) (hB.gw _ _ _ hj8) (by rw [← hP]; exact hB.gw _ _ _ hjq)) ?_
  rintro x R9 L' hR9 ⟨rfl, vn6, css6, vo6, cs6, hok6, rfl⟩
  rw [← hP] at hok6 ⊢
  clear hP
  try simp only [cA, nA]
  refine Pm ?_
  refine Pa (Qo rfl rfl) ?_
  refine Pa (Qo rfl rfl) ?_
  refine Ps ?_
  refine Ps ?_
  refine Qe (hK64 _ _ _ (Qd fun K65 hK65 => Qd fun K66 hK66 => Qc ?_))
  refine Pm ?_
  refine Pm ?_
  refine Ra Tryz.call13 (ze ⟨w.g, w.va, w.n, vn6, css6, vo6, cs6⟩ P.2 n 10 0 0 C hB (by omega) (by omega) hok6 (by rw [Nat.zero_add, Nat.zero_add]; exact hjq)) ?_
  rintro x R10 L' hR10 ⟨rfl, vn7, css7, vo7, cs7, hok7, rfl⟩
  rw [← hQ] at hok7 ⊢
  clear hQ
  try simp only [cA, nA]
  refine Pm ?_
  refine Pa (Qo rfl rfl) ?_
  refine Pa (Qo rfl rfl) ?_
  refine Ps ?_
  refine Ps ?_
  refine Qe (hK66 _ _ _ ?_)
  refine Ql (eL 1 rfl (eL 8 rfl (eL 11 rfl (eL 19 rfl (eL 22 rfl eN))))) ?_
  refine Qd fun K67 hK67 => Qc ?_
  refine Pm ?_
  refine Pa (Yp rfl) ?_
  refine Pm ?_
  refine Pb ((Yld.to (u := .bool true) (Qg rfl) (by rw [q4]; rfl))) ?_
  refine Pb (Yp rfl) ?_
  refine Pa (Qp rfl rfl) ?_
  refine Pm ?_
  refine Pb (Qg rfl) ?_
  refine Pb ((Yld.to (u := .bool false) (QR rfl rfl) (by rw [decide_eq_false q3]))) ?_
  refine Pa (Qp rfl rfl) ?_
  refine Qe (hK67 _ _ _ (Qt rfl (Qj (hK65 _ _ _ (Qd fun K68 hK68 => ?_)))))
  obtain ⟨m0, hm0⟩ : ∃ m, Q.ms[0]? = some m := ⟨_, List.getElem?_eq_getElem (by rw [hB.ln _ _ _ hjq2]; omega)⟩
  have hml := q5 m0 hm0
  obtain ⟨c0, hc0, _, _⟩ := hok7.at hm0
  refine qK (A := grA ⟨w.g, w.va, w.n, vn7, css7, vo7, cs7⟩ Q) fd_ (Qbf hc0 hm0) (fun hq => ?_)
  obtain ⟨q0, cap0, hq0⟩ := hq
  refine Qc ?_
  refine Pm ?_
  refine Pa (Ca Tryz.call17 ((Qex (w := ⟨w.g, w.va, w.n, vn7, css7, vo7, cs7⟩) (i := 0) hc0 hm0).eq3 rfl)) ?_
  refine Ps ?_
  refine Qe (hK68 _ _ _ (Qd fun K69 hK69 => ?_))
  refine Qh8 (l := ZA cs7 Q.ms) fd_ (qH hc0 hm0) ?_
  have hlen : m0.l.length = 1 ∨ m0.l.length = 2 := by rcases hml with h | h <;> rw [h] <;> simp
  have hld : nth (bsV m0.l) (((m0.l.length : Int) - 1).toNat * 1) = some (.string (str Za)) := by rcases hml with h | h <;> rw [h] <;> rfl
  obtain ⟨x0, hx0, hx1⟩ : ∃ x0, nth (bsV m0.l) ((0 : Int).toNat * 1) = some (.string (str x0)) ∧ (m0.l.length = 2 → x0 = cmd) := by rcases hml with h | h; exact ⟨Za, by rw [h]; rfl, by rw [h]; simp⟩; exact ⟨cmd, by rw [h]; rfl, fun _ => rfl⟩
  rw [show Yd c0 m0 = mbB c0 m0.ap :: lsB c0.l c0.vl :: lsS c0.vl m0.l :: ndI c0.b c0.v m0.x m0.D from rfl, hq0]
  refine Qc ?_
  refine Pm ?_
  first | refine Pa (QG Tryz.underlying42 rfl) ?_ | refine Pa (QB Tryz.underlying42 rfl fd_) ?_
  refine Pa ((Yld.to (u := .bool true) (XN rfl rfl) (by rw [decide_eq_true (by omega)]))) ?_
  refine Pm ?_
  refine Pb (Qg rfl) ?_
  first | refine Pb (QG Tryz.underlying42 rfl) ?_ | refine Pb (QB Tryz.underlying42 rfl fd_) ?_
  refine Pb ((Yld.to (u := .bool true) (zq rfl rfl) (by rw [decide_eq_true (by omega)]))) ?_
  refine Pa (Qr rfl rfl) ?_
  refine Pm ?_
  refine Pb (Qg rfl) ?_
  refine Pb (Qg rfl) ?_
  first | refine Pb (QG Tryz.underlying42 rfl) ?_ | refine Pb (QB Tryz.underlying42 rfl fd_) ?_
  first | refine Pb (YB rfl rfl om_) ?_ | refine Pb (qN rfl rfl) ?_
  first | refine Pb (Qu Tryz.underlying42 Tryz.sizeOf9 rfl rfl om_) ?_ | refine Pb (Qs Tryz.underlying42 Tryz.sizeOf9 rfl rfl fd_ om_) ?_
  refine Pb ((Xz o9 rfl fd_ hld)) ?_
  refine Pb ((Yld.to (u := .bool true) (yv rfl rfl) (by simp [Za]))) ?_
  refine Pa (Qr rfl rfl) ?_
  refine Pm ?_
  refine Pb (Qg rfl) ?_
  first | refine Pb (QG Tryz.underlying42 rfl) ?_ | refine Pb (QB Tryz.underlying42 rfl fd_) ?_
  refine Pb (QR rfl rfl) ?_
  refine Pb (Qg rfl) ?_
  refine QL 169 rfl (fun hg169 => ?_) (fun hg169 => ?_)
  try simp only [dT, dF, nT, nF, tF, fT] at hg169
  refine Pk ?_
  refine Pk ?_
  refine Pk ?_
  refine Pk ?_
  refine Pk ?_
  refine Pb (Qr rfl rfl) ?_
  refine Pa (Qr rfl rfl) ?_
  refine Ps ?_
  refine Qe (hK69 _ _ _ ?_)
  refine Ql (eL 6 rfl eN) ?_
  refine Qi (hret _ _ _ ?_)
  refine Ea Tryz.results6 (.cons (Qh rfl) .nil) [] (by first | exact hR1 | exact hR6 | exact Hp.le_trans hR7 (Hp.le_trans hR8 (Hp.le_trans hR9 hR10)) | exact Hp.le_refl _) ?_
  rfl
  try simp only [dT, dF, nT, nF, tF, fT] at hg169
  refine Pb (Qg rfl) ?_
  first | refine Pb (Qu Tryz.underlying42 Tryz.sizeOf9 rfl rfl om_) ?_ | refine Pb (Qs Tryz.underlying42 Tryz.sizeOf9 rfl rfl fd_ om_) ?_
  refine Pb ((Xz o9 rfl fd_ hx0)) ?_
  refine Pb (Qg rfl) ?_
  refine Pb ((Yld.to (u := .bool true) (yv rfl rfl) (by rw [hx1 (by (try simp at hg169); omega)]; simp))) ?_
  refine Pb (Qp rfl rfl) ?_
  refine Pa (Qr rfl rfl) ?_
  refine Ps ?_
  refine Qe (hK69 _ _ _ (Qi (hret _ _ _ ?_)))
  refine Ea Tryz.results6 (.cons (Qh rfl) .nil) [] (by first | exact hR1 | exact hR6 | exact Hp.le_trans hR7 (Hp.le_trans hR8 (Hp.le_trans hR9 hR10)) | exact Hp.le_refl _) ?_
  rfl
 refine Qd fun K70 hK70 => Qc ?_
 refine Pm ?_
 refine Qe (hK70 _ _ _ ?_)
 refine Qm rfl (fun hc37 => ?_) (fun hc37 => ?_)
 try simp only [dT, dF, nT, nF, tF, fT] at hc37
 refine Qc ?_
 refine Ps ?_
 refine Qe ?_
 refine QF hJ8 (5) (.inr rfl) (eC rfl (eC rfl (eC rfl eN))) rfl sb_
 try simp only [dT, dF, nT, nF, tF, fT] at hc37
 refine Qj ?_
 refine QF hJ8 (3) (.inl rfl) (eC rfl (eC rfl (eC rfl eN))) rfl sb_
theorem yt {x : ND} (h : x.out = []) : x.feedAll.out = (x.others.map x.feedMsg).map x.stamp := by rw [XW]; unfold ND.sends; simp [h]
theorem Qch {x : ND} (h : x.out = []) : x.askAll.out = (x.others.map x.askMsg).map x.stamp := by unfold ND.askAll; rw [qM]; unfold ND.sends; simp [h]
theorem Qbo {y : ND} (h : y.out = []) (m : Msg) : (y.send m).out = [y.stamp m] := by unfold ND.send; rw [h]; rfl
structure LB (T I : Int) (g : LG) : Prop where
 term : 0 ≤ g.term ∧ g.term ≤ T
 vote : -1 ≤ g.vote ∧ g.vote < 9
 base : 0 ≤ g.base
 baseT : 0 ≤ g.baseT ∧ g.baseT ≤ T
 last : g.last ≤ I
 all : ∀ e ∈ g.all, (0 ≤ e.1 ∧ e.1 ≤ T) ∧ e.2.length ≤ 100
 st : ((unS g.state).length : Int) ≤ g.base ∧ ∀ s ∈ unS g.state, s.length ≤ 100
 stl : g.state.length ≤ 1000000
theorem LB.mono {T T' I I' : Int} {g : LG} (h : LB T I g) (hT : T ≤ T') (hI : I ≤ I') : LB T' I' g :=
 ⟨⟨h.term.1, Int.le_trans h.term.2 hT⟩, h.vote, h.base, ⟨h.baseT.1, Int.le_trans h.baseT.2 hT⟩, Int.le_trans h.last hI, fun e he => ⟨⟨(h.all e he).1.1, Int.le_trans (h.all e he).1.2 hT⟩, (h.all e he).2⟩, h.st, h.stl⟩
theorem LB.set {T I : Int} {g : LG} (h : LB T I g) {t v : Int} (ht : 0 ≤ t ∧ t ≤ T) (hv : -1 ≤ v ∧ v < 9) : LB T I { g with term := t, vote := v } :=
 ⟨ht, hv, h.base, h.baseT, h.last, h.all, h.st, h.stl⟩
structure MB (T I : Int) (m : Msg) : Prop where
 term : 0 ≤ m.term ∧ m.term ≤ T
 index : 0 ≤ m.index ∧ m.index + m.es.length ≤ I
 logTerm : 0 ≤ m.logTerm ∧ m.logTerm ≤ T
 commit : 0 ≤ m.commit ∧ m.commit ≤ I
 es : m.es.length ≤ 8 ∧ ∀ e ∈ m.es, (0 ≤ e.1 ∧ e.1 ≤ T) ∧ e.2.length ≤ 100
 st : ((unS m.state).length : Int) ≤ m.index ∧ ∀ s ∈ unS m.state, s.length ≤ 100
 stl : m.state.length ≤ 1000000
theorem MB.mono {T T' I I' : Int} {m : Msg} (h : MB T I m) (hT : T ≤ T') (hI : I ≤ I') : MB T' I' m :=
 ⟨⟨h.term.1, Int.le_trans h.term.2 hT⟩, ⟨h.index.1, Int.le_trans h.index.2 hI⟩, ⟨h.logTerm.1, Int.le_trans h.logTerm.2 hT⟩, ⟨h.commit.1, Int.le_trans h.commit.2 hI⟩, ⟨h.es.1, fun e he => ⟨⟨(h.es.2 e he).1.1, Int.le_trans (h.es.2 e he).1.2 hT⟩, (h.es.2 e he).2⟩⟩, h.st, h.stl⟩
theorem MB.ln {T I : Int} {m : Msg} (h : MB T I m) : MLn T I m :=
 ⟨h.term, ⟨h.index.1, by have := h.index.2; omega⟩, h.logTerm, h.commit.1, ⟨by have := h.es.1; omega, h.es.2⟩, h.stl⟩
theorem MB.im {T I : Int} {m : Msg} (h : MB T I m) (hT : T ≤ 2305843009213693952) (hI : I ≤ 100000000000000) : MIm 0 m ∧ yx m :=
 ⟨h.ln.im hT hI (by have := h.commit.2; omega), by unfold yx; have := h.es.1; omega⟩
theorem Qcn : unS [] = [] := by decide
theorem MB.plain {T I : Int} {m : Msg} (ht : 0 ≤ m.term ∧ m.term ≤ T) (hi : 0 ≤ m.index ∧ m.index ≤ I) (hl : 0 ≤ m.logTerm ∧ m.logTerm ≤ T) (hc : m.commit = 0) (he : m.es = []) (hs : m.state = []) (hI : 0 ≤ I) : MB T I m :=
 ⟨ht, by rw [he]; simpa using hi, hl, by rw [hc]; omega, by rw [he]; simp, by rw [hs, Qcn]; simpa using hi.1, by rw [hs]; simp⟩
structure UB (T I : Int) (x : ND) : Prop where
 inn : LIn T I I.toNat x
 lb : LB T I x.g
theorem LB.of {T J I : Int} {A : Nat} {y : ND} (h : LIn T J A y) (hl : y.g.last ≤ I) (hs : ((unS y.g.state).length : Int) ≤ y.g.base ∧ ∀ s ∈ unS y.g.state, s.length ≤ 100) : LB T I y.g :=
 ⟨h.term, h.vote, h.base, h.baseT, hl, h.all, hs, h.state⟩
theorem UB.mk0 {T J I : Int} {A : Nat} {y : ND} (h : LIn T J A y) (hl : y.g.last ≤ I) (hp : ∀ p ∈ y.peers, p.1 ≤ I + 1 ∧ p.2 ≤ I) (hs : ((unS y.g.state).length : Int) ≤ y.g.base ∧ ∀ s ∈ unS y.g.state, s.length ≤ 100) : UB T I y :=
 ⟨⟨h.idn, h.down, h.term, h.vote, h.base, h.baseT, hl, h.state, by have := h.base; unfold LG.last at hl; omega, h.all, h.commit, h.patience, h.peers, fun p hq => by have h1 := h.peer p hq; have h2 := hp p hq; omega, h.pl, h.votes⟩, LB.of h hl hs⟩
theorem UB.mono {T T' I I' : Int} {x : ND} (h : UB T I x) (hT : T ≤ T') (hI : I ≤ I') : UB T' I' x := ⟨h.inn.mono hT hI (by omega), h.lb.mono hT hI⟩
theorem UB.pp {T I : Int} {x : ND} (h : UB T I x) : ∀ p ∈ x.peers, p.1 ≤ I + 1 ∧ p.2 ≤ I := fun p hp => by have := h.inn.peer p hp; omega
theorem UB.i0 {T I : Int} {x : ND} (h : UB T I x) : 0 ≤ I := by
 have h1 := h.lb.base
 have h2 := h.lb.last
 unfold LG.last at h2; omega
theorem UB.t0 {T I : Int} {x : ND} (h : UB T I x) : 0 ≤ T := by have h1 := h.lb.term; omega
theorem Qjz {T I : Int} {x : ND} (h : UB T I x) (i : Int) : 0 ≤ x.tAt i ∧ x.tAt i ≤ T := by
 have ht := h.t0
 have hb := h.lb.baseT
 unfold ND.tAt LG.termAt
 split
 ·exact hb
 ·cases h1 : x.g.at i with
  | none => simp; omega
  | some e => exact (h.lb.all e (LG.at_mem h1)).1
theorem Qml {T I : Int} {x : ND} (h : UB T I x) (to : Nat) : 0 ≤ x.nxt to ∧ x.nxt to ≤ I + 1 := by
 have h0 := h.i0
 unfold ND.nxt
 by_cases h1 : to < x.peers.length
 ·have hm : x.peers.getD to (0, 0) ∈ x.peers := by rw [List.getD_eq_getElem?_getD, List.getElem?_eq_getElem h1]; simp
  have := h.inn.peer _ hm; omega
 ·rw [List.getD_eq_getElem?_getD, List.getElem?_eq_none (by omega)]; simp; omega
theorem UB.feedM {T I : Int} {x : ND} (h : UB T I x) (to : Nat) : MB T I (x.stamp (x.feedMsg to)) := by
 have hn := Qml h to
 have hb := h.lb.base
 have hl := h.lb.last
 have hl2 : x.g.last = x.g.base + x.g.all.length := rfl
 have hc := h.inn.commit
 by_cases h1 : x.nxt to ≤ x.g.base
 ·rw [Qap h1]
  exact ⟨h.lb.term, ⟨hb, by show x.g.base + (([] : List Ent).length : Int) ≤ I; simp; omega⟩, h.lb.baseT, ⟨by show (0 : Int) ≤ 0; omega, by show (0 : Int) ≤ I; omega⟩, ⟨by show ([] : List Ent).length ≤ 8; simp, fun e he => by cases he⟩, h.lb.st, h.lb.stl⟩
 ·rw [yr h1]
  refine ⟨h.lb.term, ⟨by show 0 ≤ x.nxt to - 1; omega, ?_⟩, Qjz h _, ⟨by show 0 ≤ x.commit; omega, by show x.commit ≤ I; omega⟩, ⟨?_, fun e he => h.lb.all e (List.mem_of_mem_drop (List.mem_of_mem_take he))⟩, ?_, by show ([] : Bs).length ≤ 1000000; simp⟩
  ·show x.nxt to - 1 + (((x.g.all.drop (x.nxt to - x.g.base - 1).toNat).take 8).length : Int) ≤ I
   have : ((x.g.all.drop (x.nxt to - x.g.base - 1).toNat).take 8).length ≤ x.g.all.length - (x.nxt to - x.g.base - 1).toNat := by simp; omega
   omega
  ·show ((x.g.all.drop (x.nxt to - x.g.base - 1).toNat).take 8).length ≤ 8
   simp; omega
  ·show ((unS []).length : Int) ≤ x.nxt to - 1 ∧ ∀ s ∈ unS [], s.length ≤ 100
   rw [Qcn]; simp; omega
def cr (x : ND) : Int := if x.role = 1 then 1 else 0
theorem QcO (x : ND) : 0 ≤ cr x ∧ cr x ≤ 1 := by unfold cr; split <;> omega
def RB (T I c : Int) (y : ND) : Prop := ∃ I', I ≤ I' ∧ I' + cr y ≤ I + c ∧ UB T I' y ∧ ∀ m ∈ y.out, MB T I' m
theorem RB.same {T I c : Int} {y : ND} (h : UB T I y) (hc : cr y ≤ c) (ho : ∀ m ∈ y.out, MB T I m) : RB T I c y := ⟨I, Int.le_refl _, by omega, h, ho⟩
theorem UB.sends {T I : Int} {x : ND} (h : UB T I x) (l : List Msg) : UB T I { x with out := l } := ⟨h.inn.sends l, h.lb⟩
theorem qU (x : ND) : x.others.length ≤ x.n := by unfold ND.others; have := List.length_filter_le (fun i => i != x.id) (List.range x.n); simpa using this
theorem UB.feedAll {T I : Int} {x : ND} (h : UB T I x) (ho : x.out = []) : UB T I x.feedAll ∧ ∀ m ∈ x.feedAll.out, MB T I m := by
 refine ⟨by rw [XW]; exact h.sends _, fun m hm => ?_⟩
 rw [yt ho] at hm
 obtain ⟨m1, hm1, rfl⟩ := List.mem_map.1 hm
 obtain ⟨to, _, rfl⟩ := List.mem_map.1 hm1
 exact h.feedM to
theorem UB.count {T I : Int} {x : ND} (h : UB T I x) (hr : x.role = 2) : UB T I x.count := ⟨(h.inn.count hr).inn, by rw [qJ]; exact h.lb⟩
theorem UB.entryP {T I : Int} {x : ND} {cmd : Bs} (h : UB T I x) (ho : x.out = []) (hr : x.role = 2) (hc : cmd.length ≤ 100) : UB T (I + 1) (x.entryP cmd) ∧ ∀ m ∈ (x.entryP cmd).out, MB T (I + 1) m := by
 have hi := h.i0
 have hb := h.inn.commit
 have hl := h.lb.last
 have h1 := (h.inn.add (i := x.g.last) (m := [(x.g.term, cmd)]) ⟨h.inn.commit.2, Int.le_refl _⟩ (fun _ => Eq.refl _) (fun e he => by simp at he; subst he; exact ⟨h.inn.term, hc⟩)).inn
 have hla := yB (g := x.g) (i := x.g.last) (m := [(x.g.term, cmd)]) (by omega)
 have h2 : UB T (I + 1) { x with g := x.g.play (.add x.g.last [(x.g.term, cmd)]) } := UB.mk0 h1 (by show (x.g.play _).last ≤ _; rw [hla]; simp; omega) (fun p hp => by have := h.pp p hp; omega) h.lb.st
 unfold ND.entryP
 exact (h2.count hr).feedAll (by rw [(Zf _).1]; exact ho)
theorem UB.wins {T I : Int} {x : ND} (h : UB T I x) : UB T I x.wins := ⟨h.inn.wins, h.lb⟩
theorem Qcb (x : ND) (cmd : Bs) : (x.entryP cmd).role = x.role := by
 unfold ND.entryP; rw [XW]
 exact (Zf _).2.2.1
theorem UB.winP {T I : Int} {x : ND} (h : UB T I x) (ho : x.out = []) : UB T (I + 1) x.winP ∧ (∀ m ∈ x.winP.out, MB T (I + 1) m) ∧ cr x.winP = 0 := by
 have h1 := UB.entryP (x := x.wins) (cmd := []) h.wins ho rfl (by simp)
 exact ⟨h1.1, h1.2, by unfold cr ND.winP; rw [Qcb]; rfl⟩
theorem UB.askM {T I : Int} {x : ND} (h : UB T I x) (to : Nat) : MB T I (x.stamp (x.askMsg to)) :=
 MB.plain h.lb.term ⟨by have := h.lb.base; show 0 ≤ x.g.last; unfold LG.last; omega, h.lb.last⟩ (Qjz h _) rfl rfl rfl h.i0
theorem UB.standP {T I : Int} {x : ND} (h : UB T I x) (ho : x.out = []) (hv : (x.id : Int) < 9) : RB (T + 1) I (cr x + 1) x.standP := by
 have hc := QcO x
 have ht := h.lb.term
 have hid := h.inn.idn
 have h1 := ((h.inn.mono (show T ≤ T + 1 by omega) (Int.le_refl _) (Nat.le_refl _)).set (t := x.g.term + 1) (v := x.id) (by omega) (by omega) (.inl (by omega))).inn.stands
 have h2 : UB (T + 1) I (ND.stands { x with g := { x.g with term := x.g.term + 1, vote := x.id } }) := ⟨h1, (h.lb.mono (by omega) (Int.le_refl _)).set (by omega) (by omega)⟩
 unfold ND.standP
 by_cases hn : x.n = 1
 ·rw [if_pos hn]
  obtain ⟨a, b, c⟩ := h2.winP ho
  exact ⟨I + 1, by omega, by rw [c]; omega, a, b⟩
 ·rw [if_neg hn]
  have e : cr (ND.askAll (ND.stands { x with g := { x.g with term := x.g.term + 1, vote := x.id } })) = 1 := by unfold ND.askAll; rw [qM]; rfl
  refine RB.same ?_ (by rw [e]; omega) (fun m hm => ?_)
  ·unfold ND.askAll; rw [qM]; exact h2.sends _
  ·rw [Qch (x := ND.stands { x with g := { x.g with term := x.g.term + 1, vote := x.id } }) ho] at hm
   obtain ⟨m1, hm1, rfl⟩ := List.mem_map.1 hm
   obtain ⟨to, _, rfl⟩ := List.mem_map.1 hm1
   exact h2.askM to
theorem UB.pat {T I : Int} {x : ND} (h : UB T I x) {p : Int} (hp : 0 ≤ p ∧ p ≤ 30) : UB T I { x with patience := p } := ⟨(h.inn.pat hp).inn, h.lb⟩
theorem UB.tickP {T I : Int} {x : ND} (h : UB T I x) (ho : x.out = []) : RB (T + 1) I (cr x + 1) x.tickP := by
 have hc := QcO x
 have hp := h.inn.patience
 have hid := h.inn.idn
 have hlm := QaO x.id x.g.term
 have hm := h.mono (show T ≤ T + 1 by omega) (Int.le_refl I)
 unfold ND.tickP
 by_cases h1 : x.role = 2
 ·rw [if_pos h1]
  by_cases h2 : x.patience + 1 ≥ 3
  ·rw [if_pos h2]
   obtain ⟨a, b⟩ := (hm.pat (p := 0) (by omega)).feedAll ho
   exact RB.same a (by rw [XW]; show cr x ≤ _; omega) b
  ·rw [if_neg h2]
   exact RB.same (hm.pat (by omega)) (by show cr x ≤ _; omega) (fun m hm => by rw [show ({ x with patience := x.patience + 1 } : ND).out = x.out from rfl, ho] at hm; cases hm)
 ·rw [if_neg h1]
  by_cases h2 : x.patience + 1 ≥ YX x.id x.g.term
  ·rw [if_pos h2]
   have e : ND.standP { x with patience := x.patience + 1 } = ND.standP { x with patience := 0 } := Eq.refl _
   rw [e]
   exact UB.standP (x := { x with patience := 0 }) (h.pat (by omega)) ho (by show (x.id : Int) < 9; omega)
  ·rw [if_neg h2]
   exact RB.same (hm.pat (by omega)) (by show cr x ≤ _; omega) (fun m hm => by rw [show ({ x with patience := x.patience + 1 } : ND).out = x.out from rfl, ho] at hm; cases hm)
theorem UB.send1 {T I c : Int} {x : ND} (h : UB T I x) (ho : x.out = []) (m : Msg) (hm : MB T I (x.stamp m)) (hc : cr x ≤ c) : RB T I c (x.send m) :=
 RB.same (h.sends _) hc (fun m1 hm1 => by rw [Qbo ho] at hm1; simp at hm1; subst hm1; exact hm)
theorem UB.quiet {T I c : Int} {x : ND} (h : UB T I x) (ho : x.out = []) (hc : cr x ≤ c) : RB T I c x := RB.same h hc (fun m hm => by rw [ho] at hm; cases hm)
theorem UB.answer1 {T I c : Int} {x : ND} (h : UB T I x) (ho : x.out = []) (m : Msg) (ok : Bool) {i : Int} (hi : 0 ≤ i ∧ i ≤ I) (hc : cr x ≤ c) : RB T I c (x.answer m ok i) :=
 h.send1 ho _ (MB.plain h.lb.term hi ⟨by show (0 : Int) ≤ 0; omega, by have := h.t0; exact this⟩ rfl rfl rfl h.i0) hc
theorem UB.askedP {T I : Int} {x : ND} {m : Msg} (h : UB T I x) (ho : x.out = []) (hm : 0 ≤ m.frm ∧ m.frm < x.n) : RB T I (cr x) (x.askedP m) := by
 have hid := h.inn.idn
 have ht := h.t0
 have hi := h.inn.askedP hm
 have hv : ∀ (y : ND), y.g.term = x.g.term → ∀ ok, MB T I (y.stamp (ND.voteMsg m ok)) := fun y hy ok => MB.plain (by show 0 ≤ y.g.term ∧ y.g.term ≤ T; rw [hy]; exact h.lb.term) ⟨by show (0 : Int) ≤ 0; omega, h.i0⟩ ⟨by show (0 : Int) ≤ 0; omega, ht⟩ rfl rfl rfl h.i0
 unfold ND.askedP at hi ⊢
 by_cases h1 : x.grants m = true
 ·rw [if_pos h1] at hi ⊢
  refine RB.same ⟨hi.inn, h.lb.set h.lb.term (by omega)⟩ (by show cr x ≤ _; omega) (fun m1 hm1 => ?_)
  rw [Qbo (y := { x with g := { x.g with term := x.g.term, vote := m.frm }, patience := 0 }) ho] at hm1
  simp at hm1; subst hm1; exact hv _ rfl _
 ·rw [if_neg h1]
  exact h.send1 ho _ (hv x rfl false) (Int.le_refl _)
theorem UB.votedP {T I : Int} {x : ND} {m : Msg} (h : UB T I x) (ho : x.out = []) (hm : 0 ≤ m.frm ∧ m.frm < x.n) : RB T I (cr x) (x.votedP m) := by
 unfold ND.votedP
 by_cases h1 : ¬ x.role = 1 ∨ ¬ m.term = x.g.term ∨ m.ok = false
 ·rw [if_pos h1]; exact h.quiet ho (Int.le_refl _)
 ·rw [if_neg h1]
  have h2 : UB T I { x with votes := QU x.votes m.frm } := ⟨h.inn.vote1 hm, h.lb⟩
  split
  ·obtain ⟨a, b, c⟩ := UB.winP (x := { x with votes := QU x.votes m.frm }) h2 ho
   have hr : x.role = 1 := by
    by_cases hr : x.role = 1
    ·exact hr
    ·exact absurd (.inl hr) h1
   exact ⟨I + 1, by omega, by rw [c]; unfold cr; rw [if_pos hr]; omega, a, b⟩
  ·exact h2.quiet ho (Int.le_refl _)
theorem QkU {x : ND} {m : Msg} (h : ¬ (m.index < x.g.base ∧ (m.es.length : Int) < x.g.base - m.index)) : (x.cutM m).1 + (x.cutM m).2.length = m.index + m.es.length := by
 unfold ND.cutM
 split
 ·dsimp only; simp; omega
 ·rfl
theorem cr0 {x : ND} (h : x.role = 0) : cr x = 0 := by unfold cr; rw [if_neg (by omega)]
theorem UB.commits {T I : Int} {x : ND} (h : UB T I x) (m : Msg) {last : Int} (hl : last ≤ x.g.last) : UB T I (x.commits m last) := ⟨(LIn.commits (LT.rfl h.inn) m hl).inn, h.lb⟩
theorem UB.restP {T I : Int} {x : ND} {m : Msg} (h : UB T I x) (ho : x.out = []) (hr : x.role = 0) (hm : MB T I m) (hc : x.g.base ≤ (x.cutM m).1 ∧ (x.cutM m).1 ≤ x.g.last) (hn : ¬ (m.index < x.g.base ∧ (m.es.length : Int) < x.g.base - m.index)) : RB T I 0 (x.restP m (x.cutM m)) := by
 have he := QkU hn
 have hmi := hm.index
 have h0 : cr x ≤ 0 := by rw [cr0 hr]; omega
 have hb := h.lb.base
 have hcm := h.inn.commit
 have hb3 : (x.cutM m).2.length ≤ 20 ∧ ∀ e ∈ (x.cutM m).2, (0 ≤ e.1 ∧ e.1 ≤ T) ∧ e.2.length ≤ 100 := by
  have := hm.ln.es
  unfold ND.cutM
  split
  ·exact ⟨by simp; omega, fun e he => this.2 e (List.mem_of_mem_drop he)⟩
  ·exact this
 unfold ND.restP
 cases hfi : ND.fits x.g (x.cutM m).2 ((x.cutM m).1 + 1) with
 | none =>
  have hl : (x.cutM m).1 + (x.cutM m).2.length ≤ x.g.last := by
   rcases Qao hfi with h1 | h1
   ·rw [h1]; simp; omega
   ·omega
  exact (h.commits m hl).answer1 ho m true (by omega) h0
 | some p =>
  obtain ⟨i, l⟩ := p
  obtain ⟨a1, ⟨c, hc1, hc2⟩, a3⟩ := jh hfi
  dsimp only
  by_cases h1 : i ≤ x.commit
  ·rw [if_pos h1]; exact h.quiet ho h0
  ·rw [if_neg h1]
   have hi : x.commit ≤ i - 1 ∧ i - 1 ≤ x.g.last := by
    rcases a3 with a3 | ⟨e, a3⟩
    ·omega
    ·have := yZ a3; omega
   have hll : l.length ≤ (x.cutM m).2.length := by rw [hc1]; simp
   have h2 := (h.inn.add (i := i - 1) (m := l) hi (fun hr2 => absurd (hr.symm.trans hr2) (by decide)) (fun e he => hb3.2 e (by rw [hc1] at he; exact List.mem_of_mem_drop he))).inn
   have hpl := yB (g := x.g) (i := i - 1) (m := l) (by omega)
   have hcl : c < (x.cutM m).2.length := by
    by_cases hcl : c < (x.cutM m).2.length
    ·exact hcl
    ·have : l = [] := by rw [hc1]; exact List.drop_eq_nil_of_le (by omega)
     exfalso
     have key : ∀ {l : List Ent} {i j : Int} {l2 : List Ent}, ND.fits x.g l i = some (j, l2) → l2 ≠ [] := by
      intro l
      induction l with
      | nil => intro i j l2 h; cases h
      | cons e l ih =>
       intro i j l2 h
       by_cases h1 : (x.g.at i).map (·.1) = some e.1
       ·rw [yi h1] at h; exact ih h
       ·rw [yj h1] at h; cases h; simp
     exact key hfi this
   have hle : (x.g.play (.add (i - 1) l)).last = (x.cutM m).1 + (x.cutM m).2.length := by
    rw [hpl, hc1]; simp; omega
   have h3 : UB T I { x with g := x.g.play (.add (i - 1) l) } := UB.mk0 h2 (by show (x.g.play _).last ≤ I; rw [hle]; omega) h.pp h.lb.st
   exact (h3.commits m (last := (x.cutM m).1 + (x.cutM m).2.length) (by show _ ≤ (x.g.play _).last; rw [hle]; omega)).answer1 ho m true (by omega) h0
theorem UB.addP {T I : Int} {x : ND} {m : Msg} (h : UB T I x) (ho : x.out = []) (hr : x.role = 0) (hm : MB T I m) : RB T I 0 (x.addP m) := by
 have h0 : cr x ≤ 0 := by rw [cr0 hr]; omega
 have hmi := hm.index
 have hb := h.lb.base
 have hl := h.lb.last
 have hl2 : x.g.last = x.g.base + x.g.all.length := rfl
 unfold ND.addP
 by_cases h1 : m.index < x.g.base ∧ (m.es.length : Int) < x.g.base - m.index
 ·rw [if_pos h1]; exact h.answer1 ho m true (by omega) h0
 ·by_cases h2 : ¬ m.index < x.g.base ∧ ¬ x.g.termAt m.index = some m.logTerm
  ·rw [if_neg h1, if_pos h2]; exact h.answer1 ho m false (by omega) h0
  ·rw [if_neg h1, if_neg h2]
   refine h.restP ho hr hm ?_ h1
   unfold ND.cutM
   by_cases h3 : m.index < x.g.base
   ·rw [if_pos h3]; dsimp only; omega
   ·rw [if_neg h3]
    have h4 : x.g.termAt m.index = some m.logTerm := by
     by_cases h4 : x.g.termAt m.index = some m.logTerm
     ·exact h4
     ·exact absurd ⟨h3, h4⟩ h2
    exact ZH h4
theorem UB.snapP {T I : Int} {x : ND} {m : Msg} (h : UB T I x) (ho : x.out = []) (hr : x.role = 0) (hm : MB T I m) : RB T I 0 (x.snapP m) := by
 have h0 : cr x ≤ 0 := by rw [cr0 hr]; omega
 have hmi := hm.index
 have hcm := h.inn.commit
 have hb := h.lb.base
 have hl := h.lb.last
 have hi := (h.inn.snapP (fun hr2 => absurd (hr.symm.trans hr2) (by decide)) hm.ln).inn
 unfold ND.snapP at hi ⊢
 by_cases h1 : m.index > x.commit
 ·rw [if_pos h1] at hi ⊢
  obtain ⟨e1, e2, e3, e4, e5, e6, e7, e8⟩ := Qdh (g := x.g) (i := m.index) (t := m.logTerm) (s := m.state) (by omega)
  have hi2 : LIn T I I.toNat { x with g := x.g.inst m.index m.logTerm m.state, commit := m.index } := by
   have := hi.sends x.out; exact this
  have h3 : UB T I { x with g := x.g.inst m.index m.logTerm m.state, commit := m.index } := UB.mk0 hi2 (by show (x.g.inst _ _ _).last ≤ I; omega) h.pp (by rw [show ({ x with g := x.g.inst m.index m.logTerm m.state, commit := m.index } : ND).g = x.g.inst m.index m.logTerm m.state from rfl, e8, e1]; exact hm.st)
  exact h3.answer1 ho m true (by omega) h0
 ·rw [if_neg h1]
  exact h.answer1 ho m true (by omega) h0
theorem UB.follows {T I : Int} {x : ND} {m : Msg} (h : UB T I x) : UB T I (x.follows m) := ⟨(LIn.follows (m := m) h.inn).inn, h.lb⟩
theorem RB.le {T I c d : Int} {y : ND} (h : RB T I c y) (hc : c ≤ d) : RB T I d y := by
 obtain ⟨I', a, b, e, f⟩ := h
 exact ⟨I', a, by omega, e, f⟩
theorem UB.fedP {T I : Int} {x : ND} {m : Msg} (h : UB T I x) (ho : x.out = []) (hm : MB T I m) : RB T I (cr x) (x.fedP m) := by
 have hc := QcO x
 unfold ND.fedP
 split
 ·exact h.answer1 ho m false ⟨Int.le_refl _, h.i0⟩ (Int.le_refl _)
 ·split
  ·exact h.quiet ho (Int.le_refl _)
  ·split
   ·exact (UB.addP (x := x.follows m) h.follows ho rfl hm).le (by omega)
   ·exact (UB.snapP (x := x.follows m) h.follows ho rfl hm).le (by omega)
theorem UB.setPeer {T I : Int} {x : ND} (h : UB T I x) (to : Nat) {p : Int × Int} (hp : (1 ≤ p.1 ∧ p.1 ≤ I + 1) ∧ (0 ≤ p.2 ∧ p.2 ≤ x.g.last)) : UB T I (x.setPeer to p) := ⟨(h.inn.setPeer to hp).inn, h.lb⟩
theorem UB.feed1 {T I c : Int} {x : ND} (h : UB T I x) (ho : x.out = []) (to : Nat) (hc : cr x ≤ c) : RB T I c (x.feed to) := h.send1 ho _ (h.feedM to) hc
theorem UB.heardP {T I : Int} {x : ND} {m : Msg} (h : UB T I x) (ho : x.out = []) (hm : MB T I m) : RB T I (cr x) (x.heardP m) := by
 have hix := hm.index
 have h0 := h.lb.base
 have hcm := h.inn.commit
 have hl := h.lb.last
 unfold ND.heardP XZ
 dsimp only
 by_cases h1 : ¬ x.role = 2 ∨ ¬ m.term = x.g.term
 ·rw [if_pos h1]; exact h.quiet ho (Int.le_refl _)
 ·have hr : x.role = 2 := by
   by_cases hr : x.role = 2
   ·exact hr
   ·exact absurd (.inl hr) h1
  have hp := h.inn.peerb hr m.frm.toNat
  rw [if_neg h1]
  by_cases h2 : m.ok = false
  ·rw [if_pos h2]
   exact (h.setPeer m.frm.toNat (p := (max (min (x.nxt m.frm.toNat - 1) (m.index + 1)) (x.mat m.frm.toNat + 1), x.mat m.frm.toNat)) (by dsimp only; omega)).feed1 ho _ (Int.le_refl _)
  ·rw [if_neg h2]
   have h3 := h.setPeer m.frm.toNat (p := (max (x.mat m.frm.toNat) (min m.index x.g.last) + 1, max (x.mat m.frm.toNat) (min m.index x.g.last))) (by dsimp only; omega)
   have h4 := h3.count hr
   have hcr : cr (ND.count (x.setPeer m.frm.toNat (max (x.mat m.frm.toNat) (min m.index x.g.last) + 1, max (x.mat m.frm.toNat) (min m.index x.g.last)))) = cr x := by unfold cr; rw [(Zf _).2.2.1]; rfl
   split
   ·exact h4.feed1 (by rw [(Zf _).1]; exact ho) _ (Int.le_of_eq hcr)
   ·exact h4.quiet (by rw [(Zf _).1]; exact ho) (Int.le_of_eq hcr)
theorem UB.kindP {T I : Int} {x : ND} {m : Msg} (h : UB T I x) (ho : x.out = []) (hm : MB T I m) (hf : 0 ≤ m.frm ∧ m.frm < x.n) : RB T I (cr x) (x.kindP m) := by
 unfold ND.kindP
 split
 ·exact h.askedP ho hf
 ·split
  ·exact h.votedP ho hf
  ·split
   ·exact h.fedP ho hm
   ·split
    ·exact h.heardP ho hm
    ·exact h.quiet ho (Int.le_refl _)
theorem UB.receiveP {T I : Int} {x : ND} {m : Msg} (h : UB T I x) (ho : x.out = []) (hm : MB T I m) : RB T I (cr x) (x.receiveP m) := by
 have hc := QcO x
 have ht := h.inn.term
 unfold ND.receiveP
 by_cases h1 : ¬ m.to = x.id ∨ m.frm = x.id ∨ m.frm < 0 ∨ m.frm ≥ x.n
 ·rw [if_pos h1]; exact h.quiet ho (Int.le_refl _)
 ·rw [if_neg h1]
  have hf : 0 ≤ m.frm ∧ m.frm < x.n := by omega
  by_cases h2 : m.term > x.g.term
  ·rw [if_pos h2]
   have h3 := h.inn.set (t := m.term) (v := -1) hm.term (by omega) (.inl (by omega))
   have h4 : UB T I (ND.newTerm { x with g := { x.g with term := m.term, vote := -1 } }) := ⟨h3.inn.newTerm, h.lb.set hm.term (by omega)⟩
   exact (h4.kindP ho hm hf).le (by rw [cr0 rfl]; omega)
  ·rw [if_neg h2]; exact h.kindP ho hm hf
theorem Qba {x : ND} (h : x.out = []) : x.feedAll.out.length ≤ x.n := by
 rw [yt h]; simp; exact qU x
theorem Qar {x : ND} (h : x.out = []) (cmd : Bs) : (x.entryP cmd).out.length ≤ x.n := by
 have h1 : ∀ z : ND, z.out = [] → z.n = x.n → z.feedAll.out.length ≤ x.n := fun z hz hn => by have := Qba hz; omega
 unfold ND.entryP
 exact h1 _ (by rw [(Zf _).1]; exact h) (by rw [(Zf _).2.2.2.2.1])
theorem Qio {x : ND} (h : x.out = []) : x.tickP.out.length ≤ x.n := by
 unfold ND.tickP
 split
 ·split
  ·exact Qba (x := { x with patience := 0 }) h
  ·show x.out.length ≤ _; rw [h]; simp
 ·split
  ·unfold ND.standP
   split
   ·exact Qar (x := ND.wins (ND.stands { x with patience := x.patience + 1, g := { x.g with term := x.g.term + 1, vote := x.id } })) h []
   ·rw [Qch (x := ND.stands { x with patience := x.patience + 1, g := { x.g with term := x.g.term + 1, vote := x.id } }) h]
    simp; exact qU x
  ·show x.out.length ≤ _; rw [h]; simp
theorem QiG {x : ND} (h : x.out = []) (hn : 1 ≤ x.n) (m : Msg) : (x.receiveP m).out.length ≤ x.n := by
 have h1 : ∀ z : ND, z.out = [] → z.n = x.n → (z.kindP m).out.length ≤ x.n := fun z hz hzn => by
  have hs : ∀ (y : ND), y.out = [] → ∀ m, (y.send m).out.length ≤ x.n := fun y hy m => by rw [Qbo hy]; simpa using hn
  have ha : ∀ (y : ND), y.out = [] → ∀ (ok : Bool) (i : Int), (y.answer m ok i).out.length ≤ x.n := fun y hy ok i => hs y hy _
  have hf : ∀ (y : ND), y.out = [] → ∀ (to : Nat), (y.feed to).out.length ≤ x.n := fun y hy to => hs y hy _
  have h0 : ∀ (y : ND), y.out = [] → y.out.length ≤ x.n := fun y hy => by rw [hy]; simp
  unfold ND.kindP
  split
  ·unfold ND.askedP
   split
   ·exact hs { z with g := { z.g with term := z.g.term, vote := m.frm }, patience := 0 } hz _
   ·exact hs z hz _
  ·split
   ·unfold ND.votedP
    split
    ·exact h0 z hz
    ·split
     ·exact hzn ▸ Qar (x := ND.wins { z with votes := QU z.votes m.frm }) hz []
     ·exact h0 { z with votes := QU z.votes m.frm } hz
   ·split
    ·unfold ND.fedP
     split
     ·exact ha z hz _ _
     ·split
      ·exact h0 z hz
      ·split
       ·unfold ND.addP
        split
        ·exact ha (z.follows m) hz _ _
        ·split
         ·exact ha (z.follows m) hz _ _
         ·unfold ND.restP
          split
          ·exact ha ((z.follows m).commits m _) hz _ _
          ·split
           ·exact h0 (z.follows m) hz
           ·exact ha (ND.commits { (z.follows m) with g := _ } m _) hz _ _
       ·unfold ND.snapP
        split
        ·exact ha { (z.follows m) with g := _, commit := m.index } hz _ _
        ·exact ha (z.follows m) hz _ _
    ·split
     ·unfold ND.heardP XZ
      dsimp only
      split
      ·exact h0 z hz
      ·split
       ·exact hf (z.setPeer m.frm.toNat _) hz _
       ·split
        ·exact hf (ND.count (z.setPeer m.frm.toNat _)) (by rw [(Zf _).1]; exact hz) _
        ·exact h0 (ND.count (z.setPeer m.frm.toNat _)) (by rw [(Zf _).1]; exact hz)
     ·exact h0 z hz
 unfold ND.receiveP
 split
 ·rw [h]; simp
 ·split
  ·exact h1 (ND.newTerm { x with g := { x.g with term := m.term, vote := -1 } }) h rfl
  ·exact h1 x h rfl
theorem QjA {n m : Nat} {P : LG → Prop} {x y : ND} {D : DK} {f : NS → Bool × NS} (hd : x.down = false) (hl : SD m x.g D) (ho : x.out = []) (h : Fx n P (f (x, D)) y) :
  ((Xt (x, D) f).1 = y.out ∧ (Xt (x, D) f).2.1 = y ∧ SD n y.g (Xt (x, D) f).2.2) ∨ ((Xt (x, D) f).1 = [] ∧ Xn (Xt (x, D) f).2 = true ∧ FD n P (Xt (x, D) f).2.2) := by
 have hu : ¬ Xn (x, D) = true := by unfold Xn; simp [hd, hl.1, hl.2.2.2.1]
 rw [jc]
 unfold qx
 rw [if_neg hu, show ({ x with out := [] } : ND) = x from qR ho]
 rcases h with ⟨h1, h2, h3⟩ | ⟨h1, h2, h3⟩
 ·rw [if_pos h1]
  exact .inl ⟨by rw [h2], h2, h3⟩
 ·rw [if_neg (by simp [h1])]
  exact .inr ⟨rfl, by unfold Xn; rw [h2]; rfl, h3⟩
theorem Qg9 {n : Nat} {x : ND} {D : DK} (hd : x.down = false) (hl : SD n x.g D) : ¬ Xn (x, D) = true := by unfold Xn; simp [hd, hl.1, hl.2.2.2.1]
structure MU (T I : Int) (N i n : Nat) (m : MS) : Prop where
 ub : UB T I m.x
 id : m.x.id = i
 n : m.x.n = n
 sd : SD N m.x.g m.D
 ap : m.ap ≤ m.x.commit
structure MI (T I : Int) (N i n : Nat) (m : MS) : Prop where
 out : m.x.out = []
 l : (m.l.length : Int) ≤ m.ap ∧ ∀ s ∈ m.l, s.length ≤ 100
 ap : m.ap ≤ I
 st : MU T I N i n m ∨ (m.D.down = true ∧ FD N (LB T I) m.D)
def crm (m : MS) : Int := if m.dn = true then 0 else cr m.x
theorem jF (m : MS) : 0 ≤ crm m ∧ crm m ≤ 1 := by have := QcO m.x; unfold crm; split <;> omega
theorem MU.dn {T I : Int} {N i n : Nat} {m : MS} (h : MU T I N i n m) : m.dn = false := by
 have := Qg9 h.ub.inn.down h.sd
 unfold MS.dn; simpa using this
theorem qc {m : MS} (h : m.D.down = true) : m.dn = true := by unfold MS.dn Xn; rw [h]; simp
theorem MI.mono {T T' I I' : Int} {N N' i n : Nat} {m : MS} (h : MI T I N i n m) (hT : T ≤ T') (hI : I ≤ I') (hN : N ≤ N') : MI T' I' N' i n m :=
 ⟨h.out, h.l, Int.le_trans h.ap hI, h.st.imp (fun u => ⟨u.ub.mono hT hI, u.id, u.n, u.sd.mono hN, u.ap⟩) (fun d => ⟨d.1, d.2.imp hN (fun g hg => hg.mono hT hI)⟩)⟩
theorem MI.ok {T I : Int} {N i n : Nat} {m : MS} (h : MI T I N i n m) : m.D.ok N := by
 rcases h.st with u | d
 ·exact u.sd.okD
 ·exact d.2.1
theorem MI.mw {T I : Int} {N i n : Nat} {m : MS} (h : MI T I N i n m) (hT : T ≤ 2305843009213693952) (hI : I ≤ 9500) (hN : N ≤ 690000000) : MW m := by
 have hl := h.l
 have ha := h.ap
 refine ⟨fun hd => ?_, h.out, DK.ok_le h.ok hN, ⟨by omega, hl.2⟩, by omega⟩
 rcases h.st with u | d
 ·exact u.ub.inn.nin0 ⟨hT, by omega, by omega⟩ h.out
 ·exact absurd (qc d.1) hd
theorem MI.act {T T' I I' : Int} {N N' i n : Nat} {m : MS} {f : NS → Bool × NS} {y : ND} (h : MI T I N i n m) (u : MU T I N i n m) (hT : T ≤ T') (hI : I ≤ I') (hy : UB T' I' y) (htr : TR m.x y) (hfx : Fx N' (LB T' I') (f (m.x, m.D)) y) (hym : ∀ g ∈ y.out, MB T' I' g) :
  MI T' I' N' i n (m.act (Xt (m.x, m.D) f)).1 ∧ (∀ g ∈ (m.act (Xt (m.x, m.D) f)).2, MB T' I' g) ∧ (m.act (Xt (m.x, m.D) f)).2.length ≤ y.out.length ∧ crm (m.act (Xt (m.x, m.D) f)).1 ≤ cr y := by
 have hl := h.l
 have ha := h.ap
 have hcr := QcO y
 rcases QjA u.ub.inn.down u.sd h.out hfx with ⟨e1, e2, e3⟩ | ⟨e1, e2, e3⟩
 ·have ex : (m.act (Xt (m.x, m.D) f)).1 = { m with x := y.q, D := (Xt (m.x, m.D) f).2.2 } := by unfold MS.act; rw [e2]
  have em : (m.act (Xt (m.x, m.D) f)).2 = y.out := e1
  rw [ex, em]
  have hu : MU T' I' N' i n { m with x := y.q, D := (Xt (m.x, m.D) f).2.2 } := ⟨⟨hy.inn.q, hy.lb⟩, htr.id.trans u.id, htr.n.trans u.n, e3, Int.le_trans u.ap htr.com⟩
  exact ⟨⟨rfl, hl, Int.le_trans ha hI, .inl hu⟩, hym, Nat.le_refl _, by unfold crm; rw [hu.dn]; exact Int.le_refl _⟩
 ·have em : (m.act (Xt (m.x, m.D) f)).2 = [] := e1
  rw [em]
  refine ⟨⟨rfl, hl, Int.le_trans ha hI, .inr ⟨e3.2.1, e3⟩⟩, fun g hg => (by cases hg), Nat.zero_le _, ?_⟩
  unfold crm
  rw [if_pos (show (m.act (Xt (m.x, m.D) f)).1.dn = true from qc e3.2.1)]
  omega
theorem MI.act0 {T I : Int} {N i n : Nat} {m : MS} (h : MI T I N i n m) : (m.act ([], (m.x, m.D))) = (m, []) := by
 unfold MS.act
 rw [qR h.out]
def Qa2 (T I : Int) (N i n : Nat) (c : Int) (r : MS × List Msg) : Prop := ∃ I', I ≤ I' ∧ I' + crm r.1 ≤ I + c ∧ MI T I' N i n r.1 ∧ (∀ g ∈ r.2, MB T I' g) ∧ r.2.length ≤ n
theorem MI.stay {T T' I : Int} {N N' i n : Nat} {m : MS} (h : MI T I N i n m) (hT : T ≤ T') (hN : N ≤ N') {c : Int} (hc : crm m ≤ c) : Qa2 T' I N' i n c (m, []) :=
 ⟨I, Int.le_refl _, by dsimp only; omega, h.mono hT (Int.le_refl _) hN, fun g hg => (by cases hg), Nat.zero_le _⟩
theorem Ql2 {m : MS} (h : m.dn = true) : crm m = 0 := by unfold crm; rw [if_pos h]
theorem MI.tick {T I : Int} {N i n : Nat} {m : MS} (h : MI T I N i n m) (hT : T ≤ 1000000000) (hI : I ≤ 9500) : Qa2 (T + 1) I (N + 6000) i n (crm m + 1) m.tick := by
 have hcm := jF m
 rcases h.st with u | d
 ·have ht := u.ub.lb.term
  have hid := u.ub.inn.idn
  have hcr : crm m = cr m.x := by unfold crm; rw [u.dn]; rfl
  obtain ⟨I', a1, a2, a3, a4⟩ := u.ub.tickP h.out
  have hnn := u.ub.inn.nin0 ⟨by omega, by omega, by omega⟩ h.out
  have hm := u.ub.lb.mono (show T ≤ T + 1 by omega) a1
  have hfx := Qli (n := N) (P := LB (T + 1) I') (by omega) u.sd hnn hm (hm.set (t := m.x.g.term + 1) (v := m.x.id) (by omega) (by omega)) a3.lb
  obtain ⟨b1, b2, b3, b4⟩ := h.act u (show T ≤ T + 1 by omega) a1 a3 u.ub.inn.tickP.tr hfx a4
  exact ⟨I', a1, by rw [hcr]; show I' + crm (m.act (Xt (m.x, m.D) Yr)).1 ≤ _; omega, b1, b2, Nat.le_trans b3 (by have := Qio h.out; rw [u.n] at this; exact this)⟩
 ·have hd := qc d.1
  have e : m.tick = (m, []) := by unfold MS.tick; rw [qF (show Xn (m.x, m.D) = true from hd)]; exact h.act0
  rw [e]
  exact h.stay (by omega) (by omega) (by omega)
theorem MI.recv {T I : Int} {N i n : Nat} {m : MS} (h : MI T I N i n m) {g : Msg} (hg : MB T I g) (hT : T ≤ 1000000000) (hI : I ≤ 9500) (hN : 17000000 ≤ N) : Qa2 T I (N + 6000) i n (crm m) (m.recv g) := by
 have hcm := jF m
 rcases h.st with u | d
 ·have ht := u.ub.lb.term
  have hid := u.ub.inn.idn
  have hcr : crm m = cr m.x := by unfold crm; rw [u.dn]; rfl
  obtain ⟨I', a1, a2, a3, a4⟩ := u.ub.receiveP h.out hg
  have hnn := u.ub.inn.nin0 ⟨by omega, by omega, by omega⟩ h.out
  have hm := u.ub.lb.mono (Int.le_refl T) a1
  have hgt := hg.term
  have hfx := Qhs (n := N) (k := 0) (m := g) (P := LB T I') hN (by omega) u.sd hnn (hg.im (by omega) (by omega)).1 u.ub.inn.commit.1 hm (fun _ => hm.set (t := g.term) (v := -1) (by omega) (by omega)) a3.lb
  obtain ⟨b1, b2, b3, b4⟩ := h.act (f := fun s => Xl s g) u (Int.le_refl T) a1 a3 (u.ub.inn.receiveP hg.ln).tr hfx a4
  exact ⟨I', a1, by rw [hcr]; show I' + crm (m.act (Xt (m.x, m.D) (fun s => Xl s g))).1 ≤ _; omega, b1, b2, Nat.le_trans b3 (by have := QiG h.out (by omega) g; rw [u.n] at this; exact this)⟩
 ·have hd := qc d.1
  have e : m.recv g = (m, []) := by unfold MS.recv; rw [qF (show Xn (m.x, m.D) = true from hd)]; exact h.act0
  rw [e]
  exact h.stay (by omega) (by omega) (by omega)
theorem QhC {T I : Int} {N i n : Nat} {m : MS} (h : MI T I N i n m) (u : MU T I N i n m) (hr : m.x.role = 2) {cmd : Bs} {P : LG → Prop} {N' : Nat} (hfx : Fx N' P (QT (m.x, m.D) cmd) (m.x.entryP cmd)) : (m.prop cmd).2 = m.act (Xt (m.x, m.D) (fun s => QT s cmd)) := by
 unfold MS.prop XA
 rw [if_neg (by simpa using hr)]
 by_cases h1 : Xn (Xt (m.x, m.D) (fun s => QT s cmd)).2 = true
 ·rw [if_pos h1]
  rcases QjA (f := fun s => QT s cmd) u.ub.inn.down u.sd h.out hfx with ⟨e1, e2, e3⟩ | ⟨e1, e2, e3⟩
  ·exfalso
   have h2 : Xn (m.x.entryP cmd, (Xt (m.x, m.D) (fun s => QT s cmd)).2.2) = true := by rw [← e2]; exact h1
   have e3d := e3.1
   have e3g := e3.2.2.2.1
   unfold Xn at h2
   rw [e3d, e3g] at h2
   have h3 : (m.x.entryP cmd).down = m.x.down := by unfold ND.entryP; rw [XW]; show (ND.count _).down = _; unfold ND.count; split <;> rfl
   rw [h3, u.ub.inn.down] at h2
   cases h2
  ·unfold MS.act; rw [e1]
 ·rw [if_neg h1]
theorem Qcw {m : MS} {cmd : Bs} (hr : ¬ m.x.role = 2) : m.prop cmd = ((0, 0), m.act ([], (m.x, m.D))) := by
 unfold MS.prop XA
 rw [if_pos hr]
theorem Qkn {m : MS} {cmd : Bs} (hd : m.dn = true) : m.prop cmd = ((0, 0), m.act ([], (m.x, m.D))) := by
 by_cases hr : m.x.role = 2
 ·unfold MS.prop XA
  rw [if_neg (by simpa using hr)]
  rw [qF (show Xn (m.x, m.D) = true from hd), if_pos (show Xn (([] : List Msg), (m.x, m.D)).2 = true from hd)]
 ·exact Qcw hr
theorem MI.prop {T I : Int} {N i n : Nat} {m : MS} (h : MI T I N i n m) {cmd : Bs} (hc : cmd.length ≤ 100) (hT : T ≤ 1000000000) (hI : I ≤ 9500) : Qa2 T I (N + 6000) i n (crm m + 1) (m.prop cmd).2 := by
 have hcm := jF m
 have hst : Qa2 T I (N + 6000) i n (crm m + 1) (m, []) := h.stay (Int.le_refl _) (by omega) (by omega)
 rcases h.st with u | d
 ·by_cases hr : m.x.role = 2
  ·have ht := u.ub.lb.term
   have hnn := u.ub.inn.nin0 ⟨by omega, by omega, by omega⟩ h.out
   obtain ⟨a3, a4⟩ := u.ub.entryP h.out hr hc
   have hfx := (QfR (n := N) (P := LB T (I + 1)) (by omega) u.sd hnn hc (u.ub.lb.mono (Int.le_refl _) (by omega)) a3.lb).mono (show N + 3000 ≤ N + 6000 by omega)
   rw [QhC h u hr hfx]
   obtain ⟨b1, b2, b3, b4⟩ := h.act (f := fun s => QT s cmd) u (Int.le_refl T) (show I ≤ I + 1 by omega) a3 (u.ub.inn.entryP hr hc).tr hfx a4
   have hcr : cr (m.x.entryP cmd) = 0 := by unfold cr; rw [Qcb, hr]; rfl
   exact ⟨I + 1, by omega, by omega, b1, b2, Nat.le_trans b3 (by have := Qar h.out cmd; rw [u.n] at this; exact this)⟩
  ·rw [Qcw hr, h.act0]; exact hst
 ·rw [Qkn (qc d.1), h.act0]; exact hst
theorem QkZ {m : MS} (h : m.x.out = []) (hd : m.dn = true) : m.comp = (3, m) := by
 unfold MS.comp zo
 rw [if_pos (show Xn (m.x, m.D) = true from hd)]
 dsimp only
 rw [qR h]
theorem QkX {T I : Int} {N i n : Nat} {m : MS} (h : MI T I N i n m) (u : MU T I N i n m) : m.comp = if m.ap < m.x.g.base then (1, m) else (((m.x.g.swapD m.D (m.x.g.comp m.ap (stB m.l)))).1, { m with x := { m.x with g := (m.x.g.swapD m.D (m.x.g.comp m.ap (stB m.l))).2.1 }, D := (m.x.g.swapD m.D (m.x.g.comp m.ap (stB m.l))).2.2 }) := by
 have hcm := u.ub.inn.commit
 have hap := u.ap
 have ho := h.out
 have hx : ({ m.x with out := [] } : ND) = m.x := qR h.out
 have hgd : (m.x.g.down || m.D.down) = false := by rw [u.sd.1, u.sd.2.2.2.1]; rfl
 unfold MS.comp zo
 rw [if_neg (Qg9 u.ub.inn.down u.sd), if_neg (by dsimp only; omega)]
 unfold LG.compD
 dsimp only
 rw [if_neg (by rw [hgd]; decide)]
 by_cases h1 : m.ap < m.x.g.base
 ·rw [if_pos (.inl h1), if_pos h1]
  try dsimp only
  rw [show ND.q { m.x with g := m.x.g } = m.x from qR h.out]
 ·rw [if_neg (by omega), if_neg h1]
  unfold ND.q
  rw [show ({ m.x with g := (m.x.g.swapD m.D (m.x.g.comp m.ap (stB m.l))).2.1, out := [] } : ND) = { m.x with g := (m.x.g.swapD m.D (m.x.g.comp m.ap (stB m.l))).2.1 } by rw [← ho]]
theorem MI.comp {T I : Int} {N i n : Nat} {m : MS} (h : MI T I N i n m) (hT : T ≤ 1000000000) (hI : I ≤ 9400) (hN : 17000000 ≤ N) : MI T I (N + 6000) i n m.comp.2 ∧ crm m.comp.2 ≤ crm m := by
 have hcm := jF m
 have hl := h.l
 have hai := h.ap
 rcases h.st with u | d
 ·have hcmm := u.ub.inn.commit
  have hap := u.ap
  rw [QkX h u]
  by_cases h1 : m.ap < m.x.g.base
  ·rw [if_pos h1]; exact ⟨h.mono (Int.le_refl _) (Int.le_refl _) (by omega), Int.le_refl _⟩
  ·rw [if_neg h1]
   have hsl := Qfy hl.2 (by omega)
   have hun := QjX hl.2 (by omega)
   have hi := (u.ub.inn.comp (i := m.ap) (s := stB m.l) (by omega) (by omega)).inn
   have hla : (m.x.g.comp m.ap (stB m.l)).last = m.x.g.last := by unfold LG.comp LG.last at *; simp; omega
   have hy : UB T I { m.x with g := m.x.g.comp m.ap (stB m.l) } := UB.mk0 hi (by show (m.x.g.comp _ _).last ≤ I; rw [hla]; exact u.ub.lb.last) u.ub.pp (by show ((unS (stB m.l)).length : Int) ≤ m.ap ∧ ∀ s ∈ unS (stB m.l), s.length ≤ 100; rw [hun]; exact hl)
   have hnn := hy.inn.nin0 ⟨by omega, by omega, by omega⟩ h.out
   have hok := hnn.g (by omega)
   have hw := QbB (k := 0) (by omega) hnn
   have hsw := Qhd (P := LB T I) (to := m.x.g.comp m.ap (stB m.l)) (u.sd.mono (show N ≤ N + 6000 by omega)) hok u.sd.2.2.2.1 hw (by omega) u.ub.lb
   have hcr : crm m = cr m.x := by unfold crm; rw [u.dn]; rfl
   unfold LG.swapD
   rcases hsw with ⟨p1, p2⟩ | ⟨p1, p2⟩
   ·rw [if_pos p1]
    have hu : MU T I (N + 6000) i n { m with x := { m.x with g := m.x.g.comp m.ap (stB m.l) }, D := (m.D.swap (Rec.all (m.x.g.comp m.ap (stB m.l))).bytes).2 } := ⟨hy, u.id, u.n, p2, u.ap⟩
    exact ⟨⟨h.out, hl, hai, .inl hu⟩, by unfold crm; rw [hu.dn]; rw [if_neg (by decide), u.dn, if_neg (by decide)]; exact Int.le_refl _⟩
   ·rw [if_neg p1]
    exact ⟨⟨h.out, hl, hai, .inr ⟨p2.2.1, p2⟩⟩, by rw [Ql2 (qc p2.2.1)]; omega⟩
 ·rw [QkZ h.out (qc d.1)]
  exact ⟨h.mono (Int.le_refl _) (Int.le_refl _) (by omega), Int.le_refl _⟩
theorem MI.fuel {T I : Int} {N i n : Nat} {m : MS} (h : MI T I N i n m) {k : Int} (hk : Qer k) : MI T I N i n { m with D := m.D.setFuel k } ∧ crm { m with D := m.D.setFuel k } = crm m := by
 refine ⟨⟨h.out, h.l, h.ap, ?_⟩, rfl⟩
 unfold Qer at hk
 rcases h.st with u | ⟨d1, ⟨a1, a2, a3⟩, d3, d4⟩
 ·obtain ⟨s1, s2, s3, s4, s5, s6⟩ := u.sd
  exact .inl ⟨u.ub, u.id, u.n, ⟨s1, s2, ⟨by show _ ≤ k; omega, by show k ≤ _; omega, fun hb => by simpa [DK.setFuel] using hb⟩, s4, s5, s6⟩, u.ap⟩
 ·exact .inr ⟨d1, ⟨a1, a2, ⟨by show _ ≤ k; omega, by show k ≤ _; omega, fun hb => by simpa [DK.setFuel] using hb⟩⟩, d3, d4⟩
theorem MI.keeps {T I : Int} {N i n : Nat} {m : MS} (h : MI T I N i n m) : ∀ keep : Int, ∃ rs p g, (m.D.crash keep).b = Xb rs ++ p ∧ ZP p ∧ Plays LG.new rs g ∧ g.down = false ∧ LB T I g := by
 rcases h.st with u | d
 ·exact u.sd.crash_any u.ub.lb
 ·exact d.2.2.2
theorem MI.opens {T I : Int} {N i n : Nat} {m : MS} (h : MI T I N i n m) (keep : Int) : QdC m.D keep := by
 obtain ⟨rs, p, g, a, b, c, _⟩ := h.keeps keep
 exact ⟨rs, p, g, a, b, c⟩
theorem Qjl {N : Nat} {P : LG → Prop} {D : DK} (hk : D.ok N) (h : ∀ keep : Int, ∃ rs p g, (D.crash keep).b = Xb rs ++ p ∧ ZP p ∧ Plays LG.new rs g ∧ g.down = false ∧ P g) (keep : Int) :
  P (Qbi (D.crash keep).b) ∧ SD N (Qbi (D.crash keep).b) ((D.crash keep).open (jR (D.crash keep).b) (Qbh (D.crash keep).b)).2 := by
 obtain ⟨rs, p, g, a1, a2, a3, a4, a5, a6, a7⟩ := QlJ hk h keep
 obtain ⟨t1, t2, t3⟩ := QcY ⟨a2, a3, a4⟩
 have e : (D.crash keep).open (jR (D.crash keep).b) (Qbh (D.crash keep).b) = (D.crash keep).open rs p := by
  unfold DK.open
  rw [t1, t2]
 rw [t3, e]
 exact ⟨a5, a7⟩
theorem LB.start {T I : Int} {i n : Nat} {g : LG} (h : LB T I g) (hn : i < n ∧ n ≤ 9) : UB T I (ND.start i n g) := by
 have hl := h.last
 have hb := h.base
 have h1 : LIn T I I.toNat (ND.start i n g) := LIn.start hn h.term h.vote h.base h.baseT h.last h.stl (by unfold LG.last at hl; omega) h.all
 exact ⟨h1, h⟩
theorem MI.start {T I : Int} {N i n : Nat} {g : LG} {D : DK} (h : LB T I g) (hs : SD N g D) (hn : i < n ∧ n ≤ 9) : MI T I N i n (Ym i n g D) ∧ crm (Ym i n g D) = 0 := by
 have hl := h.last
 have hb := h.base
 have hgl : g.base ≤ g.last := by unfold LG.last; omega
 unfold Ym
 split
 ·rename_i h1
  have hu : MU T I N i n ⟨ND.start i n g, D, unS g.state, g.base⟩ := ⟨h.start hn, rfl, rfl, hs, Int.le_refl _⟩
  exact ⟨⟨rfl, h.st, by dsimp only; omega, .inl hu⟩, by unfold crm; rw [hu.dn]; rfl⟩
 ·have hu : MU T I N i n ⟨ND.start i n g, D, [], 0⟩ := ⟨h.start hn, rfl, rfl, hs, hb⟩
  exact ⟨⟨rfl, by simp, by dsimp only; omega, .inl hu⟩, by unfold crm; rw [hu.dn]; rfl⟩
theorem MI.crash {T I : Int} {N i n : Nat} {m : MS} (h : MI T I N i n m) (hn : i < n ∧ n ≤ 9) (keep : Int) : MI T I N i n (m.crash i n keep) ∧ crm (m.crash i n keep) = 0 := by
 obtain ⟨h1, h2⟩ := Qjl h.ok h.keeps keep
 unfold MS.crash
 exact MI.start h1 h2 hn
theorem Qf2 (i : Int) : ∀ (l : List Ent) (r : MS × List OC), (r.1.l.length : Int) ≤ r.1.ap → (∀ s ∈ r.1.l, s.length ≤ 100) → (∀ e ∈ l, e.2.length ≤ 100) → ((l.foldl (XX i) r).1.l.length : Int) ≤ (l.foldl (XX i) r).1.ap ∧ ∀ s ∈ (l.foldl (XX i) r).1.l, s.length ≤ 100
 | [], r, h1, h2, _ => ⟨h1, h2⟩
 | e :: l, r, h1, h2, h3 => by
  rw [List.foldl_cons]
  refine Qf2 i l _ ?_ ?_ (fun e he => h3 e (by simp [he]))
  ·unfold XX
   split
   ·show (r.1.l.length : Int) ≤ r.1.ap + 1; omega
   ·show ((r.1.l ++ [e.2]).length : Int) ≤ r.1.ap + 1; simp; omega
  ·unfold XX
   split
   ·exact h2
   ·intro s hs
    rcases List.mem_append.1 (show s ∈ r.1.l ++ [e.2] from hs) with hs | hs
    ·exact h2 s hs
    ·simp at hs; subst hs; exact h3 e (by simp)
theorem MI.done {T I : Int} {N i n : Nat} {m : MS} (h : MI T I N i n m) (j : Int) (o : List OC) : MI T I N i n (XG j m o).1 ∧ crm (XG j m o).1 = crm m ∧ ((XG j m o).2.length : Int) ≤ o.length + I := by
 obtain ⟨ex, eD⟩ := ji j m o
 have hcr : crm (XG j m o).1 = crm m := by unfold crm MS.dn; rw [ex, eD]
 have hl := h.l
 have hai := h.ap
 by_cases hd : m.dn = true
 ·have e : XG j m o = (m, o) := by unfold XG; rw [if_pos hd]
  rw [e]; exact ⟨h, rfl, by dsimp only; omega⟩
 ·rcases h.st with u | d
  ·have e : XG j m o = m.rest.todo.foldl (XX j) (m.rest, o) := by unfold XG; rw [if_neg hd]
   obtain ⟨p1, p2, p3, p4, p5⟩ := QaY j m.rest.todo (m.rest, o)
   rw [← e] at p1 p2 p3 p4 p5
   obtain ⟨q1, q2, q3, q4⟩ := jf m
   have hcm := u.ub.inn.commit
   have hlb := u.ub.lb
   have hll := hlb.last
   have htl := (QdL (m := m.rest)).1
   rw [q1] at htl
   have hap := u.ap
   have hrl : (m.rest.l.length : Int) ≤ m.rest.ap ∧ (∀ s ∈ m.rest.l, s.length ≤ 100) ∧ m.rest.ap ≤ m.x.commit := by
    unfold MS.rest
    split
    ·exact ⟨hlb.st.1, hlb.st.2, hcm.1⟩
    ·exact ⟨hl.1, hl.2, hap⟩
   have hte : ∀ e ∈ m.rest.todo, e.2.length ≤ 100 := fun e he => by
    have : e ∈ m.rest.x.g.all := List.mem_of_mem_drop (List.mem_of_mem_take he)
    rw [q1] at this
    exact (hlb.all e this).2
   obtain ⟨r1, r2⟩ := Qf2 j m.rest.todo (m.rest, o) hrl.1 hrl.2.1 hte
   rw [← e] at r1 r2
   dsimp only at p3 p5
   have hapn : (XG j m o).1.ap ≤ m.x.commit := by rw [p3]; have := hrl.2.2; omega
   exact ⟨⟨by rw [ex]; exact h.out, ⟨r1, r2⟩, by omega, .inl ⟨by rw [ex]; exact u.ub, by rw [ex]; exact u.id, by rw [ex]; exact u.n, by rw [ex, eD]; exact u.sd, by rw [ex]; exact hapn⟩⟩, hcr, by have := hrl.1; omega⟩
  ·exact absurd (qc d.1) hd
def yK (l : List MS) : Int := (l.map crm).sum
theorem jH : ∀ {l : List MS} {i : Nat} {m : MS} (m' : MS), l[i]? = some m → yK (l.set i m') + crm m = yK l + crm m'
 | [], i, m, m', h => by simp at h
 | x :: l, 0, m, m', h => by simp at h; subst h; simp [yK]; omega
 | x :: l, i + 1, m, m', h => by
  have := jH m' (l := l) (i := i) (m := m) (by simpa using h)
  unfold yK at this ⊢
  simp only [List.set_cons_succ, List.map_cons, List.sum_cons]
  omega
theorem zp : ∀ l : List MS, 0 ≤ yK l
 | [] => by simp [yK]
 | x :: l => by
  have h1 := zp l
  have h2 := jF x
  unfold yK at h1 ⊢
  simp only [List.map_cons, List.sum_cons]
  omega
structure GI (n a t : Nat) (I : Int) (G : GS) : Prop where
 len : G.ms.length = n ∧ 1 ≤ n ∧ n ≤ 9
 i0 : 0 ≤ I ∧ I + yK G.ms ≤ t
 ms : ∀ i m, G.ms[i]? = some m → MI a I (17000000 + 6000 * a) i n m
 st : G.st.length ≤ n * a ∧ 0 ≤ G.last ∧ G.last ≤ ((n * a : Nat) : Int)
 msg : ∀ x ∈ G.st, MB a I x.2
 out : G.out.length ≤ a * 9500
theorem ZR : ∀ {l : List Msg} {k : Int} {x : XD}, x ∈ Xk k l → x.2 ∈ l
 | [], _, _, h => by cases h
 | m :: l, k, x, h => by
  rw [Xk] at h
  rcases List.mem_cons.1 h with h | h
  ·subst h; simp
  ·exact List.mem_cons_of_mem _ (ZR h)
theorem GI.later {n a t : Nat} {I : Int} {G : GS} (h : GI n a t I G) : GI n (a + 1) t I G := by
 have hm : n * (a + 1) = n * a + n := by rw [Nat.mul_add]; omega
 have h1 := h.st
 have h2 := h.out
 have h3 : (a + 1) * 9500 = a * 9500 + 9500 := Nat.add_mul a 1 9500
 exact ⟨h.len, h.i0, fun i m hi => (h.ms i m hi).mono (by omega) (Int.le_refl _) (by omega), by rw [hm]; omega, fun x hx => (h.msg x hx).mono (by omega) (Int.le_refl _), by rw [h3]; exact Nat.le_trans h2 (Nat.le_add_right _ _)⟩
theorem GI.gw {n a t : Nat} {I : Int} {G : GS} (h : GI n a t I G) (ha : a ≤ 90000) (ht : t ≤ 9400) : GW G := by
 have hc := zp G.ms
 have h0 := h.i0
 have hs := h.st
 have ho := h.out
 have hna : n * a ≤ 9 * 90000 := Nat.mul_le_mul h.len.2.2 ha
 refine ⟨by have := h.len; omega, fun m hm => ?_, by omega, by omega, fun x hx => (h.msg x hx).im (by omega) (by omega), by omega⟩
 obtain ⟨i, hi⟩ := List.mem_iff_getElem?.1 hm
 exact (h.ms i m hi).mw (by omega) (by omega) (by omega)
theorem GI.done {n a t : Nat} {I : Int} {G : GS} (h : GI n a t I G) {i : Nat} {m : MS} (hm : G.ms[i]? = some m) {r : MS × List Msg} {δ : Nat} (hr : Qa2 ((a : Int) + 1) I (17000000 + 6000 * a + 6000) i n (crm m + δ) r) (ht : t + δ ≤ 9400) : ∃ I', GI n (a + 1) (t + δ) I' (G.done i r.1 r.2) := by
 obtain ⟨I', a1, a2, a3, a4, a5⟩ := hr
 have hc := zp G.ms
 have hc2 := jH r.1 hm
 have h0 := h.i0
 have hi := (List.getElem?_eq_some_iff.1 hm).1
 obtain ⟨d1, d2, d3⟩ := a3.done i G.out
 have hc3 := jH (XG i r.1 G.out).1 hm
 have hcr := jF r.1
 have hcp := zp (G.ms.set i r.1)
 have hm2 : n * (a + 1) = n * a + n := by rw [Nat.mul_add]; omega
 have hs := h.st
 have ho := h.out
 refine ⟨I', ⟨by show (G.ms.set i _).length = n ∧ _; rw [List.length_set]; exact h.len, ⟨by omega, by show I' + yK (G.ms.set i _) ≤ _; rw [d2] at hc3; omega⟩, fun j mj hj => ?_, ?_, fun x hx => ?_, ?_⟩⟩
 ·have hj : (G.ms.set i (XG i r.1 G.out).1)[j]? = some mj := hj
  by_cases e : i = j
  ·subst e
   rw [List.getElem?_set_self hi] at hj
   have hj := Option.some.inj hj
   subst hj
   exact d1.mono (by omega) (Int.le_refl _) (by omega)
  ·rw [List.getElem?_set_ne e] at hj
   exact (h.ms j mj hj).mono (by omega) a1 (by omega)
 ·show (G.st ++ Xk G.last r.2).length ≤ _ ∧ 0 ≤ G.last + (r.2.length : Int) ∧ G.last + (r.2.length : Int) ≤ _
  rw [List.length_append, qA, hm2]
  omega
 ·rcases List.mem_append.1 (show x ∈ G.st ++ Xk G.last r.2 from hx) with hx | hx
  ·exact (h.msg x hx).mono (by omega) a1
  ·exact (a4 _ (ZR hx)).mono (by omega) (Int.le_refl _)
 ·show (XG i r.1 G.out).2.length ≤ _
  omega
theorem GI.mem {n a t : Nat} {I : Int} {G : GS} (h : GI n a t I G) {i : Nat} (hi : i < n) : ∃ m, G.ms[i]? = some m := ⟨_, List.getElem?_eq_getElem (by rw [h.len.1]; exact hi)⟩
theorem GI.I {n a t : Nat} {I : Int} {G : GS} (h : GI n a t I G) : I ≤ t := by
 have := zp G.ms
 have := h.i0
 omega
theorem GI.tick {n a t : Nat} {I : Int} {G : GS} (h : GI n a t I G) {i : Nat} (hi : i < n) (ha : a ≤ 90000) (ht : t + 1 ≤ 9400) : ∃ I', GI n (a + 1) (t + 1) I' (G.tick i) := by
 have hI := h.I
 obtain ⟨m, hm⟩ := h.mem hi
 rw [Qaz hm]
 exact h.done hm (δ := 1) ((h.ms i m hm).tick (by omega) (by omega)) ht
theorem GI.take {n a t : Nat} {I : Int} {G : GS} (h : GI n a t I G) (k : Int) : GI n a t I (G.take k) := by
 have h1 : ∀ x ∈ YV G.st k, x ∈ G.st := fun x hx => by
  unfold YV at hx
  split at hx
  ·exact List.mem_of_mem_eraseIdx hx
  ·exact hx
 have h2 : (YV G.st k).length ≤ G.st.length := by
  unfold YV
  split
  ·exact List.length_eraseIdx_le _ _
  ·exact Nat.le_refl _
 have hs := h.st
 exact ⟨h.len, h.i0, h.ms, ⟨by show (YV G.st k).length ≤ _; omega, hs.2⟩, fun x hx => h.msg x (h1 x hx), h.out⟩
theorem QcS {st : List XD} {k : Int} (h : XU st k = true) : atM st k ∈ st := by
 unfold XU at h
 simp at h
 obtain ⟨n, rfl⟩ := Int.eq_ofNat_of_zero_le h.1
 have hn : n < st.length := by omega
 rw [(jK (x := st[n]) (by simp)).1]
 exact List.getElem_mem hn
theorem GI.deliver {n a t : Nat} {I : Int} {G : GS} (h : GI n a t I G) (k : Int) (ha : a ≤ 90000) (ht : t ≤ 9400) : ∃ I', GI n (a + 1) t I' (G.deliver k) := by
 have hI := h.I
 unfold GS.deliver
 split
 ·rename_i hb
  split
  ·split
   ·exact ⟨I, (h.take k).later⟩
   ·rename_i m hm
    have hg := h.msg _ (QcS hb)
    have hmi := h.ms _ m hm
    have hs := hmi.recv hg (by omega) (by omega) (by omega)
    refine (h.take k).done hm (δ := 0) ?_ (by omega)
    obtain ⟨I', a1, a2, a3, a4, a5⟩ := hs
    exact ⟨I', a1, by omega, a3.mono (by omega) (Int.le_refl _) (Nat.le_refl _), fun g hg => (a4 g hg).mono (by omega) (Int.le_refl _), a5⟩
  ·exact ⟨I, (h.take k).later⟩
 ·exact ⟨I, h.later⟩
theorem GI.prop {n a t : Nat} {I : Int} {G : GS} (h : GI n a t I G) {i : Nat} (hi : i < n) {cmd : Bs} (hc : cmd.length ≤ 100) (ha : a ≤ 90000) (ht : t + 1 ≤ 9400) : ∃ I', GI n (a + 1) (t + 1) I' (G.propose i cmd).2 := by
 have hI := h.I
 obtain ⟨m, hm⟩ := h.mem hi
 rw [QaH hm]
 refine h.done hm (δ := 1) ?_ ht
 obtain ⟨I', a1, a2, a3, a4, a5⟩ := (h.ms i m hm).prop hc (by omega) (by omega)
 exact ⟨I', a1, a2, a3.mono (by omega) (Int.le_refl _) (Nat.le_refl _), fun g hg => (a4 g hg).mono (by omega) (Int.le_refl _), a5⟩
theorem GI.set {n a t : Nat} {I : Int} {G : GS} (h : GI n a t I G) {i : Nat} {m m' : MS} (hm : G.ms[i]? = some m) (hm' : MI a I (17000000 + 6000 * a + 6000) i n m') (hc : crm m' ≤ crm m) : GI n (a + 1) t I { G with ms := G.ms.set i m' } := by
 have hl := h.later
 have h0 := h.i0
 have hc2 := jH m' hm
 have hi := (List.getElem?_eq_some_iff.1 hm).1
 refine ⟨by show (G.ms.set i _).length = n ∧ _; rw [List.length_set]; exact h.len, ⟨h0.1, by show I + yK (G.ms.set i m') ≤ _; omega⟩, fun j mj hj => ?_, hl.st, hl.msg, hl.out⟩
 have hj : (G.ms.set i m')[j]? = some mj := hj
 by_cases e : i = j
 ·subst e
  rw [List.getElem?_set_self hi] at hj
  have hj := Option.some.inj hj
  subst hj
  exact hm'.mono (by omega) (Int.le_refl _) (by omega)
 ·rw [List.getElem?_set_ne e] at hj
  exact hl.ms j mj hj
theorem GI.comp {n a t : Nat} {I : Int} {G : GS} (h : GI n a t I G) {i : Nat} (hi : i < n) (ha : a ≤ 90000) (ht : t ≤ 9400) : GI n (a + 1) t I (G.compact i).2 := by
 have hI := h.I
 obtain ⟨m, hm⟩ := h.mem hi
 rw [QkY hm]
 obtain ⟨b1, b2⟩ := (h.ms i m hm).comp (by omega) (by omega) (by omega)
 exact h.set hm b1 b2
theorem GI.fuel {n a t : Nat} {I : Int} {G : GS} (h : GI n a t I G) {i : Nat} (hi : i < n) {k : Int} (hk : Qer k) : GI n (a + 1) t I (G.fuel i k) := by
 obtain ⟨m, hm⟩ := h.mem hi
 rw [QcJ hm]
 obtain ⟨b1, b2⟩ := (h.ms i m hm).fuel hk
 exact h.set hm (b1.mono (Int.le_refl _) (Int.le_refl _) (by omega)) (Int.le_of_eq b2)
theorem GI.crash {n a t : Nat} {I : Int} {G : GS} (h : GI n a t I G) {i : Nat} (hi : i < n) (keep : Int) : GI n (a + 1) t I (G.crash i keep) := by
 obtain ⟨m, hm⟩ := h.mem hi
 have hl := h.len
 have hc := jF m
 rw [jG hm, hl.1]
 obtain ⟨b1, b2⟩ := (h.ms i m hm).crash ⟨hi, hl.2.2⟩ keep
 exact h.set hm (b1.mono (Int.le_refl _) (Int.le_refl _) (by omega)) (by omega)
theorem GI.twice {n a t : Nat} {I : Int} {G : GS} (h : GI n a t I G) (k : Int) : GI n (a + 1) t I (G.twice k) := by
 have hl := h.later
 have hm2 : n * (a + 1) = n * a + n := by rw [Nat.mul_add]; omega
 have hs := h.st
 have hn := h.len
 refine ⟨hl.len, hl.i0, hl.ms, ?_, fun x hx => ?_, hl.out⟩
 ·show (twL G.st G.last k).length ≤ _ ∧ 0 ≤ twN G.st G.last k ∧ twN G.st G.last k ≤ _
  unfold twL twN
  rw [hm2]
  split
  ·simp [Xk]; omega
  ·omega
 ·have hx : x ∈ twL G.st G.last k := hx
  unfold twL at hx
  split at hx
  ·rename_i hb
   rcases List.mem_append.1 hx with hx | hx
   ·exact hl.msg x hx
   ·have := ZR hx
    simp at this
    rw [this]
    exact hl.msg _ (QcS hb)
  ·exact hl.msg x hx
theorem GI.outs {n a t : Nat} {I : Int} {G : GS} (h : GI n a t I G) : GI n a t I G.outs := ⟨h.len, h.i0, h.ms, h.st, h.msg, by show ([] : List OC).length ≤ _; simp⟩
theorem LB.new : LB 0 0 LG.new := ⟨by decide, by decide, by decide, by decide, by decide, fun e he => (by cases he), by rw [show unS LG.new.state = [] from Qcn]; decide, by decide⟩
theorem GI.new {n : Nat} (hn : 1 ≤ n ∧ n ≤ 9) : GI n 0 0 0 (GS.new n) := by
 have hm : ∀ i m, (GS.new n).ms[i]? = some m → i < n ∧ m = Ym i n LG.new DK.new := fun i m h => by
  have hi := (List.getElem?_eq_some_iff.1 h).1
  have hi : i < n := by simpa [GS.new] using hi
  simp [GS.new, hi] at h
  exact ⟨hi, h.symm⟩
 have hz : ∀ m ∈ (GS.new n).ms, crm m = 0 := fun m h => by
  obtain ⟨i, hi⟩ := List.mem_iff_getElem?.1 h
  obtain ⟨h1, rfl⟩ := hm i m hi
  exact (MI.start LB.new SD.new ⟨h1, hn.2⟩).2
 have hs : ∀ l : List MS, (∀ m ∈ l, crm m = 0) → yK l = 0 := fun l => by
  induction l with
  | nil => intro _; rfl
  | cons x l ih =>
   intro h
   have h1 := ih (fun m hm => h m (by simp [hm]))
   unfold yK at h1 ⊢
   rw [List.map_cons, List.sum_cons, h1, h x (by simp)]; rfl
 refine ⟨⟨by simp [GS.new], hn⟩, ⟨by omega, by rw [hs _ hz]; omega⟩, fun i m h => ?_, ⟨by simp [GS.new], by simp [GS.new]⟩, fun x hx => by simp [GS.new] at hx, by simp [GS.new]⟩
 obtain ⟨h1, rfl⟩ := hm i m h
 exact (MI.start LB.new (SD.new.mono (show 0 ≤ 17000000 + 6000 * 0 by omega)) ⟨h1, hn.2⟩).1
def GJ (n c d : Nat) (G : GS) : Prop := ∃ a t I, a + c ≤ 90000 ∧ t + d ≤ 9000 ∧ GI n a t I G
theorem GJ.new {n : Nat} (hn : 1 ≤ n ∧ n ≤ 9) : GJ n 90000 9000 (GS.new n) := ⟨0, 0, 0, by omega, by omega, GI.new hn⟩
theorem bud (n : Nat) : Bud n 90000 (GJ n) where
 gw := fun c d G ⟨a, t, I, ha, ht, h⟩ => h.gw (by omega) (by omega)
 ln := fun c d G ⟨a, t, I, ha, ht, h⟩ => h.len.1
 le := fun c d G ⟨a, t, I, ha, ht, h⟩ => ⟨a, t, I, by omega, by omega, h⟩
 le2 := fun c d G ⟨a, t, I, ha, ht, h⟩ => ⟨a, t, I, by omega, by omega, h⟩
 tick := fun c d G i hi ⟨a, t, I, ha, ht, h⟩ => by
  obtain ⟨I', h'⟩ := h.tick hi (by omega) (by omega)
  exact ⟨a + 1, t + 1, I', by omega, by omega, h'⟩
 del := fun c d G k ⟨a, t, I, ha, ht, h⟩ => by
  obtain ⟨I', h'⟩ := h.deliver k (by omega) (by omega)
  exact ⟨a + 1, t, I', by omega, by omega, h'⟩
 prop := fun c d G i cmd hi hc ⟨a, t, I, ha, ht, h⟩ => by
  obtain ⟨I', h'⟩ := h.prop hi hc (by omega) (by omega)
  exact ⟨a + 1, t + 1, I', by omega, by omega, h'⟩
 comp := fun c d G i hi ⟨a, t, I, ha, ht, h⟩ => ⟨a + 1, t, I, by omega, by omega, h.comp hi (by omega) (by omega)⟩
 fuel := fun c d G i k hi hk ⟨a, t, I, ha, ht, h⟩ => ⟨a + 1, t, I, by omega, by omega, h.fuel hi hk⟩
 opens := fun c d G i m k ⟨a, t, I, ha, ht, h⟩ hm => (h.ms i m hm).opens k
 crash := fun c d G i k hi ⟨a, t, I, ha, ht, h⟩ => ⟨a + 1, t, I, by omega, by omega, h.crash hi k⟩
 drop := fun c d G k ⟨a, t, I, ha, ht, h⟩ => ⟨a + 1, t, I, by omega, by omega, (h.take k).later⟩
 twice := fun c d G k ⟨a, t, I, ha, ht, h⟩ => ⟨a + 1, t, I, by omega, by omega, h.twice k⟩
 last := fun c d G ⟨a, t, I, ha, ht, h⟩ => by
  have h1 := h.st
  have h2 : n * a + n * c ≤ n * 90000 := by rw [← Nat.mul_add]; exact Nat.mul_le_mul_left n (by omega)
  omega
 outs := fun c d G ⟨a, t, I, ha, ht, h⟩ => ⟨a, t, I, ha, ht, h.outs⟩
def MS.er (m : MS) : MS := { m with D := DK.new }
def MS.tickS (m : MS) : MS × List Msg := ({ m with x := m.x.tickP.q }, m.x.tickP.out)
def MS.recvS (m : MS) (g : Msg) : MS × List Msg := ({ m with x := (m.x.receiveP g).q }, (m.x.receiveP g).out)
def MS.propS (m : MS) (c : Bs) : (Int × Int) × (MS × List Msg) := if m.x.role = 2 then (((m.x.entryP c).g.last, (m.x.entryP c).g.term), ({ m with x := (m.x.entryP c).q }, (m.x.entryP c).out)) else ((0, 0), (m, []))
def doneS (i : Int) (m : MS) (o : List OC) : MS × List OC := m.rest.todo.foldl (XX i) (m.rest, o)
def GS.doneS (G : GS) (i : Nat) (m : MS) (l : List Msg) : GS := ⟨G.ms.set i (V.doneS i m G.out).1, G.st ++ Xk G.last l, G.last + l.length, (V.doneS i m G.out).2⟩
def GS.tickS (G : GS) (i : Nat) : GS := match G.ms[i]? with
 | none => G
 | some m => G.doneS i m.tickS.1 m.tickS.2
def GS.delS (G : GS) (k : Int) : GS :=
 if XU G.st k = true then
  if 0 ≤ (atM G.st k).2.to then match G.ms[(atM G.st k).2.to.toNat]? with
   | none => G.take k
   | some m => (G.take k).doneS (atM G.st k).2.to.toNat (m.recvS (atM G.st k).2).1 (m.recvS (atM G.st k).2).2
  else G.take k
 else G
def GS.propS (G : GS) (i : Nat) (c : Bs) : (Int × Int) × GS := match G.ms[i]? with
 | none => ((0, 0), G)
 | some m => ((m.propS c).1, G.doneS i (m.propS c).2.1 (m.propS c).2.2)
def GS.er (G : GS) : GS := { G with ms := G.ms.map MS.er }
def Hl (G : GS) : Prop := ∀ m ∈ G.ms, DKh m.D
theorem MI.up {T I : Int} {N i n : Nat} {m : MS} (h : MI T I N i n m) (hh : DKh m.D) : MU T I N i n m := by
 rcases h.st with u | d
 ·exact u
 ·rw [hh.1] at d; cases d.1
theorem MU.ld {T I : Int} {N i n : Nat} {m : MS} (u : MU T I N i n m) (hh : DKh m.D) : LD N m.x.g m.D := by
 obtain ⟨s1, s2, s3, s4, s5, s6⟩ := u.sd
 exact ⟨s1, hh.2, s2, ⟨s3.1, s3.2.1⟩, s4, s5, s6⟩
theorem Qma (i : Int) (e : Ent) (r : MS × List OC) (D : DK) : XX i ({ r.1 with D := D }, r.2) e = ({ (XX i r e).1 with D := D }, (XX i r e).2) := by
 unfold XX
 split <;> rfl
theorem QjL (i : Int) (D : DK) : ∀ (l : List Ent) (r : MS × List OC), l.foldl (XX i) ({ r.1 with D := D }, r.2) = ({ (l.foldl (XX i) r).1 with D := D }, (l.foldl (XX i) r).2)
 | [], r => rfl
 | e :: l, r => by rw [List.foldl_cons, List.foldl_cons, Qma, QjL i D l]
theorem Qjj (i : Int) (m : MS) (o : List OC) (D : DK) : doneS i { m with D := D } o = ({ (doneS i m o).1 with D := D }, (doneS i m o).2) := by
 unfold doneS
 have h1 : ({ m with D := D } : MS).rest = { m.rest with D := D } := by unfold MS.rest; split <;> rfl
 have h2 : ({ m with D := D } : MS).rest.todo = m.rest.todo := by rw [h1]; rfl
 rw [h2, h1]
 exact QjL i D _ (m.rest, o)
theorem QfY (i : Int) (m : MS) (o : List OC) : (doneS i m o).1.D = m.D := by
 unfold doneS
 rw [(QaY i m.rest.todo (m.rest, o)).2.1]
 exact (jf m).2.1
theorem QeK {G : GS} {i : Nat} {m m' : MS} {l : List Msg} (hm : G.ms[i]? = some m) (hd : m'.dn = false) (hh : DKh m'.D) (hl : Hl G) : (G.done i m' l).er = G.er.doneS i m'.er l ∧ Hl (G.done i m' l) := by
 have e : XG i m' G.out = doneS i m' G.out := by unfold XG; rw [if_neg (by rw [hd]; decide)]; rfl
 have e2 := Qjj i m' G.out DK.new
 constructor
 ·unfold GS.done GS.doneS GS.er
  rw [e]
  show GS.mk _ _ _ _ = GS.mk _ _ _ _
  rw [show m'.er = { m' with D := DK.new } from rfl, e2, List.map_set]
  rfl
 ·intro x hx
  rcases List.mem_or_eq_of_mem_set (show x ∈ G.ms.set i (XG i m' G.out).1 from hx) with hx | hx
  ·exact hl x hx
  ·rw [hx, e, QfY]; exact hh
theorem QjN {T I : Int} {N N' i n : Nat} {m : MS} {f : NS → Bool × NS} {y : ND} (h : MI T I N i n m) (u : MU T I N i n m) (hh : DKh m.D) (hf : Hs N' (f (m.x, m.D)) y) : ∃ D', DKh D' ∧ m.act (Xt (m.x, m.D) f) = ({ m with x := y.q, D := D' }, y.out) := by
 obtain ⟨a, b, c⟩ := QjB u.ub.inn.down (u.ld hh) h.out hf
 exact ⟨_, c.h, by unfold MS.act; rw [a, b]⟩
theorem Qlk {T I : Int} {N i n : Nat} {m : MS} (h : MI T I N i n m) (hh : DKh m.D) (hT : T ≤ 1000000000) (hI : I ≤ 9500) : ∃ D', DKh D' ∧ m.tick = ({ m with x := m.x.tickP.q, D := D' }, m.x.tickP.out) := by
 have u := h.up hh
 have hnn := u.ub.inn.nin0 ⟨by omega, by omega, by omega⟩ h.out
 exact QjN h u hh (Qll (by omega) (u.ld hh) hnn)
theorem QlE {T I : Int} {N i n : Nat} {m : MS} (h : MI T I N i n m) (hh : DKh m.D) {g : Msg} (hg : MB T I g) (hT : T ≤ 1000000000) (hI : I ≤ 9500) (hN : 17000000 ≤ N) : ∃ D', DKh D' ∧ m.recv g = ({ m with x := (m.x.receiveP g).q, D := D' }, (m.x.receiveP g).out) := by
 have u := h.up hh
 have hnn := u.ub.inn.nin0 ⟨by omega, by omega, by omega⟩ h.out
 exact QjN (f := fun s => Xl s g) h u hh (Qhu (k := 0) hN (by omega) (u.ld hh) hnn (hg.im (by omega) (by omega)).1 u.ub.inn.commit.1)
theorem QlH {T I : Int} {N i n : Nat} {m : MS} (h : MI T I N i n m) (hh : DKh m.D) {c : Bs} (hc : c.length ≤ 100) (hT : T ≤ 1000000000) (hI : I ≤ 9500) : ∃ D', DKh D' ∧ m.prop c = ((m.propS c).1, ({ (m.propS c).2.1 with D := D' }, (m.propS c).2.2)) := by
 have u := h.up hh
 by_cases hr : m.x.role = 2
 ·have hnn := u.ub.inn.nin0 ⟨by omega, by omega, by omega⟩ h.out
  have hf := QfT (cmd := c) (by omega) (u.ld hh) hnn hc
  obtain ⟨a, b, d⟩ := QjB (f := fun s => QT s c) u.ub.inn.down (u.ld hh) h.out hf
  have hb2 : (m.x.entryP c).down = false := by
   have h3 : (m.x.entryP c).down = m.x.down := by unfold ND.entryP; rw [XW]; show (ND.count _).down = _; unfold ND.count; split <;> rfl
   rw [h3]; exact u.ub.inn.down
  have hnd : ¬ Xn (Xt (m.x, m.D) (fun s => QT s c)).2 = true := by
   have := QfX (D := (Xt (m.x, m.D) (fun s => QT s c)).2.2) hb2 d
   rw [← b] at this
   exact this
  refine ⟨_, d.h, ?_⟩
  unfold MS.prop XA MS.propS MS.act
  rw [if_neg (by simpa using hr), if_neg hnd, if_pos hr, a, b]
 ·refine ⟨m.D, hh, ?_⟩
  rw [Qcw hr, h.act0]
  unfold MS.propS
  rw [if_neg hr]
theorem QgS {G : GS} {i : Nat} {m : MS} (hm : G.ms[i]? = some m) : G.er.ms[i]? = some m.er := by unfold GS.er; simp [hm]
theorem QgR {G : GS} {i : Nat} (hm : G.ms[i]? = none) : G.er.ms[i]? = none := by unfold GS.er; simpa using hm
theorem QkJ {n a t : Nat} {I : Int} {G : GS} (h : GI n a t I G) (hl : Hl G) {i : Nat} (ha : a ≤ 90000) (ht : t + 1 ≤ 9400) : (G.tick i).er = G.er.tickS i ∧ Hl (G.tick i) := by
 have hI := h.I
 cases hm : G.ms[i]? with
 | none => unfold GS.tick GS.tickS; rw [hm, QgR hm]; exact ⟨rfl, hl⟩
 | some m =>
  have hmi := h.ms i m hm
  have hh := hl m (List.mem_of_getElem? hm)
  obtain ⟨D', hD', e⟩ := Qlk hmi hh (by omega) (by omega)
  obtain ⟨I', a1, a2, a3, a4, a5⟩ := hmi.tick (by omega) (by omega)
  rw [Qaz hm]
  rw [e] at a3 ⊢
  obtain ⟨b1, b2⟩ := QeK (m' := { m with x := m.x.tickP.q, D := D' }) (l := m.x.tickP.out) hm (a3.up hD').dn hD' hl
  refine ⟨?_, b2⟩
  unfold GS.tickS
  rw [QgS hm]
  exact b1
theorem Qhb {G : GS} (hl : Hl G) (k : Int) : (G.take k).er = G.er.take k ∧ Hl (G.take k) := ⟨rfl, hl⟩
theorem QlW {n a t : Nat} {I : Int} {G : GS} (h : GI n a t I G) (hl : Hl G) {k : Int} (ha : a ≤ 90000) (ht : t ≤ 9400) : (G.deliver k).er = G.er.delS k ∧ Hl (G.deliver k) := by
 have hI := h.I
 have est : G.er.st = G.st := rfl
 unfold GS.deliver GS.delS
 rw [est]
 split
 ·rename_i hb
  split
  ·cases hm : G.ms[(atM G.st k).2.to.toNat]? with
   | none => rw [QgR hm]; exact Qhb hl k
   | some m =>
    rw [QgS hm]
    have hmi := h.ms _ m hm
    have hh := hl m (List.mem_of_getElem? hm)
    have hg := h.msg _ (QcS hb)
    obtain ⟨D', hD', e⟩ := QlE hmi hh hg (by omega) (by omega) (by omega)
    obtain ⟨I', a1, a2, a3, a4, a5⟩ := hmi.recv hg (by omega) (by omega) (by omega)
    dsimp only
    rw [e] at a3 ⊢
    exact QeK (G := G.take k) (m' := { m with x := (m.x.receiveP (atM G.st k).2).q, D := D' }) hm (a3.up hD').dn hD' hl
  ·exact Qhb hl k
 ·exact ⟨rfl, hl⟩
theorem QkN {n a t : Nat} {I : Int} {G : GS} (h : GI n a t I G) (hl : Hl G) {i : Nat} {c : Bs} (hc : c.length ≤ 100) (ha : a ≤ 90000) (ht : t + 1 ≤ 9400) : (G.propose i c).1 = (G.er.propS i c).1 ∧ (G.propose i c).2.er = (G.er.propS i c).2 ∧ Hl (G.propose i c).2 := by
 have hI := h.I
 cases hm : G.ms[i]? with
 | none => unfold GS.propose GS.propS; rw [hm, QgR hm]; exact ⟨rfl, rfl, hl⟩
 | some m =>
  have hmi := h.ms i m hm
  have hh := hl m (List.mem_of_getElem? hm)
  obtain ⟨D', hD', e⟩ := QlH hmi hh hc (by omega) (by omega)
  obtain ⟨I', a1, a2, a3, a4, a5⟩ := hmi.prop hc (by omega) (by omega)
  have ep : m.er.propS c = ((m.propS c).1, ((m.propS c).2.1.er, (m.propS c).2.2)) := by unfold MS.propS; show (if m.x.role = 2 then _ else _) = _; split <;> rfl
  rw [QaH hm]
  rw [e] at a3 ⊢
  obtain ⟨b1, b2⟩ := QeK (m' := { (m.propS c).2.1 with D := D' }) (l := (m.propS c).2.2) hm (a3.up hD').dn hD' hl
  unfold GS.propS
  rw [QgS hm]
  dsimp only
  rw [ep]
  exact ⟨rfl, b1, b2⟩
def SJ11 (n c d : Nat) (G : GS) : Prop := GJ n c d G ∧ Hl G
theorem SJ11.tick {n c d i : Nat} {G : GS} (h : SJ11 n (c + 1) (d + 1) G) (hi : i < n) : SJ11 n c d (G.tick i) ∧ (G.tick i).er = G.er.tickS i := by
 have hb := (bud n).tick c d G i hi h.1
 obtain ⟨⟨a, t, I, ha, ht, hg⟩, hl⟩ := h
 obtain ⟨e1, e2⟩ := QkJ hg hl (i := i) (by omega) (by omega)
 exact ⟨⟨hb, e2⟩, e1⟩
theorem SJ11.del {n c d : Nat} {k : Int} {G : GS} (h : SJ11 n (c + 1) d G) : SJ11 n c d (G.deliver k) ∧ (G.deliver k).er = G.er.delS k := by
 have hb := (bud n).del c d G k h.1
 obtain ⟨⟨a, t, I, ha, ht, hg⟩, hl⟩ := h
 obtain ⟨e1, e2⟩ := QlW hg hl (k := k) (by omega) (by omega)
 exact ⟨⟨hb, e2⟩, e1⟩
theorem SJ11.prop {n c d i : Nat} {cmd : Bs} {G : GS} (h : SJ11 n (c + 1) (d + 1) G) (hi : i < n) (hc : cmd.length ≤ 100) : SJ11 n c d (G.propose i cmd).2 ∧ (G.propose i cmd).1 = (G.er.propS i cmd).1 ∧ (G.propose i cmd).2.er = (G.er.propS i cmd).2 := by
 have hb := (bud n).prop c d G i cmd hi hc h.1
 obtain ⟨⟨a, t, I, ha, ht, hg⟩, hl⟩ := h
 obtain ⟨e1, e2, e3⟩ := QkN hg hl (i := i) hc (by omega) (by omega)
 exact ⟨⟨hb, e3⟩, e1, e2⟩
theorem SJ11.leq {n c c' d d' : Nat} {G : GS} (h : SJ11 n c' d' G) (hc : c ≤ c') (hd : d ≤ d') : SJ11 n c d G := ⟨(bud n).leq hc hd h.1, h.2⟩
def GS.ticksS (G : GS) (k : Nat) : GS := (List.range k).foldl GS.tickS G
theorem zG (G : GS) (k : Nat) : G.ticksS (k + 1) = (G.ticksS k).tickS k := by unfold GS.ticksS; rw [List.range_succ, List.foldl_append]; rfl
theorem SJ11.ticks {n c d : Nat} {G : GS} : ∀ {k : Nat}, k ≤ n → SJ11 n (c + k) (d + k) G → SJ11 n c d (G.ticks k) ∧ (G.ticks k).er = G.er.ticksS k
 | 0, _, h => ⟨h, rfl⟩
 | k + 1, hk, h => by
  obtain ⟨h1, e1⟩ := SJ11.ticks (n := n) (c := c + 1) (d := d + 1) (k := k) (by omega) (by rw [show c + 1 + k = c + (k + 1) by omega, show d + 1 + k = d + (k + 1) by omega]; exact h)
  obtain ⟨h2, e2⟩ := h1.tick (i := k) (by omega)
  rw [ZY, zG, e2, e1]
  exact ⟨h2, rfl⟩
def GS.del1S (G : GS) : GS := if G.st.length > 0 then G.delS 0 else G
def GS.delsS (G : GS) : Nat → GS
 | 0 => G
 | k + 1 => (G.delsS k).del1S
theorem SJ11.dels {n c d : Nat} {G : GS} : ∀ {k : Nat}, SJ11 n (c + k) d G → SJ11 n c d (G.dels k) ∧ (G.dels k).er = G.er.delsS k
 | 0, h => ⟨h, rfl⟩
 | k + 1, h => by
  obtain ⟨h1, e1⟩ := SJ11.dels (c := c + 1) (k := k) (by rw [show c + 1 + k = c + (k + 1) by omega]; exact h)
  show SJ11 n c d (G.dels k).del1 ∧ (G.dels k).del1.er = (G.er.delsS k).del1S
  rw [← e1]
  unfold GS.del1 GS.del1S
  rw [show (G.dels k).er.st = (G.dels k).st from rfl]
  split
  ·exact h1.del
  ·exact ⟨h1.leq (by omega) (Nat.le_refl _), rfl⟩
def GS.roundS (G : GS) (n : Nat) : GS := (G.ticksS n).delsS 200
def GS.roundsS (G : GS) (n : Nat) : Nat → GS
 | 0 => G
 | k + 1 => (G.roundsS n k).roundS n
theorem SJ11.round {n c d : Nat} {G : GS} (h : SJ11 n (c + (n + 200)) (d + n) G) : SJ11 n c d (G.round n) ∧ (G.round n).er = G.er.roundS n := by
 obtain ⟨h1, e1⟩ := SJ11.ticks (c := c + 200) (d := d) (k := n) (Nat.le_refl n) (by rw [show c + 200 + n = c + (n + 200) by omega]; exact h)
 obtain ⟨h2, e2⟩ := h1.dels
 unfold GS.roundS
 rw [← e1]
 exact ⟨h2, e2⟩
theorem SJ11.rounds {n : Nat} {G : GS} : ∀ {k c d : Nat}, SJ11 n (c + k * (n + 200)) (d + k * n) G → SJ11 n c d (G.rounds n k) ∧ (G.rounds n k).er = G.er.roundsS n k
 | 0, c, d, h => ⟨by simpa [GS.rounds] using h, rfl⟩
 | k + 1, c, d, h => by
  obtain ⟨h1, e1⟩ := SJ11.rounds (k := k) (c := c + (n + 200)) (d := d + n) (by rw [show c + (n + 200) + k * (n + 200) = c + (k + 1) * (n + 200) by rw [Nat.add_mul]; omega, show d + n + k * n = d + (k + 1) * n by rw [Nat.add_mul]; omega]; exact h)
  obtain ⟨h2, e2⟩ := h1.round
  show SJ11 n c d ((G.rounds n k).round n) ∧ ((G.rounds n k).round n).er = (G.er.roundsS n k).roundS n
  rw [← e1]
  exact ⟨h2, e2⟩
theorem QbA (G : GS) (n : Nat) : G.er.leads n = G.leads n := by
 have h1 : ∀ k, G.er.leader k = G.leader k := fun k => by unfold GS.leader GS.er; cases h : G.ms[k]? <;> simp [h] <;> rfl
 have h2 : ∀ k, G.er.term k = G.term k := fun k => by unfold GS.term GS.er; cases h : G.ms[k]? <;> simp [h] <;> rfl
 have h3 : ∀ k, G.er.role k = G.role k := fun k => by unfold GS.role GS.er; split <;> (try rfl); cases h : G.ms[k.toNat]? <;> simp [h] <;> rfl
 have h4 : G.er.alike n = G.alike n := by unfold GS.alike; simp only [h1, h2]
 unfold GS.leads
 simp only [h1, h3, h4]
def YO (es : List Ent) : List Bs := (es.map (·.2)).filter (fun s => decide (¬ s = []))
theorem Qbg (a b : List Ent) : YO (a ++ b) = YO a ++ YO b := by simp [YO]
theorem Qez (i : Int) : ∀ (es : List Ent) (r : MS × List OC), (es.foldl (XX i) r).1 = { r.1 with ap := r.1.ap + es.length, l := r.1.l ++ YO es }
 | [], r => by simp [YO]
 | e :: es, r => by
  rw [List.foldl_cons, Qez i es]
  unfold XX
  by_cases h : e.2 = []
  ·rw [if_pos h, show YO (e :: es) = YO es by simp [YO, h]]
   dsimp only
   rw [List.length_cons, show r.1.ap + 1 + (es.length : Int) = r.1.ap + ((es.length + 1 : Nat) : Int) by omega]
  ·rw [if_neg h, show YO (e :: es) = e.2 :: YO es by simp [YO, h]]
   dsimp only
   rw [List.length_cons, show r.1.ap + 1 + (es.length : Int) = r.1.ap + ((es.length + 1 : Nat) : Int) by omega, List.append_assoc]; rfl
theorem QeY {g : LG} (e : Ent) (hb : 0 ≤ g.base) : (g.play (.add g.last [e])).all = g.all ++ [e] ∧ (g.play (.add g.last [e])).last = g.last + 1 := by
 have h1 : (g.play (.add g.last [e])).all = g.all ++ [e] := by
  show g.all.take (g.last - g.base).toNat ++ [e] = _
  rw [List.take_of_length_le (by unfold LG.last; omega)]
 refine ⟨h1, ?_⟩
 show g.base + ((g.play (.add g.last [e])).all.length : Int) = g.last + 1
 rw [h1]
 unfold LG.last
 simp; omega
theorem Zy {P Q : Nat → MS → Prop} {ms : List MS} {i : Nat} {m' : MS} (h : ∀ j m, ms[j]? = some m → P j m) (hpq : ∀ j m, j ≠ i → P j m → Q j m) (h' : Q i m') : ∀ j m, (ms.set i m')[j]? = some m → Q j m := fun j m hj => by
 by_cases e : i = j
 ·subst e
  have hi : i < ms.length := by have := (List.getElem?_eq_some_iff.1 hj).1; simpa using this
  rw [List.getElem?_set_self hi] at hj
  have hj := Option.some.inj hj
  subst hj; exact h'
 ·rw [List.getElem?_set_ne e] at hj
  exact hpq j m (fun h => e h.symm) (h j m hj)
theorem QlU {x : XD} {l : List XD} : XU (x :: l) 0 = true := by unfold XU; simp
theorem at0 {x : XD} {l : List XD} : atM (x :: l) 0 = x := (jK (st := x :: l) (i := 0) (x := x) rfl).1
theorem QmF {x : XD} {l : List XD} : YV (x :: l) 0 = l := by unfold YV; rw [if_pos QlU]; rfl
theorem QaW {G : GS} {x : XD} {l : List XD} {i : Nat} {m : MS} (hs : G.st = x :: l) (hto : x.2.to = (i : Int)) (hm : G.ms[i]? = some m) :
  (G.delS 0).ms = G.ms.set i (doneS i (m.recvS x.2).1 G.out).1 ∧ (G.delS 0).st = l ++ Xk G.last (m.recvS x.2).2 := by
 unfold GS.delS
 rw [hs, QlU, at0, hto, if_pos rfl, if_pos (by omega), Int.toNat_natCast, hm]
 constructor
 ·rfl
 ·show YV G.st 0 ++ _ = _
  rw [hs, QmF]; rfl
def muW (w : Msg → Nat) (l : List XD) : Nat := (l.map fun x => w x.2).sum
theorem QfJ (w : Msg → Nat) (a b : List XD) : muW w (a ++ b) = muW w a + muW w b := by simp [muW]
theorem QfH (w : Msg → Nat) (k : Int) (m : Msg) : muW w (Xk k [m]) = w m := by simp [muW, Xk]
theorem QfI {w : Msg → Nat} (hw : ∀ m, 1 ≤ w m) : ∀ l : List XD, l.length ≤ muW w l
 | [] => Nat.zero_le _
 | x :: l => by
  have := QfI hw l
  have := hw x.2
  unfold muW at *
  simp only [List.map_cons, List.sum_cons, List.length_cons]
  omega
theorem QeL {Inv : GS → Prop} {w : Msg → Nat} (hw : ∀ m, 1 ≤ w m) (step : ∀ G x l, Inv G → G.st = x :: l → Inv (G.delS 0) ∧ muW w (G.delS 0).st < muW w G.st) {G : GS} (h : Inv G) {k : Nat} (hk : muW w G.st ≤ k) : Inv (G.delsS k) ∧ (G.delsS k).st = [] := by
 have key : ∀ j, Inv (G.delsS j) ∧ (muW w (G.delsS j).st + j ≤ muW w G.st ∨ (G.delsS j).st = []) := fun j => by
  induction j with
  | zero => exact ⟨h, .inl (Nat.le_refl _)⟩
  | succ j ih =>
   obtain ⟨h1, h2⟩ := ih
   show Inv (G.delsS j).del1S ∧ _
   cases hs : (G.delsS j).st with
   | nil =>
    have e : (G.delsS j).del1S = G.delsS j := by unfold GS.del1S; rw [hs, if_neg (by simp)]
    exact ⟨by rw [e]; exact h1, .inr (by show (G.delsS j).del1S.st = []; rw [e, hs])⟩
   | cons x l =>
    have e : (G.delsS j).del1S = (G.delsS j).delS 0 := by unfold GS.del1S; rw [hs, if_pos (by simp)]
    obtain ⟨h3, h4⟩ := step _ x l h1 hs
    refine ⟨by rw [e]; exact h3, .inl ?_⟩
    show muW w (G.delsS j).del1S.st + (j + 1) ≤ _
    rw [e]
    rcases h2 with h2 | h2
    ·omega
    ·rw [h2] at hs; cases hs
 obtain ⟨h1, h2⟩ := key k
 refine ⟨h1, ?_⟩
 rcases h2 with h2 | h2
 ·have := QfI hw (G.delsS k).st
  exact List.length_eq_zero_iff.1 (by omega)
 ·exact h2
def QbH (g : LG) : List Bs := (if g.base > 0 then unS g.state else []) ++ YO g.all
theorem QkT (i : Int) (m : MS) (o : List OC) : (doneS i m o).1.x = m.x := by
 unfold doneS
 rw [(QaY i _ _).1]
 exact (jf _).1
theorem QkS {m : MS} (hb : m.x.g.base ≤ m.ap) (i : Int) (o : List OC) : (doneS i m o).1 = { m with ap := m.ap + (((m.x.g.all.drop (m.ap - m.x.g.base).toNat).take (m.x.commit - m.ap).toNat).length : Int), l := m.l ++ YO ((m.x.g.all.drop (m.ap - m.x.g.base).toNat).take (m.x.commit - m.ap).toNat) } := by
 have h1 : m.rest = m := by unfold MS.rest; rw [if_neg (by omega)]
 unfold doneS
 rw [h1, Qez]
 rfl
structure AP (cs : List Bs) (m : MS) : Prop where
 b : m.x.g.base ≤ m.ap
 c : m.ap ≤ m.x.commit
 l : m.x.commit ≤ m.x.g.last
 t : m.l ++ YO (m.x.g.all.drop (m.ap - m.x.g.base).toNat) = cs
theorem AP.done {c : List Bs} {m : MS} (h : AP c m) (i : Int) (o : List OC) : AP c (doneS i m o).1 ∧ (doneS i m o).1.ap = m.x.commit ∧ (doneS i m o).1.x = m.x ∧ (doneS i m o).1.D = m.D ∧ (m.x.commit = m.x.g.last → (doneS i m o).1.l = c) := by
 have hb := h.b
 have hc := h.c
 have hl := h.l
 have hl2 : m.x.g.last = m.x.g.base + m.x.g.all.length := rfl
 have e := QkS hb i o
 have hlen : ((m.x.g.all.drop (m.ap - m.x.g.base).toNat).take (m.x.commit - m.ap).toNat).length = (m.x.commit - m.ap).toNat := by simp; omega
 rw [hlen] at e
 have hap : (doneS i m o).1.ap = m.x.commit := by rw [e]; show m.ap + _ = _; omega
 have hx : (doneS i m o).1.x = m.x := QkT i m o
 have hll : (doneS i m o).1.l = m.l ++ YO ((m.x.g.all.drop (m.ap - m.x.g.base).toNat).take (m.x.commit - m.ap).toNat) := by rw [e]
 have hA : AP c (doneS i m o).1 := by
  refine ⟨by rw [hx, hap]; omega, by rw [hx, hap]; exact Int.le_refl _, by rw [hx]; exact hl, ?_⟩
  rw [hx, hap, hll, List.append_assoc, ← Qbg]
  have e2 : m.x.g.all.drop (m.x.commit - m.x.g.base).toNat = (m.x.g.all.drop (m.ap - m.x.g.base).toNat).drop (m.x.commit - m.ap).toNat := by rw [List.drop_drop]; congr 1; omega
  rw [e2, List.take_append_drop]
  exact h.t
 refine ⟨hA, hap, hx, QfY i m o, fun hcl => ?_⟩
 have := hA.t
 rw [hx, hap, hcl, List.drop_eq_nil_of_le (by omega)] at this
 simpa [YO] using this
structure BM (n : Nat) (T k t : Int) (w : List Bs) (i : Nat) (m : MS) : Prop where
 id : m.x.id = i
 n : m.x.n = n
 out : m.x.out = []
 term : m.x.g.term = T
 base : 0 ≤ m.x.g.base
 last : m.x.g.last = k
 tl : m.x.g.termAt k = some t
 ct : QbH m.x.g = w
 ap : m.ap = m.x.commit
 A : AP w m
structure BL (n L : Nat) (k p : Int) (m : MS) : Prop where
 role : m.x.role = 2
 leader : m.x.leader = L
 pat : m.x.patience = p
 com : m.x.commit = k
 l : m.x.peers.length = n
 peers : ∀ j, j < n → j ≠ L → m.x.peers[j]? = some (k + 1, k)
structure BF (L : Nat) (b : Int) (m : MS) : Prop where
 role : m.x.role = 0
 pat : 0 ≤ m.x.patience ∧ m.x.patience ≤ b
def Syn (L : Nat) (k : Int) (m : MS) : Prop := m.x.leader = L ∧ m.x.commit = k
def bM (L : Nat) (T k t : Int) (i : Nat) : Msg := { Msg.zero with kind := 2, frm := L, to := i, term := T, index := k, logTerm := t, commit := k }
def aM (L : Nat) (T k : Int) (i : Nat) : Msg := { Msg.zero with kind := 3, frm := i, to := L, term := T, ok := true, index := k }
def w2 (m : Msg) : Nat := if m.kind = 3 then 1 else 2
theorem Qg7 (m : Msg) : 1 ≤ w2 m := by unfold w2; split <;> omega
theorem Qek {x : ND} (hid : x.id < x.n) {k : Int} (h1 : x.g.last ≤ k) (h2 : ∀ j, j < x.n → j ≠ x.id → x.mat j ≤ k) : x.mid ≤ k := by
 have hm := jg hid
 unfold ND.reach at hm
 rcases List.mem_cons.1 hm with hm | hm
 ·omega
 ·obtain ⟨j, hj, e⟩ := List.mem_map.1 hm
  rw [← e]
  unfold ND.others at hj
  rw [List.mem_filter] at hj
  exact h2 j (by simpa using hj.1) (by simpa using hj.2)
theorem Zk {x : ND} {j : Nat} {p : Int × Int} (h : x.peers[j]? = some p) : x.mat j = p.2 ∧ x.nxt j = p.1 := by
 unfold ND.mat ND.nxt
 rw [List.getD_eq_getElem?_getD, h]; exact ⟨rfl, rfl⟩
theorem Qjm {x : ND} (h : x.mid ≤ x.commit) : x.count = x := by unfold ND.count; rw [if_neg (by omega)]
theorem Qhr {x : ND} {L n i : Nat} {T k t : Int} (hid : x.id = i) (hn : x.n = n) (hL : L < n ∧ L ≠ i) (ht : x.g.term = T) (hr : x.role = 0) (hb : x.g.base ≤ k) (htl : x.g.termAt k = some t) (hc : x.commit ≤ k) :
  x.receiveP (bM L T k t i) = ND.answer { x with role := 0, leader := L, patience := 0, commit := k } (bM L T k t i) true k := by
 unfold ND.receiveP
 rw [if_neg (by rw [hid, hn]; show ¬ (¬ (i : Int) = i ∨ (L : Int) = i ∨ (L : Int) < 0 ∨ (L : Int) ≥ n); omega), if_neg (by show ¬ T > x.g.term; omega)]
 unfold ND.kindP
 rw [if_neg (by show ¬ (2 : Int) = 0; decide), if_neg (by show ¬ (2 : Int) = 1; decide), if_pos (.inl (show (bM L T k t i).kind = 2 from rfl))]
 unfold ND.fedP
 rw [if_neg (by show ¬ T < x.g.term; omega), if_neg (by omega), if_pos (show (bM L T k t i).kind = 2 from rfl)]
 unfold ND.addP
 rw [if_neg (by show ¬ (k < x.g.base ∧ _); omega), if_neg (by show ¬ (_ ∧ ¬ x.g.termAt k = some t); rw [htl]; simp)]
 have hcut : (x.follows (bM L T k t i)).cutM (bM L T k t i) = (k, []) := by
  unfold ND.cutM
  rw [if_neg (by show ¬ k < x.g.base; omega)]
  rfl
 rw [hcut]
 unfold ND.restP
 rw [Qja]
 dsimp only
 have hcm : max x.commit (min k (k + (([] : List Ent).length : Int))) = k := by simp; omega
 unfold ND.commits ND.follows
 show ND.answer { x with role := 0, leader := L, patience := 0, commit := max x.commit (min k (k + (([] : List Ent).length : Int))) } _ true (k + (([] : List Ent).length : Int)) = _
 rw [hcm]
 simp
theorem QiH {x : ND} {L n i : Nat} {T k : Int} (hid : x.id = L) (hn : x.n = n) (hi : i < n ∧ i ≠ L) (hL : L < n) (ht : x.g.term = T) (hr : x.role = 2) (hl : x.g.last = k) (hc : x.commit = k) (hpl : x.peers.length = n) (hp : ∀ j, j < n → j ≠ L → x.peers[j]? = some (k + 1, k)) :
  x.receiveP (aM L T k i) = x := by
 have hpi := hp i hi.1 hi.2
 unfold ND.receiveP
 rw [if_neg (by rw [hid, hn]; show ¬ (¬ (L : Int) = L ∨ (i : Int) = L ∨ (i : Int) < 0 ∨ (i : Int) ≥ n); omega), if_neg (by show ¬ T > x.g.term; omega)]
 unfold ND.kindP
 rw [if_neg (by show ¬ (3 : Int) = 0; decide), if_neg (by show ¬ (3 : Int) = 1; decide), if_neg (by show ¬ ((3 : Int) = 2 ∨ (3 : Int) = 4); decide), if_pos (show (aM L T k i).kind = 3 from rfl)]
 unfold ND.heardP XZ
 dsimp only
 rw [if_neg (by show ¬ (¬ x.role = 2 ∨ ¬ T = x.g.term); omega), if_neg (by show ¬ true = false; decide)]
 have e1 : (aM L T k i).frm.toNat = i := by show (i : Int).toNat = i; simp
 have e2 : max (x.mat i) (min (aM L T k i).index x.g.last) = k := by
  rw [(Zk hpi).1, hl]; show max k (min k k) = k; omega
 rw [e1, e2]
 have e3 : x.setPeer i (k + 1, k) = x := by
  unfold ND.setPeer
  have : x.peers.set i (k + 1, k) = x.peers := by
   apply List.ext_getElem? 
   intro j
   by_cases hj : i = j
   ·subst hj
    rw [List.getElem?_set_self (by omega), hpi]
   ·rw [List.getElem?_set_ne hj]
  rw [this]
 rw [e3, Qjm (by rw [hc]; exact Qek (by omega) (by omega) (fun j hj hjn => by rw [(Zk (hp j (by omega) (by omega))).1]; exact Int.le_refl _))]
 rw [if_neg (by show ¬ k + 1 ≤ x.g.last; omega)]
structure Beat (n L : Nat) (T k t : Int) (w : List Bs) (p b : Int) (G : GS) : Prop where
 len : G.ms.length = n
 lt : L < n
 ms : ∀ i m, G.ms[i]? = some m → BM n T k t w i m ∧ (i = L → BL n L k p m) ∧ (i ≠ L → BF L b m ∧ ((Syn L k m ∧ m.x.patience = 0) ∨ ∃ x ∈ G.st, x.2 = bM L T k t i))
 st : ∀ x ∈ G.st, ∃ i, i < n ∧ i ≠ L ∧ (x.2 = bM L T k t i ∨ x.2 = aM L T k i)
theorem BM.at {n : Nat} {T k t : Int} {w : List Bs} {i : Nat} {m : MS} (h : BM n T k t w i m) : m.x.g.base ≤ k ∧ m.x.commit ≤ k ∧ m.x.g.base ≤ m.x.commit := by
 have h1 := h.A
 have h2 := h.ap
 have h3 := h.last
 have := h1.b
 have := h1.l
 omega
theorem Beat.del {n L : Nat} {T k t : Int} {w : List Bs} {p b : Int} {G : GS} {x : XD} {l : List XD} (h : Beat n L T k t w p b G) (hb : 0 ≤ b) (hs : G.st = x :: l) : Beat n L T k t w p b (G.delS 0) ∧ muW w2 (G.delS 0).st < muW w2 G.st := by
 obtain ⟨i, hi, hiL, hx⟩ := h.st x (by rw [hs]; simp)
 have hLn := h.lt
 have hst : ∀ y ∈ l, y ∈ G.st := fun y hy => by rw [hs]; exact List.mem_cons_of_mem _ hy
 rcases hx with hx | hx
 ·obtain ⟨m, hm⟩ : ∃ m, G.ms[i]? = some m := ⟨_, List.getElem?_eq_getElem (by rw [h.len]; exact hi)⟩
  obtain ⟨c1, _, c3⟩ := h.ms i m hm
  obtain ⟨c4, _⟩ := c3 hiL
  obtain ⟨a1, a2, a3⟩ := c1.at
  obtain ⟨e1, e2⟩ := QaW hs (by rw [hx]; rfl) hm
  have hr := Qhr (x := m.x) c1.id c1.n ⟨hLn, fun e => hiL e.symm⟩ c1.term c4.role a1 c1.tl a2
  have er : m.recvS x.2 = ({ m with x := { m.x with role := 0, leader := L, patience := 0, commit := k } }, [aM L T k i]) := by
   unfold MS.recvS
   rw [hx, hr]
   unfold ND.answer ND.send ND.q
   dsimp only
   rw [c1.out]
   refine Prod.ext ?_ ?_
   ·show MS.mk _ _ _ _ = MS.mk _ _ _ _
    congr 1
    try (show ND.mk _ _ _ _ _ _ _ _ _ _ _ = ND.mk _ _ _ _ _ _ _ _ _ _ _; rw [c1.out])
   ·show [_] = [_]
    unfold aM bM
    dsimp only
    rw [c1.id, c1.term]
    try rfl
  rw [er] at e1 e2
  have hA : AP w { m with x := { m.x with role := 0, leader := L, patience := 0, commit := k } } := ⟨c1.A.b, by show m.ap ≤ k; rw [c1.ap]; exact a2, by show k ≤ m.x.g.last; rw [c1.last]; exact Int.le_refl _, c1.A.t⟩
  obtain ⟨d1, d2, d3, d4, d5⟩ := hA.done (i : Int) G.out
  constructor
  ·refine ⟨by rw [e1, List.length_set]; exact h.len, hLn, ?_, ?_⟩
   ·rw [e1]
    refine Zy h.ms (fun j mj hj hP => ⟨hP.1, hP.2.1, fun hjL => ⟨(hP.2.2 hjL).1, ?_⟩⟩) ?_
    ·rcases (hP.2.2 hjL).2 with hz | ⟨y, hy, hz⟩
     ·exact .inl hz
     ·right
      refine ⟨y, ?_, hz⟩
      rw [hs] at hy
      rcases List.mem_cons.1 hy with hy | hy
      ·exfalso
       rw [hy, hx] at hz
       have : ((i : Int)) = j := congrArg Msg.to hz
       omega
      ·rw [e2]; exact List.mem_append_left _ hy
    ·refine ⟨⟨by rw [d3]; exact c1.id, by rw [d3]; exact c1.n, by rw [d3]; exact c1.out, by rw [d3]; exact c1.term, by rw [d3]; exact c1.base, by rw [d3]; exact c1.last, by rw [d3]; exact c1.tl, by rw [d3]; exact c1.ct, by rw [d2, d3], d1⟩, fun e => absurd e hiL, fun _ => ⟨⟨by rw [d3], by rw [d3]; exact ⟨Int.le_refl _, hb⟩⟩, .inl ⟨⟨by rw [d3], by rw [d3]⟩, by rw [d3]⟩⟩⟩
   ·intro y hy
    rw [e2] at hy
    rcases List.mem_append.1 hy with hy | hy
    ·exact h.st y (hst y hy)
    ·have := ZR hy
     simp at this
     exact ⟨i, hi, hiL, .inr this⟩
  ·rw [e2, hs, QfJ, QfH]
   have h1 : w2 (aM L T k i) = 1 := rfl
   have h2 : w2 x.2 = 2 := by rw [hx]; rfl
   unfold muW
   simp only [List.map_cons, List.sum_cons]
   omega
 ·obtain ⟨m, hm⟩ : ∃ m, G.ms[L]? = some m := ⟨_, List.getElem?_eq_getElem (by rw [h.len]; exact hLn)⟩
  obtain ⟨c1, c2, c3⟩ := h.ms L m hm
  have c2 := c2 rfl
  obtain ⟨e1, e2⟩ := QaW hs (by rw [hx]; rfl) hm
  have hr := QiH (x := m.x) c1.id c1.n ⟨hi, hiL⟩ hLn c1.term c2.role c1.last c2.com c2.l c2.peers
  have er : m.recvS x.2 = (m, []) := by
   unfold MS.recvS
   rw [hx, hr, c1.out, qR c1.out]
  rw [er] at e1 e2
  obtain ⟨d1, d2, d3, d4, d5⟩ := c1.A.done (L : Int) G.out
  have e2 : (G.delS 0).st = l := by rw [e2]; simp [Xk]
  constructor
  ·refine ⟨by rw [e1, List.length_set]; exact h.len, hLn, ?_, ?_⟩
   ·rw [e1]
    refine Zy h.ms (fun j mj hj hP => ⟨hP.1, hP.2.1, fun hjL => ⟨(hP.2.2 hjL).1, ?_⟩⟩) ?_
    ·rcases (hP.2.2 hjL).2 with hz | ⟨y, hy, hz⟩
     ·exact .inl hz
     ·right
      refine ⟨y, ?_, hz⟩
      rw [hs] at hy
      rcases List.mem_cons.1 hy with hy | hy
      ·exfalso
       rw [hy, hx] at hz
       have : (3 : Int) = 2 := congrArg Msg.kind hz
       omega
      ·rw [e2]; exact hy
    ·refine ⟨⟨by rw [d3]; exact c1.id, by rw [d3]; exact c1.n, by rw [d3]; exact c1.out, by rw [d3]; exact c1.term, by rw [d3]; exact c1.base, by rw [d3]; exact c1.last, by rw [d3]; exact c1.tl, by rw [d3]; exact c1.ct, by rw [d2, d3], d1⟩, fun _ => ⟨by rw [d3]; exact c2.role, by rw [d3]; exact c2.leader, by rw [d3]; exact c2.pat, by rw [d3]; exact c2.com, by rw [d3]; exact c2.l, by rw [d3]; exact c2.peers⟩, fun e => absurd rfl e⟩
   ·intro y hy
    rw [e2] at hy
    exact h.st y (hst y hy)
  ·rw [e2, hs]
   have h2 : w2 x.2 = 1 := by rw [hx]; rfl
   unfold muW
   simp only [List.map_cons, List.sum_cons]
   omega
structure PS (n L : Nat) (T k t : Int) (w : List Bs) (p b : Int) (y : Prop) (G : GS) : Prop where
 len : G.ms.length = n
 lt : L < n
 ms : ∀ i m, G.ms[i]? = some m → BM n T k t w i m ∧ (i = L → BL n L k p m) ∧ (i ≠ L → BF L b m ∧ (y → Syn L k m))
 st : G.st = []
theorem Qh3 {x : ND} {L n i : Nat} {T k t : Int} (hid : x.id = L) (ht : x.g.term = T) (hb : x.g.base ≤ k) (hl : x.g.last = k) (htl : x.g.termAt k = some t) (hc : x.commit = k) (hp : x.peers[i]? = some (k + 1, k)) : x.stamp (x.feedMsg i) = bM L T k t i := by
 have hl2 : x.g.last = x.g.base + x.g.all.length := rfl
 rw [yr (by rw [(Zk hp).2]; omega), (Zk hp).2]
 have e1 : (x.g.all.drop (k + 1 - x.g.base - 1).toNat).take 8 = [] := by rw [List.drop_eq_nil_of_le (by omega)]; rfl
 have e2 : k + 1 - 1 = k := by omega
 have e3 : x.tAt k = t := by unfold ND.tAt; rw [htl]; rfl
 rw [e1, e2, e3, hc]
 unfold ND.stamp bM
 rw [hid, ht]
 try rfl
theorem others_mem {x : ND} {j : Nat} : j ∈ x.others ↔ j < x.n ∧ j ≠ x.id := by unfold ND.others; rw [List.mem_filter]; simp
structure PT (n L : Nat) (T k t : Int) (w : List Bs) (p b : Int) (y : Prop) (q : Nat) (G : GS) : Prop where
 len : G.ms.length = n
 lt : L < n
 ms : ∀ i m, G.ms[i]? = some m → BM n T k t w i m ∧ (i = L → BL n L k (if q ≤ L then p else if p + 1 ≥ 3 then 0 else p + 1) m) ∧ (i ≠ L → BF L (if q ≤ i then b else b + 1) m ∧ (y → Syn L k m))
 st : if q ≤ L ∨ ¬ p + 1 ≥ 3 then G.st = [] else (∀ x ∈ G.st, ∃ i, i < n ∧ i ≠ L ∧ x.2 = bM L T k t i) ∧ (∀ i, i < n → i ≠ L → ∃ x ∈ G.st, x.2 = bM L T k t i) ∧ G.st.length ≤ n
theorem QdM {G : GS} {i : Nat} {m : MS} (hm : G.ms[i]? = some m) : (G.tickS i).ms = G.ms.set i (doneS i m.tickS.1 G.out).1 ∧ (G.tickS i).st = G.st ++ Xk G.last m.tickS.2 := by
 unfold GS.tickS
 rw [hm]
 exact ⟨rfl, rfl⟩
theorem BM.same {n : Nat} {T k t : Int} {w : List Bs} {i : Nat} {m : MS} (c1 : BM n T k t w i m) (pt : Int) (o : List OC) : BM n T k t w i (doneS i { m with x := ND.q { m.x with patience := pt } } o).1 ∧ (doneS i { m with x := ND.q { m.x with patience := pt } } o).1.x = { m.x with patience := pt } := by
 have hq : ND.q { m.x with patience := pt } = { m.x with patience := pt } := qR c1.out
 rw [hq]
 have hA : AP w { m with x := { m.x with patience := pt } } := ⟨c1.A.b, c1.A.c, c1.A.l, c1.A.t⟩
 obtain ⟨d1, d2, d3, d4, d5⟩ := hA.done (i : Int) o
 exact ⟨⟨by rw [d3]; exact c1.id, by rw [d3]; exact c1.n, by rw [d3]; exact c1.out, by rw [d3]; exact c1.term, by rw [d3]; exact c1.base, by rw [d3]; exact c1.last, by rw [d3]; exact c1.tl, by rw [d3]; exact c1.ct, by rw [d2, d3], d1⟩, d3⟩
theorem zB : ∀ {l : List Msg} {k : Int} {m : Msg}, m ∈ l → ∃ x ∈ Xk k l, x.2 = m
 | [], _, _, h => by cases h
 | a :: l, k, m, h => by
  rw [Xk]
  rcases List.mem_cons.1 h with h | h
  ·exact ⟨(k + 1, a), by simp, h.symm⟩
  ·obtain ⟨x, hx, e⟩ := zB (k := k + 1) h
   exact ⟨x, List.mem_cons_of_mem _ hx, e⟩
theorem PT.tick {n L : Nat} {T k t : Int} {w : List Bs} {p b : Int} {y : Prop} {q : Nat} {G : GS} (h : PT n L T k t w p b y q G) (hq : q < n) (hp : 0 ≤ p ∧ p ≤ 2) (hb : 0 ≤ b ∧ b ≤ 8) : PT n L T k t w p b y (q + 1) (G.tickS q) := by
 obtain ⟨m, hm⟩ : ∃ m, G.ms[q]? = some m := ⟨_, List.getElem?_eq_getElem (by rw [h.len]; exact hq)⟩
 obtain ⟨c1, c2, c3⟩ := h.ms q m hm
 obtain ⟨e1, e2⟩ := QdM hm
 have hst := h.st
 by_cases hL : q = L
 ·subst hL
  have c2 := c2 rfl
  rw [if_pos (Nat.le_refl _)] at c2
  rw [if_pos (.inl (Nat.le_refl _))] at hst
  by_cases hbeat : p + 1 ≥ 3
  ·have et : m.x.tickP = ND.feedAll { m.x with patience := 0 } := by
    unfold ND.tickP
    rw [if_pos c2.role, if_pos (by rw [c2.pat]; exact hbeat)]
   have e3 : m.tickS.1 = { m with x := ND.q { m.x with patience := 0 } } := by
    unfold MS.tickS
    rw [et, XW]
    rfl
   have e4 : m.tickS.2 = (m.x.others.map fun i => bM q T k t i) := by
    unfold MS.tickS
    rw [et, yt (x := { m.x with patience := 0 }) c1.out]
    rw [List.map_map]
    apply List.map_congr_left
    intro j hj
    obtain ⟨hj1, hj2⟩ := others_mem.1 (show j ∈ m.x.others from hj)
    rw [c1.n] at hj1
    rw [c1.id] at hj2
    exact Qh3 (x := { m.x with patience := 0 }) (n := n) c1.id c1.term c1.at.1 c1.last c1.tl c2.com (c2.peers j hj1 hj2)
   obtain ⟨b1, b2⟩ := c1.same 0 G.out
   rw [e3] at e1
   rw [hst, e4] at e2
   refine ⟨by rw [e1, List.length_set]; exact h.len, h.lt, ?_, ?_⟩
   ·rw [e1]
    refine Zy h.ms (fun j mj hj hP => ⟨hP.1, fun hjL => absurd hjL hj, fun hjL => ?_⟩) ⟨b1, fun _ => ?_, fun hjL => absurd rfl hjL⟩
    ·have h5 := hP.2.2 hjL
     refine ⟨?_, h5.2⟩
     rcases Nat.lt_or_ge j q with hjq | hjq
     ·rw [if_neg (by omega)]; rw [if_neg (by omega)] at h5; exact h5.1
     ·rw [if_pos (by omega)]; rw [if_pos (by omega)] at h5; exact h5.1
    ·rw [if_neg (by omega), if_pos hbeat]
     exact ⟨by rw [b2]; exact c2.role, by rw [b2]; exact c2.leader, by rw [b2], by rw [b2]; exact c2.com, by rw [b2]; exact c2.l, by rw [b2]; exact c2.peers⟩
   ·rw [if_neg (by omega), e2]
    refine ⟨fun x hx => ?_, fun i hi hiL => ?_, ?_⟩
    ·have := ZR (show x ∈ Xk G.last _ from by simpa using hx)
     obtain ⟨j, hj, e⟩ := List.mem_map.1 this
     obtain ⟨hj1, hj2⟩ := others_mem.1 hj
     exact ⟨j, by rw [← c1.n]; exact hj1, by rw [← c1.id]; exact hj2, e.symm⟩
    ·obtain ⟨x, hx, e⟩ := zB (k := G.last) (List.mem_map.2 ⟨i, others_mem.2 ⟨by rw [c1.n]; exact hi, by rw [c1.id]; exact hiL⟩, rfl⟩ : bM q T k t i ∈ m.x.others.map fun i => bM q T k t i)
     exact ⟨x, by simpa using hx, e⟩
    ·have := qU m.x
     rw [c1.n] at this
     simpa [qA] using this
  ·have et : m.x.tickP = { m.x with patience := m.x.patience + 1 } := by
    unfold ND.tickP
    rw [if_pos c2.role, if_neg (by rw [c2.pat]; exact hbeat)]
   obtain ⟨b1, b2⟩ := c1.same (m.x.patience + 1) G.out
   have e3 : m.tickS = ({ m with x := ND.q { m.x with patience := m.x.patience + 1 } }, []) := by
    unfold MS.tickS
    rw [et]
    exact Prod.ext rfl c1.out
   rw [e3] at e1 e2
   refine ⟨by rw [e1, List.length_set]; exact h.len, h.lt, ?_, ?_⟩
   ·rw [e1]
    refine Zy h.ms (fun j mj hj hP => ⟨hP.1, fun hjL => absurd hjL hj, fun hjL => ?_⟩) ⟨b1, fun _ => ?_, fun hjL => absurd rfl hjL⟩
    ·have h5 := hP.2.2 hjL
     refine ⟨?_, h5.2⟩
     rcases Nat.lt_or_ge j q with hjq | hjq
     ·rw [if_neg (by omega)]; rw [if_neg (by omega)] at h5; exact h5.1
     ·rw [if_pos (by omega)]; rw [if_pos (by omega)] at h5; exact h5.1
    ·rw [if_neg (by omega), if_neg hbeat]
     exact ⟨by rw [b2]; exact c2.role, by rw [b2]; exact c2.leader, by rw [b2]; show m.x.patience + 1 = p + 1; rw [c2.pat], by rw [b2]; exact c2.com, by rw [b2]; exact c2.l, by rw [b2]; exact c2.peers⟩
   ·rw [if_pos (.inr hbeat), e2, hst]; rfl
 ·obtain ⟨c4, c5⟩ := c3 hL
  rw [if_pos (Nat.le_refl _)] at c4
  have hlm := QaO m.x.id m.x.g.term
  have hpt := c4.pat
  have et : m.x.tickP = { m.x with patience := m.x.patience + 1 } := by
   unfold ND.tickP
   rw [if_neg (by rw [c4.role]; decide), if_neg (by omega)]
  obtain ⟨b1, b2⟩ := c1.same (m.x.patience + 1) G.out
  have e3 : m.tickS = ({ m with x := ND.q { m.x with patience := m.x.patience + 1 } }, []) := by
   unfold MS.tickS
   rw [et]
   exact Prod.ext rfl c1.out
  rw [e3] at e1 e2
  have e2 : (G.tickS q).st = G.st := by rw [e2]; simp [Xk]
  refine ⟨by rw [e1, List.length_set]; exact h.len, h.lt, ?_, ?_⟩
  ·rw [e1]
   refine Zy h.ms (fun j mj hj hP => ⟨hP.1, fun hjL => ?_, fun hjL => ?_⟩) ⟨b1, fun e => absurd e hL, fun _ => ⟨?_, fun hy => ?_⟩⟩
   ·have h5 := hP.2.1 hjL
    rcases Nat.lt_or_ge L q with hjq | hjq
    ·rw [if_neg (by omega)]; rw [if_neg (by omega)] at h5; exact h5
    ·rw [if_pos (by omega)]; rw [if_pos (by omega)] at h5; exact h5
   ·have h5 := hP.2.2 hjL
    refine ⟨?_, h5.2⟩
    rcases Nat.lt_or_ge j q with hjq | hjq
    ·rw [if_neg (by omega)]; rw [if_neg (by omega)] at h5; exact h5.1
    ·rw [if_pos (by omega)]; rw [if_pos (by omega)] at h5; exact h5.1
   ·rw [if_neg (by omega)]
    exact ⟨by rw [b2]; exact c4.role, by rw [b2]; show 0 ≤ m.x.patience + 1 ∧ m.x.patience + 1 ≤ b + 1; omega⟩
   ·have := c5 hy
    exact ⟨by rw [b2]; exact this.1, by rw [b2]; exact this.2⟩
  ·rw [e2]
   rcases Nat.lt_or_ge L q with hjq | hjq
   ·by_cases hbeat : p + 1 ≥ 3
    ·rw [if_neg (by omega)] at hst ⊢; exact hst
    ·rw [if_pos (.inr hbeat)] at hst ⊢; exact hst
   ·rw [if_pos (.inl (by omega))] at hst ⊢; exact hst
theorem PS.ticks {n L : Nat} {T k t : Int} {w : List Bs} {p b : Int} {y : Prop} {G : GS} (h : PS n L T k t w p b y G) (hp : 0 ≤ p ∧ p ≤ 2) (hb : 0 ≤ b ∧ b ≤ 8) : ∀ q, q ≤ n → PT n L T k t w p b y q (G.ticksS q)
 | 0, _ => ⟨h.len, h.lt, fun i m hi => ⟨(h.ms i m hi).1, fun e => by rw [if_pos (Nat.zero_le _)]; exact (h.ms i m hi).2.1 e, fun e => by rw [if_pos (Nat.zero_le _)]; exact (h.ms i m hi).2.2 e⟩, by rw [if_pos (.inl (Nat.zero_le _))]; exact h.st⟩
 | q + 1, hq => by
  rw [zG]
  exact (h.ticks hp hb q (by omega)).tick (by omega) hp hb
theorem PS.round {n L : Nat} {T k t : Int} {w : List Bs} {p b : Int} {y : Prop} {G : GS} (h : PS n L T k t w p b y G) (hn : n ≤ 9) (hp : 0 ≤ p ∧ p ≤ 2) (hb : 0 ≤ b ∧ b ≤ 8) : if p + 1 ≥ 3 then PS n L T k t w 0 0 True (G.roundS n) else PS n L T k t w (p + 1) (b + 1) y (G.roundS n) := by
 have h1 := h.ticks hp hb n (Nat.le_refl n)
 have hLn := h.lt
 have hst := h1.st
 by_cases hbeat : p + 1 ≥ 3
 ·rw [if_pos hbeat]
  rw [if_neg (by omega)] at hst
  have h2 : Beat n L T k t w 0 (b + 1) (G.ticksS n) := by
   refine ⟨h1.len, hLn, fun i m hi => ?_, fun x hx => ?_⟩
   ·obtain ⟨c1, c2, c3⟩ := h1.ms i m hi
    have hin : i < n := by have := (List.getElem?_eq_some_iff.1 hi).1; rw [h1.len] at this; exact this
    refine ⟨c1, fun e => ?_, fun e => ⟨?_, .inr (hst.2.1 i hin e)⟩⟩
    ·have := c2 e
     rw [if_neg (by omega), if_pos hbeat] at this
     exact this
    ·have := (c3 e).1
     rw [if_neg (by omega)] at this
     exact this
   ·obtain ⟨i, a1, a2, a3⟩ := hst.1 x hx
    exact ⟨i, a1, a2, .inl a3⟩
  have hmu : muW w2 (G.ticksS n).st ≤ 200 := by
   have : ∀ l : List XD, muW w2 l ≤ 2 * l.length := fun l => by
    induction l with
    | nil => exact Nat.le_refl _
    | cons x l ih =>
     have h5 : w2 x.2 ≤ 2 := by unfold w2; split <;> omega
     unfold muW at ih ⊢
     simp only [List.map_cons, List.sum_cons, List.length_cons]
     omega
   have := this (G.ticksS n).st
   have := hst.2.2
   omega
  obtain ⟨h3, h4⟩ := QeL (Inv := Beat n L T k t w 0 (b + 1)) Qg7 (fun G x l hG hs => hG.del (by omega) hs) h2 hmu
  refine ⟨h3.len, hLn, fun i m hi => ?_, h4⟩
  obtain ⟨c1, c2, c3⟩ := h3.ms i m hi
  refine ⟨c1, c2, fun e => ?_⟩
  rcases (c3 e).2 with h5 | ⟨x, hx, _⟩
  ·exact ⟨⟨(c3 e).1.role, by rw [h5.2]; exact ⟨Int.le_refl _, Int.le_refl _⟩⟩, fun _ => h5.1⟩
  ·have h4' : (G.roundS n).st = [] := h4
   rw [show ((G.ticksS n).delsS 200).st = (G.roundS n).st from rfl, h4'] at hx; cases hx
 ·rw [if_neg hbeat]
  rw [if_pos (.inr hbeat)] at hst
  have e : G.roundS n = G.ticksS n := by
   show (G.ticksS n).delsS 200 = _
   have : ∀ j, (G.ticksS n).delsS j = G.ticksS n := fun j => by
    induction j with
    | zero => rfl
    | succ j ih =>
     show ((G.ticksS n).delsS j).del1S = _
     rw [ih]
     unfold GS.del1S
     rw [hst, if_neg (by simp)]
   exact this 200
  rw [e]
  refine ⟨h1.len, hLn, fun i m hi => ?_, hst⟩
  obtain ⟨c1, c2, c3⟩ := h1.ms i m hi
  have hin : i < n := by have := (List.getElem?_eq_some_iff.1 hi).1; rw [h1.len] at this; exact this
  refine ⟨c1, fun e => ?_, fun e => ?_⟩
  ·have := c2 e
   rw [if_neg (by omega), if_neg hbeat] at this
   exact this
  ·have := c3 e
   rw [if_neg (by omega)] at this
   exact this
theorem Qdu (w : List Bs) (T : Int) (c : Bs) : w ++ YO [(T, c)] = ZB w c := by
 unfold YO ZB
 by_cases h : c = [] <;> simp [h]
theorem QeN {x : ND} (h : x.mid > x.commit → x.tAt x.mid = x.g.term) : ∃ cm, x.count = { x with commit := cm } ∧ x.commit ≤ cm ∧ (cm = x.commit ∨ cm = x.mid) ∧ x.mid ≤ cm := by
 by_cases h1 : x.mid > x.commit
 ·exact ⟨x.mid, by unfold ND.count; rw [if_pos ⟨h1, h h1⟩], by omega, .inr rfl, Int.le_refl _⟩
 ·exact ⟨x.commit, by unfold ND.count; rw [if_neg (by omega)], Int.le_refl _, .inl rfl, by omega⟩
theorem BM.grow {n : Nat} {T k t : Int} {w : List Bs} {i : Nat} {m : MS} (h : BM n T k t w i m) (c : Bs) {y : ND} (hy : y = { m.x with g := m.x.g.play (.add k [(T, c)]), role := y.role, leader := y.leader, patience := y.patience, commit := y.commit, peers := y.peers, votes := y.votes }) (hc : m.x.commit ≤ y.commit ∧ y.commit ≤ k + 1) (o : List OC) :
  BM n T (k + 1) T (ZB w c) i (doneS i { m with x := y } o).1 ∧ (doneS i { m with x := y } o).1.x = y := by
 have hl := h.last
 have hb := h.base
 have hA := h.A
 obtain ⟨a1, a2, a3⟩ := h.at
 obtain ⟨e1, e2⟩ := QeY (g := m.x.g) (T, c) hb
 rw [hl] at e1 e2
 have hyg : y.g = m.x.g.play (.add k [(T, c)]) := by rw [hy]
 have hyb : y.g.base = m.x.g.base := by rw [hyg]; rfl
 have hyl : y.g.last = k + 1 := by rw [hyg]; exact e2
 have hya : y.g.all = m.x.g.all ++ [(T, c)] := by rw [hyg]; exact e1
 have hll : m.x.g.last = m.x.g.base + m.x.g.all.length := rfl
 have hc0 : QbH y.g = ZB w c := by
  unfold QbH
  rw [hya, hyb, Qbg, ← List.append_assoc]
  have : y.g.state = m.x.g.state := by rw [hyg]; rfl
  rw [this]
  have h2 := h.ct
  unfold QbH at h2
  rw [h2, Qdu]
 have hA2 : AP (ZB w c) { m with x := y } := by
  refine ⟨by show y.g.base ≤ m.ap; rw [hyb]; exact hA.b, by show m.ap ≤ y.commit; have := hA.c; omega, by show y.commit ≤ y.g.last; rw [hyl]; exact hc.2, ?_⟩
  show m.l ++ YO (y.g.all.drop (m.ap - y.g.base).toNat) = _
  rw [hyb, hya, List.drop_append_of_le_length (by have := hA.b; have := hA.c; omega), Qbg, ← List.append_assoc, hA.t, Qdu]
 obtain ⟨d1, d2, d3, d4, d5⟩ := hA2.done (i : Int) o
 refine ⟨⟨by rw [d3]; show y.id = i; rw [hy]; exact h.id, by rw [d3]; show y.n = n; rw [hy]; exact h.n, by rw [d3]; show y.out = []; rw [hy]; exact h.out, by rw [d3]; show y.g.term = T; rw [hyg]; exact h.term, by rw [d3]; show 0 ≤ y.g.base; rw [hyb]; exact hb, by rw [d3]; exact hyl, ?_, by rw [d3]; exact hc0, by rw [d2, d3], d1⟩, d3⟩
 rw [d3]
 show y.g.termAt (k + 1) = some T
 unfold LG.termAt
 rw [if_neg (by rw [hyb]; omega), yU (by rw [hyb, hyl]; omega), hya, hyb, List.getElem?_append_right (by omega), show (k + 1 - m.x.g.base - 1).toNat - m.x.g.all.length = 0 by omega]
 rfl
theorem BM.keep {n : Nat} {T k t : Int} {w : List Bs} {i : Nat} {m : MS} (h : BM n T k t w i m) {y : ND} (hy : y = { m.x with role := y.role, leader := y.leader, patience := y.patience, commit := y.commit, peers := y.peers, votes := y.votes }) (hc : m.x.commit ≤ y.commit ∧ y.commit ≤ k) (o : List OC) :
  BM n T k t w i (doneS i { m with x := y } o).1 ∧ (doneS i { m with x := y } o).1.x = y := by
 have hl := h.last
 have hA := h.A
 have hyg : y.g = m.x.g := by rw [hy]
 have hA2 : AP w { m with x := y } := ⟨by show y.g.base ≤ m.ap; rw [hyg]; exact hA.b, by show m.ap ≤ y.commit; have := hA.c; omega, by show y.commit ≤ y.g.last; rw [hyg, hl]; exact hc.2, by show m.l ++ YO (y.g.all.drop (m.ap - y.g.base).toNat) = _; rw [hyg]; exact hA.t⟩
 obtain ⟨d1, d2, d3, d4, d5⟩ := hA2.done (i : Int) o
 exact ⟨⟨by rw [d3]; show y.id = i; rw [hy]; exact h.id, by rw [d3]; show y.n = n; rw [hy]; exact h.n, by rw [d3]; show y.out = []; rw [hy]; exact h.out, by rw [d3]; show y.g.term = T; rw [hyg]; exact h.term, by rw [d3]; show 0 ≤ y.g.base; rw [hyg]; exact h.base, by rw [d3]; show y.g.last = k; rw [hyg]; exact hl, by rw [d3]; show y.g.termAt k = some t; rw [hyg]; exact h.tl, by rw [d3]; show QbH y.g = w; rw [hyg]; exact h.ct, by rw [d2, d3], d1⟩, d3⟩
def fM (L : Nat) (T k t : Int) (c : Bs) (cm : Int) (i : Nat) : Msg := { Msg.zero with kind := 2, frm := L, to := i, term := T, index := k, logTerm := t, es := [(T, c)], commit := cm }
def isF (L : Nat) (T k t : Int) (c : Bs) (i : Nat) (m : Msg) : Prop := ∃ cm, (k ≤ cm ∧ cm ≤ k + 1) ∧ m = fM L T k t c cm i
structure CL (n L : Nat) (p : Int) (m : MS) : Prop where
 role : m.x.role = 2
 leader : m.x.leader = L
 pat : m.x.patience = p
 mid : m.x.mid ≤ m.x.commit
 l : m.x.peers.length = n
structure CQ (n L : Nat) (T k t : Int) (w : List Bs) (c : Bs) (p b : Int) (q : Nat) (G : GS) : Prop where
 len : G.ms.length = n
 lt : L < n
 ms : ∀ i m, G.ms[i]? = some m → (i = L → BM n T (k + 1) T (ZB w c) i m ∧ CL n L (if q ≤ L then p else if p + 1 ≥ 3 then 0 else p + 1) m ∧ k ≤ m.x.commit ∧ (m.x.g.base ≤ k ∧ m.x.tAt k = t ∧ m.x.g.at (k + 1) = some (T, c)) ∧ ∀ j, j < n → j ≠ L → m.x.peers[j]? = some (k + 1, k)) ∧ (i ≠ L → BM n T k t w i m ∧ BF L (if q ≤ i then b else b + 1) m)
 st : (∀ x ∈ G.st, ∃ i, i < n ∧ i ≠ L ∧ isF L T k t c i x.2) ∧ (∀ i, i < n → i ≠ L → ∃ x ∈ G.st, isF L T k t c i x.2) ∧ G.st.length ≤ (if q ≤ L then n else 2 * n)
theorem QeE {x : ND} {L n i : Nat} {T k t : Int} {c : Bs} (hid : x.id = L) (ht : x.g.term = T) (hb : x.g.base ≤ k) (hl : x.g.last = k + 1) (hta : x.tAt k = t) (hat : x.g.at (k + 1) = some (T, c)) (hc : k ≤ x.commit ∧ x.commit ≤ k + 1) (hp : x.peers[i]? = some (k + 1, k)) : isF L T k t c i (x.stamp (x.feedMsg i)) := by
 have hl2 : x.g.last = x.g.base + x.g.all.length := rfl
 rw [yr (by rw [(Zk hp).2]; omega), (Zk hp).2]
 have e1 : (x.g.all.drop (k + 1 - x.g.base - 1).toNat).take 8 = [(T, c)] := by
  rw [yU (by omega)] at hat
  obtain ⟨h1, h2⟩ := List.getElem?_eq_some_iff.1 hat
  rw [List.drop_eq_getElem_cons h1, h2, List.drop_eq_nil_of_le (by omega)]
  rfl
 have e2 : k + 1 - 1 = k := by omega
 rw [e1, e2, hta]
 refine ⟨x.commit, hc, ?_⟩
 unfold ND.stamp fM
 rw [hid, ht]
 try rfl
theorem CQ.tick {n L : Nat} {T k t : Int} {w : List Bs} {c : Bs} {p b : Int} {q : Nat} {G : GS} (h : CQ n L T k t w c p b q G) (hq : q < n) (hp : 0 ≤ p ∧ p ≤ 2) (hb : 0 ≤ b ∧ b ≤ 8) : CQ n L T k t w c p b (q + 1) (G.tickS q) := by
 obtain ⟨m, hm⟩ : ∃ m, G.ms[q]? = some m := ⟨_, List.getElem?_eq_getElem (by rw [h.len]; exact hq)⟩
 obtain ⟨c2, c3⟩ := h.ms q m hm
 obtain ⟨e1, e2⟩ := QdM hm
 obtain ⟨s1, s2, s3⟩ := h.st
 have hoth : ∀ j mj, j ≠ q → ((j = L → BM n T (k + 1) T (ZB w c) j mj ∧ CL n L (if q ≤ L then p else if p + 1 ≥ 3 then 0 else p + 1) mj ∧ k ≤ mj.x.commit ∧ (mj.x.g.base ≤ k ∧ mj.x.tAt k = t ∧ mj.x.g.at (k + 1) = some (T, c)) ∧ ∀ j, j < n → j ≠ L → mj.x.peers[j]? = some (k + 1, k)) ∧ (j ≠ L → BM n T k t w j mj ∧ BF L (if q ≤ j then b else b + 1) mj)) →
   ((j = L → BM n T (k + 1) T (ZB w c) j mj ∧ CL n L (if q + 1 ≤ L then p else if p + 1 ≥ 3 then 0 else p + 1) mj ∧ k ≤ mj.x.commit ∧ (mj.x.g.base ≤ k ∧ mj.x.tAt k = t ∧ mj.x.g.at (k + 1) = some (T, c)) ∧ ∀ j, j < n → j ≠ L → mj.x.peers[j]? = some (k + 1, k)) ∧ (j ≠ L → BM n T k t w j mj ∧ BF L (if q + 1 ≤ j then b else b + 1) mj)) := fun j mj hj hP => by
  refine ⟨fun e => ?_, fun e => ?_⟩
  ·have h5 := hP.1 e
   rcases Nat.lt_or_ge L q with hjq | hjq
   ·rw [if_neg (by omega)]; rw [if_neg (by omega)] at h5; exact h5
   ·rw [if_pos (by omega)]; rw [if_pos (by omega)] at h5; exact h5
  ·have h5 := hP.2 e
   rcases Nat.lt_or_ge j q with hjq | hjq
   ·rw [if_neg (by omega)]; rw [if_neg (by omega)] at h5; exact h5
   ·rw [if_pos (by omega)]; rw [if_pos (by omega)] at h5; exact h5
 by_cases hL : q = L
 ·subst hL
  obtain ⟨b1, b2, b3, b4, b5⟩ := c2 rfl
  rw [if_pos (Nat.le_refl _)] at b2
  rw [if_pos (Nat.le_refl _)] at s3
  obtain ⟨y, l, hy, hl, hx, hpt⟩ : ∃ y l, m.x.tickP = ND.sends y l ∧ (l.map y.stamp = [] ∨ l.map y.stamp = m.x.others.map fun i => y.stamp (y.feedMsg i)) ∧ y = { m.x with patience := y.patience } ∧ y.patience = if p + 1 ≥ 3 then 0 else p + 1 := by
   unfold ND.tickP
   rw [if_pos b2.role, b2.pat]
   by_cases hbeat : p + 1 ≥ 3
   ·rw [if_pos hbeat, if_pos hbeat, XW]
    exact ⟨_, _, rfl, .inr (by rw [List.map_map]; rfl), rfl, rfl⟩
   ·rw [if_neg hbeat, if_neg hbeat]
    exact ⟨{ m.x with patience := p + 1 }, [], by unfold ND.sends; simp, .inl rfl, rfl, rfl⟩
  have hyo : y.out = [] := by rw [hx]; exact b1.out
  have e3 : m.tickS.1 = { m with x := y } := by
   unfold MS.tickS
   rw [hy]
   show MS.mk (ND.q _) _ _ _ = _
   have : ND.q (y.sends l) = y := qR hyo
   rw [this]
  have e4 : m.tickS.2 = l.map y.stamp := by
   unfold MS.tickS
   rw [hy]
   show y.out ++ _ = _
   rw [hyo]; rfl
  obtain ⟨k1, k2⟩ := b1.keep (y := y) (by rw [hx]) ⟨by rw [hx]; exact Int.le_refl _, by rw [hx]; exact b1.at.2.1⟩ G.out
  rw [e3] at e1
  rw [e4] at e2
  have hfy : ∀ i, i < n → i ≠ q → isF q T k t c i (y.stamp (y.feedMsg i)) := fun i hi hiq => QeE (n := n) (by rw [hx]; exact b1.id) (by rw [hx]; exact b1.term) (by rw [hx]; exact b4.1) (by rw [hx]; exact b1.last) (by rw [hx]; exact b4.2.1) (by rw [hx]; exact b4.2.2) (by rw [hx]; exact ⟨b3, b1.at.2.1⟩) (by rw [hx]; exact b5 i hi hiq)
  refine ⟨by rw [e1, List.length_set]; exact h.len, h.lt, ?_, ?_, ?_, ?_⟩
  ·rw [e1]
   refine Zy h.ms (fun j mj hj hP => hoth j mj hj hP) ⟨fun _ => ⟨k1, ?_, by rw [k2, hx]; exact b3, by rw [k2, hx]; exact b4, by rw [k2, hx]; exact b5⟩, fun hjL => absurd rfl hjL⟩
   rw [if_neg (by omega)]
   exact ⟨by rw [k2, hx]; exact b2.role, by rw [k2, hx]; exact b2.leader, by rw [k2]; exact hpt, by rw [k2, hx]; exact b2.mid, by rw [k2, hx]; exact b2.l⟩
  ·intro x hx2
   rw [e2] at hx2
   rcases List.mem_append.1 hx2 with hx2 | hx2
   ·exact s1 x hx2
   ·have h6 := ZR hx2
    rcases hl with hl | hl
    ·rw [hl] at h6; cases h6
    ·rw [hl] at h6
     obtain ⟨j, hj, e⟩ := List.mem_map.1 h6
     obtain ⟨hj1, hj2⟩ := others_mem.1 hj
     rw [b1.n] at hj1
     rw [b1.id] at hj2
     rw [← e]
     exact ⟨j, hj1, hj2, hfy j hj1 hj2⟩
  ·intro i hi hiL
   obtain ⟨x, hx2, hxF⟩ := s2 i hi hiL
   exact ⟨x, by rw [e2]; exact List.mem_append_left _ hx2, hxF⟩
  ·rw [e2, if_neg (by omega), List.length_append, qA]
   have : (l.map y.stamp).length ≤ n := by
    rcases hl with hl | hl
    ·rw [hl]; exact Nat.zero_le _
    ·rw [hl, List.length_map]
     have := qU m.x
     rw [b1.n] at this
     exact this
   omega
 ·obtain ⟨c4, c5⟩ := c3 hL
  rw [if_pos (Nat.le_refl _)] at c5
  have hlm := QaO m.x.id m.x.g.term
  have hpt := c5.pat
  have et : m.x.tickP = { m.x with patience := m.x.patience + 1 } := by
   unfold ND.tickP
   rw [if_neg (by rw [c5.role]; decide), if_neg (by omega)]
  obtain ⟨b1, b2⟩ := c4.same (m.x.patience + 1) G.out
  have e3 : m.tickS = ({ m with x := ND.q { m.x with patience := m.x.patience + 1 } }, []) := by
   unfold MS.tickS
   rw [et]
   exact Prod.ext rfl c4.out
  rw [e3] at e1 e2
  have e2 : (G.tickS q).st = G.st := by rw [e2]; simp [Xk]
  refine ⟨by rw [e1, List.length_set]; exact h.len, h.lt, ?_, by rw [e2]; exact s1, by rw [e2]; exact s2, ?_⟩
  ·rw [e1]
   refine Zy h.ms (fun j mj hj hP => hoth j mj hj hP) ⟨fun e => absurd e hL, fun _ => ⟨b1, ?_⟩⟩
   rw [if_neg (by omega)]
   exact ⟨by rw [b2]; exact c5.role, by rw [b2]; show 0 ≤ m.x.patience + 1 ∧ m.x.patience + 1 ≤ b + 1; omega⟩
  ·rw [e2]
   split
   ·rw [if_pos (by omega)] at s3; exact s3
   ·split at s3
    ·omega
    ·exact s3
theorem CQ.ticks {n L : Nat} {T k t : Int} {w : List Bs} {c : Bs} {p b : Int} {G : GS} (h : CQ n L T k t w c p b 0 G) (hp : 0 ≤ p ∧ p ≤ 2) (hb : 0 ≤ b ∧ b ≤ 8) : ∀ q, q ≤ n → CQ n L T k t w c p b q (G.ticksS q)
 | 0, _ => h
 | q + 1, hq => by
  rw [zG]
  exact (h.ticks hp hb q (by omega)).tick (by omega) hp hb
theorem Qea {x : ND} {L n i : Nat} {T k t : Int} {c : Bs} {cm : Int} (hid : x.id = i) (hn : x.n = n) (hL : L < n ∧ L ≠ i) (ht : x.g.term = T) (hr : x.role = 0) (hb : x.g.base ≤ k) (htl : x.g.termAt k = some t) :
  x.receiveP (fM L T k t c cm i) = match ND.fits x.g [(T, c)] (k + 1) with
   | none => ND.answer { x with role := 0, leader := L, patience := 0, commit := max x.commit (min cm (k + 1)) } (fM L T k t c cm i) true (k + 1)
   | some (j, l) => if j ≤ x.commit then { x with role := 0, leader := L, patience := 0 } else ND.answer { x with role := 0, leader := L, patience := 0, g := x.g.play (.add (j - 1) l), commit := max x.commit (min cm (k + 1)) } (fM L T k t c cm i) true (k + 1) := by
 unfold ND.receiveP
 rw [if_neg (by rw [hid, hn]; show ¬ (¬ (i : Int) = i ∨ (L : Int) = i ∨ (L : Int) < 0 ∨ (L : Int) ≥ n); omega), if_neg (by show ¬ T > x.g.term; omega)]
 unfold ND.kindP
 rw [if_neg (by show ¬ (2 : Int) = 0; decide), if_neg (by show ¬ (2 : Int) = 1; decide), if_pos (.inl (show (fM L T k t c cm i).kind = 2 from rfl))]
 unfold ND.fedP
 rw [if_neg (by show ¬ T < x.g.term; omega), if_neg (by omega), if_pos (show (fM L T k t c cm i).kind = 2 from rfl)]
 unfold ND.addP
 rw [if_neg (by show ¬ (k < x.g.base ∧ _); omega), if_neg (by show ¬ (_ ∧ ¬ x.g.termAt k = some t); rw [htl]; simp)]
 have hcut : (x.follows (fM L T k t c cm i)).cutM (fM L T k t c cm i) = (k, [(T, c)]) := by
  unfold ND.cutM
  rw [if_neg (by show ¬ k < x.g.base; omega)]
  rfl
 rw [hcut]
 unfold ND.restP
 rfl
def w4 (m : Msg) : Nat := if m.kind = 3 then 1 else 2
structure CB (n L : Nat) (T k t : Int) (w : List Bs) (c : Bs) (p b : Int) (G : GS) : Prop where
 len : G.ms.length = n
 lt : L < n
 ms : ∀ i m, G.ms[i]? = some m → (i = L → BM n T (k + 1) T (ZB w c) i m ∧ CL n L p m ∧ ∀ j, j < n → j ≠ L → m.x.peers[j]? = some (k + 1, k) ∨ m.x.peers[j]? = some (k + 2, k + 1)) ∧
  (i ≠ L → BF L b m ∧ (BM n T k t w i m ∧ (∃ x ∈ G.st, isF L T k t c i x.2) ∨ BM n T (k + 1) T (ZB w c) i m ∧ m.x.g.termAt k = some t ∧ m.x.g.base ≤ k ∧ ((∃ mL, G.ms[L]? = some mL ∧ mL.x.peers[i]? = some (k + 2, k + 1)) ∨ (∃ x ∈ G.st, x.2 = aM L T (k + 1) i ∨ isF L T k t c i x.2))))
 st : ∀ x ∈ G.st, ∃ i, i < n ∧ i ≠ L ∧ (isF L T k t c i x.2 ∨ x.2 = aM L T (k + 1) i)
theorem Qb3 {L : Nat} {T k t : Int} {c : Bs} {i : Nat} {m : Msg} (h : isF L T k t c i m) : m.to = i ∧ m.kind = 2 := by
 obtain ⟨cm, _, rfl⟩ := h
 exact ⟨rfl, rfl⟩
theorem CB.del {n L : Nat} {T k t : Int} {w : List Bs} {c : Bs} {p b : Int} {G : GS} {x : XD} {l : List XD} (h : CB n L T k t w c p b G) (hb : 0 ≤ b) (hs : G.st = x :: l) : CB n L T k t w c p b (G.delS 0) ∧ muW w2 (G.delS 0).st < muW w2 G.st := by
 obtain ⟨i, hi, hiL, hx⟩ := h.st x (by rw [hs]; simp)
 have hLn := h.lt
 have hst : ∀ y ∈ l, y ∈ G.st := fun y hy => by rw [hs]; exact List.mem_cons_of_mem _ hy
 obtain ⟨mL, hmL⟩ : ∃ m, G.ms[L]? = some m := ⟨_, List.getElem?_eq_getElem (by rw [h.len]; exact hLn)⟩
 rcases hx with hx | hx
 ·obtain ⟨m, hm⟩ : ∃ m, G.ms[i]? = some m := ⟨_, List.getElem?_eq_getElem (by rw [h.len]; exact hi)⟩
  obtain ⟨hxto, hxk⟩ := Qb3 hx
  obtain ⟨cm, hcm, hxe⟩ := hx
  obtain ⟨_, c3⟩ := h.ms i m hm
  obtain ⟨c4, c5⟩ := c3 hiL
  obtain ⟨e1, e2⟩ := QaW hs hxto hm
  -- whatever it had, it has the entry behind it
  have hgot : ∃ m1, (G.delS 0).ms = G.ms.set i m1 ∧ (G.delS 0).st = l ++ Xk G.last [aM L T (k + 1) i] ∧ BM n T (k + 1) T (ZB w c) i m1 ∧ m1.x.g.termAt k = some t ∧ m1.x.g.base ≤ k ∧ BF L b m1 := by
   rcases c5 with ⟨c6, _⟩ | ⟨c6, c7, c8, _⟩
   ·obtain ⟨a1, a2, a3⟩ := c6.at
    have hl := c6.last
    have hfit : ND.fits m.x.g [(T, c)] (k + 1) = some (k + 1, [(T, c)]) := yj (by rw [Qau (by omega)]; simp)
    have hr := Qea (x := m.x) (c := c) (cm := cm) c6.id c6.n ⟨hLn, fun e => hiL e.symm⟩ c6.term c4.role a1 c6.tl
    rw [hfit] at hr
    dsimp only at hr
    rw [if_neg (by omega), show k + 1 - 1 = k by omega] at hr
    have er : m.recvS x.2 = ({ m with x := { m.x with role := 0, leader := L, patience := 0, g := m.x.g.play (.add k [(T, c)]), commit := max m.x.commit (min cm (k + 1)) } }, [aM L T (k + 1) i]) := by
     unfold MS.recvS
     rw [hxe, hr]
     unfold ND.answer ND.send ND.q
     dsimp only
     rw [c6.out]
     refine Prod.ext ?_ ?_
     ·show MS.mk _ _ _ _ = MS.mk _ _ _ _
      congr 1
      try (show ND.mk _ _ _ _ _ _ _ _ _ _ _ = ND.mk _ _ _ _ _ _ _ _ _ _ _; rw [c6.out])
     ·show [_] = [_]
      unfold aM fM
      dsimp only
      rw [c6.id, show (m.x.g.play (.add k [(T, c)])).term = T from c6.term]
      try rfl
    rw [er] at e1 e2
    obtain ⟨g1, g2⟩ := c6.grow c (y := { m.x with role := 0, leader := L, patience := 0, g := m.x.g.play (.add k [(T, c)]), commit := max m.x.commit (min cm (k + 1)) }) rfl ⟨by dsimp only; omega, by dsimp only; omega⟩ G.out
    refine ⟨_, e1, e2, g1, ?_, by rw [g2]; exact a1, ⟨by rw [g2], by rw [g2]; exact ⟨Int.le_refl _, hb⟩⟩⟩
    rw [g2]
    show (m.x.g.play (.add k [(T, c)])).termAt k = some t
    have htl := c6.tl
    unfold LG.termAt at htl ⊢
    rw [show (m.x.g.play (.add k [(T, c)])).base = m.x.g.base from rfl, show (m.x.g.play (.add k [(T, c)])).baseT = m.x.g.baseT from rfl, QaI (by omega) (by omega)]
    exact htl
   ·have hl := c6.last
    obtain ⟨a1, a2, a3⟩ := c6.at
    have htl := c6.tl
    have hfit : ND.fits m.x.g [(T, c)] (k + 1) = none := by
     rw [yi]
     ·rfl
     ·unfold LG.termAt at htl
      rw [if_neg (by omega)] at htl
      exact htl
    have hr := Qea (x := m.x) (c := c) (cm := cm) c6.id c6.n ⟨hLn, fun e => hiL e.symm⟩ c6.term c4.role c8 c7
    rw [hfit] at hr
    dsimp only at hr
    have er : m.recvS x.2 = ({ m with x := { m.x with role := 0, leader := L, patience := 0, commit := max m.x.commit (min cm (k + 1)) } }, [aM L T (k + 1) i]) := by
     unfold MS.recvS
     rw [hxe, hr]
     unfold ND.answer ND.send ND.q
     dsimp only
     rw [c6.out]
     refine Prod.ext ?_ ?_
     ·show MS.mk _ _ _ _ = MS.mk _ _ _ _
      congr 1
      try (show ND.mk _ _ _ _ _ _ _ _ _ _ _ = ND.mk _ _ _ _ _ _ _ _ _ _ _; rw [c6.out])
     ·show [_] = [_]
      unfold aM fM
      dsimp only
      rw [c6.id, c6.term]
      try rfl
    rw [er] at e1 e2
    obtain ⟨g1, g2⟩ := c6.keep (y := { m.x with role := 0, leader := L, patience := 0, commit := max m.x.commit (min cm (k + 1)) }) rfl ⟨by dsimp only; omega, by dsimp only; omega⟩ G.out
    exact ⟨_, e1, e2, g1, by rw [g2]; exact c7, by rw [g2]; exact c8, ⟨by rw [g2], by rw [g2]; exact ⟨Int.le_refl _, hb⟩⟩⟩
  obtain ⟨m1, f1, f2, f3, f4, f5, f6⟩ := hgot
  have hmL2 : (G.delS 0).ms[L]? = some mL := by rw [f1, List.getElem?_set_ne hiL]; exact hmL
  constructor
  ·refine ⟨by rw [f1, List.length_set]; exact h.len, hLn, ?_, ?_⟩
   ·have hset := Zy (i := i) (m' := m1) (Q := fun j mj => (j = L → BM n T (k + 1) T (ZB w c) j mj ∧ CL n L p mj ∧ ∀ j, j < n → j ≠ L → mj.x.peers[j]? = some (k + 1, k) ∨ mj.x.peers[j]? = some (k + 2, k + 1)) ∧
     (j ≠ L → BF L b mj ∧ (BM n T k t w j mj ∧ (∃ x ∈ (G.delS 0).st, isF L T k t c j x.2) ∨ BM n T (k + 1) T (ZB w c) j mj ∧ mj.x.g.termAt k = some t ∧ mj.x.g.base ≤ k ∧ ((∃ mL, (G.delS 0).ms[L]? = some mL ∧ mL.x.peers[j]? = some (k + 2, k + 1)) ∨ (∃ x ∈ (G.delS 0).st, x.2 = aM L T (k + 1) j ∨ isF L T k t c j x.2))))) h.ms (fun j mj hj hP => ?_) ?_
    ·rw [f1]; rw [f1] at hset; exact hset
    ·refine ⟨hP.1, fun hjL => ⟨(hP.2 hjL).1, ?_⟩⟩
     have htok : ∀ y ∈ G.st, (y.2 = aM L T (k + 1) j ∨ isF L T k t c j y.2) → y ∈ (G.delS 0).st := fun y hy hz => by
      rw [hs] at hy
      rw [f2]
      rcases List.mem_cons.1 hy with hy | hy
      ·exfalso
       rw [hy, hxe] at hz
       rcases hz with hz | hz
       ·have : (2 : Int) = 3 := congrArg Msg.kind hz
        omega
       ·have h7 : (i : Int) = j := (Qb3 hz).1
        omega
      ·exact List.mem_append_left _ hy
     rcases (hP.2 hjL).2 with ⟨h7, y, hy, hz⟩ | ⟨h7, h8, h9, h10⟩
     ·exact .inl ⟨h7, y, htok y hy (.inr hz), hz⟩
     ·refine .inr ⟨h7, h8, h9, ?_⟩
      rcases h10 with ⟨mL', h11, h12⟩ | ⟨y, hy, hz⟩
      ·exact .inl ⟨mL', by rw [f1, List.getElem?_set_ne hiL]; exact h11, h12⟩
      ·exact .inr ⟨y, htok y hy hz, hz⟩
    ·refine ⟨fun e => absurd e hiL, fun _ => ⟨f6, .inr ⟨f3, f4, f5, .inr ?_⟩⟩⟩
     obtain ⟨y, hy, e⟩ := zB (k := G.last) (show aM L T (k + 1) i ∈ [aM L T (k + 1) i] by simp)
     exact ⟨y, by rw [f2]; exact List.mem_append_right _ hy, .inl e⟩
   ·intro y hy
    rw [f2] at hy
    rcases List.mem_append.1 hy with hy | hy
    ·exact h.st y (hst y hy)
    ·have := ZR hy
     simp at this
     exact ⟨i, hi, hiL, .inr this⟩
  ·rw [f2, hs, QfJ, QfH]
   have h1 : w2 (aM L T (k + 1) i) = 1 := rfl
   have h2 : w2 x.2 = 2 := by unfold w2; rw [if_neg (by omega)]
   unfold muW
   simp only [List.map_cons, List.sum_cons]
   omega
 ·obtain ⟨c2, _⟩ := h.ms L mL hmL
  obtain ⟨b1, b2, b3⟩ := c2 rfl
  obtain ⟨e1, e2⟩ := QaW hs (by rw [hx]; rfl) hmL
  have hl := b1.last
  have hpi := b3 i hi hiL
  have hmt : k ≤ mL.x.mat i ∧ mL.x.mat i ≤ k + 1 := by
   rcases hpi with h7 | h7
   ·rw [(Zk h7).1]; omega
   ·rw [(Zk h7).1]; omega
  obtain ⟨a1, a2, a3⟩ := b1.at
  -- what it does with it
  have hsp : ∀ j, j < n → j ≠ L → (mL.x.setPeer i (k + 2, k + 1)).peers[j]? = if j = i then some (k + 2, k + 1) else mL.x.peers[j]? := fun j hj hjL => by
   unfold ND.setPeer
   by_cases hji : j = i
   ·subst hji
    rw [if_pos rfl]
    exact List.getElem?_set_self (by rw [b2.l]; exact hj)
   ·rw [if_neg hji]
    exact List.getElem?_set_ne (fun e => hji e.symm)
  have hmid2 : (mL.x.setPeer i (k + 2, k + 1)).mid ≤ k + 1 := by
   refine Qek (x := mL.x.setPeer i (k + 2, k + 1)) (by show mL.x.id < mL.x.n; rw [b1.id, b1.n]; exact hLn) (by show mL.x.g.last ≤ k + 1; omega) (fun j hj hjn => ?_)
   have hj : j < n := by rw [← b1.n]; exact hj
   have hjn : j ≠ L := by rw [← b1.id]; exact hjn
   have h8 := hsp j hj hjn
   split at h8
   ·rw [(Zk h8).1]; exact Int.le_refl _
   ·rcases b3 j hj hjn with h7 | h7
    ·rw [h7] at h8; rw [(Zk h8).1]; dsimp only; omega
    ·rw [h7] at h8; rw [(Zk h8).1]; exact Int.le_refl _
  have hmidk : ∀ v, v = (mL.x.setPeer i (k + 2, k + 1)).mid → v > mL.x.commit → mL.x.tAt v = mL.x.g.term := fun v hv hgt => by
   have hck : k ≤ mL.x.commit := by
    have h9 := b2.mid
    have h10 : k ≤ mL.x.mid := by
     have hm := jg (x := mL.x) (by rw [b1.id, b1.n]; exact hLn)
     unfold ND.reach at hm
     rcases List.mem_cons.1 hm with hm | hm
     ·omega
     ·obtain ⟨j, hj, e⟩ := List.mem_map.1 hm
      obtain ⟨hj1, hj2⟩ := others_mem.1 hj
      rw [b1.n] at hj1
      rw [b1.id] at hj2
      rw [← e]
      rcases b3 j hj1 hj2 with h7 | h7
      ·rw [(Zk h7).1]; exact Int.le_refl _
      ·rw [(Zk h7).1]; dsimp only; omega
    omega
   have : v = k + 1 := by omega
   subst this
   unfold ND.tAt
   rw [b1.tl, b1.term]; rfl
  obtain ⟨cm, hcnt, hcm1, hcm2, hcm3⟩ := QeN (x := mL.x.setPeer i (k + 2, k + 1)) (fun hgt => hmidk _ rfl hgt)
  have hr : mL.x.receiveP x.2 = { mL.x.setPeer i (k + 2, k + 1) with commit := cm } := by
   rw [hx]
   unfold ND.receiveP
   rw [if_neg (by rw [b1.id, b1.n]; show ¬ (¬ (L : Int) = L ∨ (i : Int) = L ∨ (i : Int) < 0 ∨ (i : Int) ≥ n); omega), if_neg (by show ¬ T > mL.x.g.term; have := b1.term; omega)]
   unfold ND.kindP
   rw [if_neg (by show ¬ (3 : Int) = 0; decide), if_neg (by show ¬ (3 : Int) = 1; decide), if_neg (by show ¬ ((3 : Int) = 2 ∨ (3 : Int) = 4); decide), if_pos (show (aM L T (k + 1) i).kind = 3 from rfl)]
   unfold ND.heardP XZ
   dsimp only
   rw [if_neg (by show ¬ (¬ mL.x.role = 2 ∨ ¬ T = mL.x.g.term); have := b1.term; have := b2.role; omega), if_neg (by show ¬ true = false; decide)]
   have e5 : (aM L T (k + 1) i).frm.toNat = i := by show (i : Int).toNat = i; simp
   have e6 : max (mL.x.mat i) (min (aM L T (k + 1) i).index mL.x.g.last) = k + 1 := by
    show max (mL.x.mat i) (min (k + 1) mL.x.g.last) = k + 1
    omega
   rw [e5, e6, show k + 1 + 1 = k + 2 by omega, hcnt, if_neg (by show ¬ k + 2 ≤ mL.x.g.last; omega)]
  have hrq : mL.recvS x.2 = ({ mL with x := { mL.x.setPeer i (k + 2, k + 1) with commit := cm } }, []) := by
   unfold MS.recvS
   rw [hr]
   have hq : ND.q { mL.x.setPeer i (k + 2, k + 1) with commit := cm } = { mL.x.setPeer i (k + 2, k + 1) with commit := cm } := qR b1.out
   rw [hq]
   exact Prod.ext rfl b1.out
  rw [hrq] at e1 e2
  have e2 : (G.delS 0).st = l := by rw [e2]; simp [Xk]
  have hcm4 : mL.x.commit ≤ cm ∧ cm ≤ k + 1 := by
   refine ⟨hcm1, ?_⟩
   rcases hcm2 with h7 | h7
   ·rw [h7]; exact a2
   ·omega
  obtain ⟨g1, g2⟩ := b1.keep (y := { mL.x.setPeer i (k + 2, k + 1) with commit := cm }) rfl hcm4 G.out
  have hpe : (doneS L { mL with x := { mL.x.setPeer i (k + 2, k + 1) with commit := cm } } G.out).1.x.peers = (mL.x.setPeer i (k + 2, k + 1)).peers := by rw [g2]
  constructor
  ·refine ⟨by rw [e1, List.length_set]; exact h.len, hLn, ?_, fun y hy => by rw [e2] at hy; exact h.st y (hst y hy)⟩
   have hLs : (G.delS 0).ms[L]? = some (doneS L { mL with x := { mL.x.setPeer i (k + 2, k + 1) with commit := cm } } G.out).1 := by rw [e1]; exact List.getElem?_set_self (by rw [h.len]; exact hLn)
   have hset := Zy (i := L) (m' := (doneS L { mL with x := { mL.x.setPeer i (k + 2, k + 1) with commit := cm } } G.out).1) (Q := fun j mj => (j = L → BM n T (k + 1) T (ZB w c) j mj ∧ CL n L p mj ∧ ∀ j, j < n → j ≠ L → mj.x.peers[j]? = some (k + 1, k) ∨ mj.x.peers[j]? = some (k + 2, k + 1)) ∧
     (j ≠ L → BF L b mj ∧ (BM n T k t w j mj ∧ (∃ x ∈ (G.delS 0).st, isF L T k t c j x.2) ∨ BM n T (k + 1) T (ZB w c) j mj ∧ mj.x.g.termAt k = some t ∧ mj.x.g.base ≤ k ∧ ((∃ mL, (G.delS 0).ms[L]? = some mL ∧ mL.x.peers[j]? = some (k + 2, k + 1)) ∨ (∃ x ∈ (G.delS 0).st, x.2 = aM L T (k + 1) j ∨ isF L T k t c j x.2))))) h.ms (fun j mj hj hP => ?_) ?_
   ·rw [e1]; rw [e1] at hset; exact hset
   ·refine ⟨fun e => absurd e hj, fun hjL => ⟨(hP.2 hjL).1, ?_⟩⟩
    rcases (hP.2 hjL).2 with ⟨h7, y, hy, hz⟩ | ⟨h7, h8, h9, h10⟩
    ·refine .inl ⟨h7, y, ?_, hz⟩
     rw [hs] at hy
     rw [e2]
     rcases List.mem_cons.1 hy with hy | hy
     ·exfalso
      rw [hy, hx] at hz
      have : (3 : Int) = 2 := (Qb3 hz).2
      omega
     ·exact hy
    ·refine .inr ⟨h7, h8, h9, ?_⟩
     rcases h10 with ⟨mL', h11, h12⟩ | ⟨y, hy, hz⟩
     ·rw [hmL] at h11
      have h11 := Option.some.inj h11
      subst h11
      refine .inl ⟨_, hLs, ?_⟩
      rw [hpe]
      have hjn : j < n := by
       have := (List.getElem?_eq_some_iff.1 h12).1
       rw [b2.l] at this; exact this
      rw [hsp j hjn hjL]
      split
      ·rfl
      ·exact h12
     ·rw [hs] at hy
      rcases List.mem_cons.1 hy with hy | hy
      ·rw [hy, hx] at hz
       have hji : j = i := by
        rcases hz with hz | hz
        ·have : (i : Int) = j := congrArg Msg.frm hz
         omega
        ·have : (3 : Int) = 2 := (Qb3 hz).2
         omega
       subst hji
       refine .inl ⟨_, hLs, ?_⟩
       rw [hpe, hsp j hi hjL, if_pos rfl]
      ·exact .inr ⟨y, by rw [e2]; exact hy, hz⟩
   ·refine ⟨fun _ => ⟨g1, ⟨by rw [g2]; exact b2.role, by rw [g2]; exact b2.leader, by rw [g2]; exact b2.pat, by rw [g2]; exact hcm3, by rw [hpe]; unfold ND.setPeer; rw [List.length_set]; exact b2.l⟩, fun j hj hjL => ?_⟩, fun e => absurd rfl e⟩
    rw [hpe, hsp j hj hjL]
    split
    ·exact .inr rfl
    ·exact b3 j hj hjL
  ·rw [e2, hs]
   have h2 : w2 x.2 = 1 := by rw [hx]; rfl
   unfold muW
   simp only [List.map_cons, List.sum_cons]
   omega
end V
end Go.Proofs.YtenfjpigffjgmaaGreat
