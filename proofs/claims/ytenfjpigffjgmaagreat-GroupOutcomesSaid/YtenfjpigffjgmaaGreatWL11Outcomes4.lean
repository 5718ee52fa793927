/- Parts: T11e T11I. -/
import Derived.Test.YtenfjpigffjgmaaGreatWL11Outcomes3
set_option linter.unusedSimpArgs false
set_option linter.unusedVariables false
set_option maxRecDepth 100000
namespace Go.Proofs.YtenfjpigffjgmaaGreat
open Go.RowKit
open Go.Proofs.Tryz
namespace V
set_option maxHeartbeats 4000000
theorem yx (i : Int) (m : MS) (o : List OC) : (Xh i m o).1.x = m.x ∧ (Xh i m o).1.D = m.D := by
 unfold Xh
 split
 ·exact ⟨rfl, rfl⟩
 ·obtain ⟨a, b, _⟩ := QcP i m.rest.todo (m.rest, o)
  obtain ⟨c, d, _⟩ := zh m
  exact ⟨a.trans c, b.trans d⟩
def Qcd (w : GV) (c : MV) (m' : MS) (G' : GS) (R' : Hp) (L' : List Asn) : Prop :=
 ∃ c' vn css vo, c'.m = c.m ∧ NOk R' c'.v m'.x ∧ Els oneE R' G'.st css ∧ L' = XZ c' m' ++ grR { w with vn := vn, css := css, vo := vo } G'
def GrP (w : GV) (G' : GS) (R' : Hp) (L' : List Asn) : Prop := ∃ vn css vo cs, GOk R' ⟨w.g, w.va, w.n, vn, css, vo, cs⟩ G' ∧ L' = grL ⟨w.g, w.va, w.n, vn, css, vo, cs⟩ G'
theorem QjZ {cs : List MV} {i : Nat} {c c' : MV} (hc : cs[i]? = some c) (h : c'.m = c.m) : ZM (cs.set i c') = ZM cs := by
 have hi := (List.getElem?_eq_some_iff.1 hc).1
 unfold ZM
 apply List.ext_getElem?
 intro j
 rw [List.getElem?_map, List.getElem?_map, List.getElem?_set]
 by_cases hj : i = j
 ·subst hj; rw [if_pos rfl, if_pos hi, hc]; simp [h]
 ·rw [if_neg hj]
theorem zo {P : Program} {f : FuncId} {args : List Value} {R : Hp} {w : GV} {G G' : GS} {i : Nat} {c : MV} {m m' : MS} {Pr : Value → Prop} (hok : GOk R w G) (hc : w.cs[i]? = some c) (hm : G.ms[i]? = some m) (hms : G'.ms = G.ms.set i m')
  (h : Tri P f args R (XZ c m ++ grR w G) (fun r R' L' => Pr r ∧ Qcd w c m' G' R' L')) : Tri P f args R (grL w G) (fun r R' L' => Pr r ∧ GrP w G' R' L') := by
 have h2 := Tri.big (post := fun r R' As' L1 => Pr r ∧ ∃ c' vn css vo, c'.m = c.m ∧ NOk R' c'.v m'.x ∧ Els oneE R' G'.st css ∧ As' = XZ c' m' ∧ L1 = grR { w with vn := vn, css := css, vo := vo } G') (yu hc hm)
  (Tri.mono h (fun r R' L' _ h => by
   obtain ⟨h0, c', vn, css, vo, h1, h2, h3, h4⟩ := h
   exact ⟨_, _, ⟨h0, c', vn, css, vo, h1, h2, h3, rfl, rfl⟩, h4⟩) (fun _ _ _ _ h => h))
 refine Tri.mono h2 (fun r R' L' hR h => ?_) (fun _ _ _ _ h => h)
 obtain ⟨As', L1, ⟨h0, c', vn, css, vo, hcm, h1, h2, rfl, rfl⟩, rfl⟩ := h
 have hi := (List.getElem?_eq_some_iff.1 hc).1
 refine ⟨h0, vn, css, vo, w.cs.set i c', ⟨?_, ?_, h2⟩, ?_⟩
 ·rw [hms]; simp [hok.len]
 ·intro j c1 m1 hc1 hm1
  rw [hms] at hm1
  dsimp only at hc1
  rw [List.getElem?_set] at hc1 hm1
  by_cases hj : i = j
  ·subst hj
   rw [if_pos rfl, if_pos hi] at hc1
   rw [if_pos rfl, if_pos (by rw [← hok.len]; exact hi)] at hm1
   cases hc1; cases hm1
   exact h1
  ·rw [if_neg hj] at hc1 hm1
   exact (hok.nd j c1 m1 hc1 hm1).mono hR
 ·have e1 := QjZ hc hcm
  have e2 : (w.cs.set i c').length = w.cs.length := by simp
  simp only [grL, grR, grS, grB, e1, e2, hms]
  rw [Qkb]
theorem Qb8 {G : GS} {i : Nat} {m : MS} {l : List Msg} (hi : i < G.ms.length) (hw : GW (G.done i m l)) (hap : 0 ≤ m.ap ∧ m.ap ≤ 150000000000000) (hl : 0 ≤ G.last) :
  (∀ x ∈ l, qz x) ∧ G.st.length + l.length ≤ 1000000 ∧ (0 ≤ G.last ∧ G.last + l.length ≤ 1000000) ∧ (¬ m.dn = true → m.x.g.ok ∧ m.x.commit ≤ 150000000000000 ∧ m.rest.l.length ≤ 100000) := by
 have h1 := hw.st
 have h2 := hw.last
 have h3 : (G.st ++ XN G.last l).length ≤ 900000 := h1
 have h4 : 0 ≤ G.last + l.length ∧ G.last + l.length ≤ 900000 := h2
 rw [List.length_append, Qac] at h3
 refine ⟨fun x hx => ?_, by omega, ⟨hl, by omega⟩, fun hd => ?_⟩
 ·have : ∃ k, (k, x) ∈ XN G.last l := by
   clear h1 h2 h3 h4 hw
   generalize G.last = q
   induction l generalizing q with
   | nil => cases hx
   | cons y l ih =>
    rcases List.mem_cons.1 hx with rfl | hx
    ·exact ⟨q + 1, by simp [XN]⟩
    ·obtain ⟨k, hk⟩ := ih hx (q + 1)
     exact ⟨k, by rw [XN]; exact List.mem_cons_of_mem _ hk⟩
  obtain ⟨k, hk⟩ := this
  exact (hw.msg (k, x) (List.mem_append_right _ hk)).2
 ·have hmem : (Xh i m G.out).1 ∈ (G.done i m l).ms := by
   show _ ∈ G.ms.set i _
   exact List.mem_of_getElem? (i := i) (by rw [List.getElem?_set, if_pos rfl, if_pos hi])
  have hmw := hw.ms _ hmem
  obtain ⟨e1, e2⟩ := yx i m G.out
  have hn := hmw.up (by unfold MS.dn; rw [e1, e2]; exact hd)
  rw [e1] at hn
  have hc := hn.commit
  refine ⟨hn.g (by omega), by omega, ?_⟩
  have h5 := hmw.l.1
  unfold Xh at h5
  rw [if_neg hd] at h5
  exact Nat.le_trans (Qjs i m.rest.todo (m.rest, G.out)) (by omega)
theorem GOk.map {R : Hp} {w : GV} {G : GS} (h : GOk R w G) {i : Nat} {c : MV} (hc : w.cs[i]? = some c) : (w.cs[i]?).map MV.m = some c.m := by rw [hc]; rfl
theorem zd {G : GS} {i : Nat} {m : MS} (hm : G.ms[i]? = some m) : G.tick i = G.done i m.tick.1 m.tick.2 := by unfold GS.tick; rw [hm]
theorem Qi6 {R : Hp} (w : GV) (G : GS) (c : MV) (m : MS) (i : Nat) (hok : GOk R w G) (hc : w.cs[i]? = some c) (hm : G.ms[i]? = some m) (hw : GW G) (hw' : GW (G.tick i)) :
  Tri prog 26 [.pointer (some ⟨w.g, 0, none⟩), .int .i64 (i : Int)] R (XZ c m ++ grR w G) (fun r R' L' => True ∧ Qcd w c (Xh i m.tick.1 G.out).1 (G.tick i) R' L') := by
 have hi := (List.getElem?_eq_some_iff.1 hm).1
 have hmw := hw.ms m (List.mem_of_getElem? hm)
 have hnd := hok.nd i c m hc hm
 rw [zd hm] at hw' ⊢
 obtain ⟨d1, d2, d3, d4⟩ := Qb8 hi hw' hmw.ap hw.last.1
 have d5 := hw.out
 refine Qn func26 rfl ntmps26 rfl (fun σ F Q hret hend hpan => ?_)
 try simp only [cB]
 refine Qd fun K1 hK1 => Qc (Pm (Pm ?_))
 refine Pa (Ca call33 ((qg w i).eq3 (YY hc))) (Ps (Qe (hK1 _ _ _ (Qd fun K2 hK2 => Qc ?_))))
 refine Pm ?_
 refine Pa (qa underlying81 rfl rfl) (Qe (hK2 _ _ _ (Qv rfl (Qc (Pm (Pm (Pm ?_)))))))
 refine Pa (Qf rfl) ?_
 refine Pa (Ga underlying87 sizeOf56) ?_
 refine Pa (La o56) ?_
 refine Ra call50 (QlQ c.b c.v m hmw hnd) ?_
 rintro r R2 L' hR2 ⟨v', hr, hv', rfl⟩
 have hro := hr.one
 try simp only [cB]
 refine Ra call44 (Qb1 w G { c with v := v' } m.tick.1 i m.tick.2 r (by exact hok.map (c := c) hc) hr d1 (hok.els.mono hR2) hv' d2 d3 d4 hmw.ap (by omega)) ?_
 rintro r R3 L' hR3 ⟨vl', vn, css, vo, hels, rfl⟩
 try simp only [cB]
 refine Qe (hend _ _ _ ?_)
 apply QD results26 .nil _ (XZ { c with v := v', vl := vl' } (Xh i m.tick.1 G.out).1 ++ grR { w with vn := vn, css := css, vo := vo } (G.done i m.tick.1 m.tick.2)) (Hp.le_trans hR2 hR3) rfl
 case hp => exact ⟨trivial, { c with v := v', vl := vl' }, vn, css, vo, rfl, by rw [(yx i m.tick.1 G.out).1]; exact hv'.mono hR3, hels, rfl⟩
 case hS => exact sb_
theorem Qfj {R : Hp} (w : GV) (G : GS) (i : Nat) (hok : GOk R w G) (hi : i < G.ms.length) (hw : GW G) (hw' : GW (G.tick i)) :
  Tri prog 26 [.pointer (some ⟨w.g, 0, none⟩), .int .i64 (i : Int)] R (grL w G) (fun r R' L' => GrP w (G.tick i) R' L') := by
 obtain ⟨m, hm⟩ : ∃ m, G.ms[i]? = some m := ⟨_, List.getElem?_eq_getElem hi⟩
 obtain ⟨c, hc, _, _⟩ := hok.at hm
 exact Tri.mono (zo hok hc hm (m' := (Xh i m.tick.1 G.out).1) (by rw [zd hm]; rfl) (Qi6 w G c m i hok hc hm hw hw')) (fun _ _ _ _ h => h.2) (fun _ _ _ _ h => h)
theorem QcK {G : GS} {k : Int} {i : Nat} {m : MS} (hb : XR G.st k = true) (hto : (atM G.st k).2.to = (i : Int)) (hm : G.ms[i]? = some m) : G.deliver k = (G.take k).done i (m.recv (atM G.st k).2).1 (m.recv (atM G.st k).2).2 := by
 unfold GS.deliver
 rw [if_pos hb, if_pos (by omega), hto, Int.toNat_natCast, hm]
theorem QaF {G : GS} (hw : GW G) : QaG G.st := fun x hx => (hw.msg x hx).2
theorem Qnv {G : GS} (hw : GW G) {k : Int} (hb : XR G.st k = true) : MIm 0 (atM G.st k).2 := by
 obtain ⟨n, rfl⟩ := Int.eq_ofNat_of_zero_le (show 0 ≤ k by unfold XR at hb; simp at hb; omega)
 have hn : n < G.st.length := by unfold XR at hb; simp at hb; omega
 rw [(Qap (x := G.st[n]) (by simp)).1]
 exact (hw.msg _ (List.getElem_mem hn)).1
theorem Qkk {R : Hp} (w : GV) (G : GS) (c : MV) (m : MS) (i : Nat) (k : Int) (hok : GOk R w G) (hc : w.cs[i]? = some c) (hm : G.ms[i]? = some m) (hw : GW G) (hw' : GW (G.deliver k)) (hb : XR G.st k = true) (hto : (atM G.st k).2.to = (i : Int)) :
  Tri prog 31 [.pointer (some ⟨w.g, 0, none⟩), .int .i64 k] R (XZ c m ++ grR w G) (fun r R' L' => r = .bool (XR G.st k) ∧ Qcd w c (Xh i (m.recv (atM G.st k).2).1 G.out).1 (G.deliver k) R' L') := by
 have hi := (List.getElem?_eq_some_iff.1 hm).1
 have hmw := hw.ms m (List.mem_of_getElem? hm)
 have hnd := hok.nd i c m hc hm
 rw [QcK hb hto hm] at hw' ⊢
 obtain ⟨d1, d2, d3, d4⟩ := Qb8 (G := G.take k) hi hw' hmw.ap hw.last.1
 have d5 := hw.out
 have him := Qnv hw hb
 have hst := hw.st
 obtain ⟨g, hg⟩ : ∃ g, g = (atM G.st k).2 := ⟨_, rfl⟩
 have ht := QdH (R := R) w.n w.vn G.last G.st w.css hok.els (QaF hw) (by omega) k
 rw [← hg] at hto him d1 d2 d3 d4 ht hw' ⊢
 rw [hb] at ht ⊢
 refine Qn func31 rfl ntmps31 rfl (fun σ F Q hret hend hpan => ?_)
 try simp only [cB]
 refine Qd fun K1 hK1 => Qc (Ps (Qe (hK1 _ _ _ (Qd fun K2 hK2 => Qd fun K3 hK3 => Qc ?_))))
 refine Pm ?_
 refine Pa (XV underlying26 rfl rfl) (Qe (hK3 _ _ _ (Qs rfl (Qj (hK2 _ _ _ (Qd fun K4 hK4 => Qc ?_))))))
 refine Pm ?_
 refine Pa (Qf rfl) ?_
 refine Pa (Ga underlying90 sizeOf66) ?_
 refine Pa (La o66) (Pm ?_)
 refine Ra call52 (ht) ?_
 rintro r R2 L' hR2 ⟨⟨ve, rfl, hve⟩, vn2, css2, hk2, rfl⟩
 have hveo := hve.one
 try simp only [cB]
 refine Pm ?_
 refine Pa (Qq rfl rfl) ?_
 refine Pa (Qq rfl rfl) ?_
 refine QA (wn0 rfl) rfl zeroValue117 rfl (fun bg => ?_)
 refine Sm (vs := QT g ve) XO (QbV hveo) ?_
 refine Ps (Qe (hK4 _ _ _ (Qd fun K5 hK5 => Qd fun K6 hK6 => Qc ?_)))
 refine Pm ?_
 refine Pa (Ga underlying117 sizeOf3) ?_
 refine Pa ((Yld.to (u := .int .i64 (i : Int)) (La o3) (by rw [hto]))) ?_
 refine Pa (Ca call33 ((qg w (i : Int)).eq3 (YY hc))) (Ps (Qe (hK6 _ _ _ (Qd fun K7 hK7 => Qc ?_))))
 refine Pm (Pm ?_)
 refine Pb (Qg rfl) ?_
 refine Pb (qa underlying81 rfl rfl) ?_
 refine Pa (Qr rfl rfl) (Qe (hK7 _ _ _ ?_))
 refine Ql (eL 0 rfl (eL 5 rfl (eL 6 rfl (eL 7 rfl (eL 27 rfl eN))))) ?_
 refine Qv rfl ?_
 refine Xd (L := [blk bg (QT g ve) 117, mbB c m.ap]) [0, 1, 2, 3, 4, 5, 6, 7] [8] [9] _ sb_ (by kernel_rfl) (by kernel_rfl) (by kernel_rfl) rfl ?_
 refine Wa rfl (fun R1 hR1 G => (Qg rfl)) ?_
 refine Wa rfl (fun R1 hR1 G => (Ga underlying117 sizeOf3)) ?_
 refine Wa rfl (fun R1 hR1 G => (Yld.to (u := .int .i64 (i : Int)) (La o3) (by rw [hto]))) ?_
 refine Wa rfl (fun R1 hR1 G => (Qg rfl)) ?_
 refine Wa rfl (fun R1 hR1 G => (Qf rfl)) ?_
 refine Wa rfl (fun R1 hR1 G => (Ga underlying87 sizeOf56)) ?_
 refine Wa rfl (fun R1 hR1 G => (La o56)) ?_
 refine Wa rfl (fun R1 hR1 G => (Lm (vs := QT g ve) XO)) ?_
 refine Xc ?_
 refine QH rfl ?_
 try simp only [cC]
 refine Ra call53 (QlS c.b c.v m g ve hmw him hve (hnd.mono hR2)) ?_
 rintro r R3 L' hR3 ⟨v', hr, hv', rfl⟩
 have hro := hr.one
 try simp only [cB]
 refine QI le_ sb_ ?_
 refine Xe ?_
 try simp only [cC]
 refine Ra call44 (Qb1 { w with vn := vn2, css := css2 } (G.take k) { c with v := v' } (m.recv g).1 i (m.recv g).2 r (by exact hok.map (c := c) hc) hr d1 (hk2.mono hR3) hv' d2 d3 d4 hmw.ap (by exact Nat.le_trans d5 (by decide))) ?_
 rintro r R4 L' hR4 ⟨vl', vn, css, vo, hels, rfl⟩
 try simp only [cB]
 refine Qe (hK5 _ _ _ (Qd fun K8 hK8 => Qc (Pm (Ps (Qe (hK8 _ _ _ (Qi (hret _ _ _ ?_))))))))
 apply XL results31 (.cons (Qh rfl) .nil) _ (XZ { c with v := v', vl := vl' } (Xh i (m.recv g).1 G.out).1 ++ grR { w with vn := vn, css := css, vo := vo } ((G.take k).done i (m.recv g).1 (m.recv g).2)) (Hp.le_trans hR2 (Hp.le_trans hR3 hR4)) rfl
 case hp => exact ⟨rfl, { c with v := v', vl := vl' }, vn, css, vo, rfl, by rw [(yx i (m.recv g).1 G.out).1]; exact hv'.mono hR4, hels, rfl⟩
 case hS => exact sb_
theorem Qkj {R : Hp} (w : GV) (G : GS) (k : Int) (hok : GOk R w G) (hw : GW G) (hno : XR G.st k = false ∨ yF w.cs (atM G.st k).2.to = .pointer none) :
  Tri prog 31 [.pointer (some ⟨w.g, 0, none⟩), .int .i64 k] R (grR w G) (fun r R' L' => r = .bool (XR G.st k) ∧ ∃ vn css, Els oneE R' (G.take k).st css ∧ L' = grR { w with vn := vn, css := css } (G.take k)) := by
 have hst := hw.st
 obtain ⟨g, hg⟩ : ∃ g, g = (atM G.st k).2 := ⟨_, rfl⟩
 obtain ⟨bb, hbb⟩ : ∃ bb, bb = XR G.st k := ⟨_, rfl⟩
 have ht := QdH (R := R) w.n w.vn G.last G.st w.css hok.els (QaF hw) (by omega) k
 rw [← hg] at ht hno
 rw [← hbb] at ht hno ⊢
 obtain ⟨pt, hpt, hpo⟩ : ∃ pt, yF w.cs g.to = .pointer pt ∧ (bb = true → pt = none) := by
  obtain ⟨pt, hpt⟩ : ∃ pt, yF w.cs g.to = .pointer pt := by
   unfold yF
   split
   ·split <;> exact ⟨_, rfl⟩
   ·exact ⟨_, rfl⟩
  refine ⟨pt, hpt, fun h => ?_⟩
  rcases hno with h1 | h1
  ·rw [h1] at h; cases h
  ·rw [h1] at hpt; cases hpt; rfl
 refine Qn func31 rfl ntmps31 rfl (fun σ F Q hret hend hpan => ?_)
 try simp only [cB]
 refine Qd fun K1 hK1 => Qc (Ps (Qe (hK1 _ _ _ (Qd fun K2 hK2 => Qd fun K3 hK3 => Qc ?_))))
 refine Pm ?_
 refine Pa (XV underlying26 rfl rfl) (Qe (hK3 _ _ _ (Qs rfl (Qj (hK2 _ _ _ (Qd fun K4 hK4 => Qc ?_))))))
 refine Pm ?_
 refine Pa (Qf rfl) ?_
 refine Pa (Ga underlying90 sizeOf66) ?_
 refine Pa (La o66) (Pm ?_)
 refine Ra call52 (ht) ?_
 rintro r R2 L' hR2 ⟨⟨ve, rfl, hve⟩, vn2, css2, hk2, rfl⟩
 have hveo := hve.one
 try simp only [cB]
 refine Pm ?_
 refine Pa (Qq rfl rfl) ?_
 refine Pa (Qq rfl rfl) ?_
 refine QA (wn0 rfl) rfl zeroValue117 rfl (fun bg => ?_)
 refine Sm (vs := QT g ve) XO (QbV hveo) ?_
 refine Ps (Qe (hK4 _ _ _ (Qd fun K5 hK5 => Qd fun K6 hK6 => Qc ?_)))
 refine Pm ?_
 refine Pa (Ga underlying117 sizeOf3) ?_
 refine Pa (La o3) ?_
 refine Pa (Ca call33 ((qg w g.to).eq3 hpt)) (Ps (Qe (hK6 _ _ _ (Qd fun K7 hK7 => Qc ?_))))
 refine Pm (Pm ?_)
 refine QE 24 rfl (fun hg24 => ?_) (fun hg24 => ?_)
 try simp only [dx] at hg24
 refine Pb (Qg rfl) ?_
 refine Pb (qa underlying81 rfl rfl) ?_
 refine Pa (Qr rfl rfl) (Qe (hK7 _ _ _ ?_))
 refine Ql (eL 0 rfl (eL 5 rfl (eL 6 rfl (eL 7 rfl (eL 27 rfl eN))))) ?_
 refine Qm rfl (fun hc27 => ?_) (fun hc27 => ?_)
 ·rw [hpo hg24] at hc27; simp at hc27
 try simp only [dx] at hc27
 refine Qj (hK5 _ _ _ (Qd fun K9 hK9 => Qc (Pm (Ps (Qe (hK9 _ _ _ (Qi (hret _ _ _ ?_))))))))
 apply XL results31 (.cons (Qh rfl) .nil) _ (grR { w with vn := vn2, css := css2 } (G.take k)) hR2 rfl
 case hp => exact ⟨rfl, vn2, css2, hk2, rfl⟩
 case hS => exact sb_
 try simp only [dx] at hg24
 refine Pk (Pk ?_)
 refine Pa (Qo rfl rfl) (Qe (hK7 _ _ _ (Qs rfl (Qj (hK5 _ _ _ (Qd fun K10 hK10 => Qc ?_))))))
 refine Pm (Ps (Qe (hK10 _ _ _ (Qi (hret _ _ _ ?_)))))
 apply XL results31 (.cons (Qh rfl) .nil) _ (grR { w with vn := vn2, css := css2 } (G.take k)) hR2 rfl
 case hp => exact ⟨rfl, vn2, css2, hk2, rfl⟩
 case hS => exact sb_
theorem Tri.fr {P : Program} {f : FuncId} {args : List Value} {R : Hp} {L : List Asn} {A : Asn} {post : Value → Hp → List Asn → Prop} (h : Tri P f args R L post) : Tri P f args R (A :: L) (fun r R' L' => ∃ L1, post r R' L1 ∧ L' = A :: L1) := fun σ F w hs => by
 refine (h σ (A :: F) w (hs.sub (Qa9 A L F))).mono fun e w' ⟨R', L', hR, hw, hp⟩ => ?_
 cases e with
 | panicked ch => exact hp.elim
 | outgrown => exact hp.elim
 | returned v => exact ⟨R', A :: L', hR, hw.sub (jw A L' F), L', hp, rfl⟩
theorem jh {R : Hp} (w : GV) (G : GS) (k : Int) (hok : GOk R w G) (hw : GW G) (hw' : GW (G.deliver k)) :
  Tri prog 31 [.pointer (some ⟨w.g, 0, none⟩), .int .i64 k] R (grL w G) (fun r R' L' => r = .bool (XR G.st k) ∧ GrP w (G.deliver k) R' L') := by
 have hno : (XR G.st k = false ∨ yF w.cs (atM G.st k).2.to = .pointer none) → G.deliver k = G.take k → Tri prog 31 [.pointer (some ⟨w.g, 0, none⟩), .int .i64 k] R (grL w G) (fun r R' L' => r = .bool (XR G.st k) ∧ GrP w (G.deliver k) R' L') := fun h he => by
  refine Tri.mono (Tri.fr (Qkj w G k hok hw h)) (fun r R' L' hR h2 => ?_) (fun _ _ _ _ h => h)
  obtain ⟨L1, ⟨h0, vn, css, h1, rfl⟩, rfl⟩ := h2
  rw [he]
  exact ⟨h0, vn, css, w.vo, w.cs, ⟨hok.len, fun i c m hc hm => (hok.nd i c m hc hm).mono hR, h1⟩, rfl⟩
 by_cases hb : XR G.st k = true
 ·by_cases h0 : 0 ≤ (atM G.st k).2.to
  ·obtain ⟨i, hi⟩ := Int.eq_ofNat_of_zero_le h0
   cases hm : G.ms[i]? with
   | none =>
    refine hno (.inr ?_) ?_
    ·rw [hi]
     refine yb (.inr ?_)
     rw [List.getElem?_eq_none_iff] at hm
     rw [hok.len]; omega
    ·unfold GS.deliver
     rw [if_pos hb, if_pos h0, hi, Int.toNat_natCast, hm]
   | some m =>
    obtain ⟨c, hc, _, _⟩ := hok.at hm
    exact zo hok hc hm (by rw [QcK hb hi hm]; rfl) (Qkk w G c m i k hok hc hm hw hw' hb hi)
  ·refine hno (.inr (yb (.inl (by omega)))) ?_
   unfold GS.deliver
   rw [if_pos hb, if_neg h0]
 ·refine hno (.inl (by simpa using hb)) ?_
  unfold GS.deliver GS.take
  rw [if_neg hb, (qn (by simpa using hb)).2]
theorem zg {G : GS} {i : Nat} {m : MS} {cmd : Bs} (hm : G.ms[i]? = some m) : G.propose i cmd = ((m.prop cmd).1, G.done i (m.prop cmd).2.1 (m.prop cmd).2.2) := by unfold GS.propose; rw [hm]
theorem Qi7 {R : Hp} (w : GV) (G : GS) (c : MV) (m : MS) (i : Nat) (cmd : Bs) (hcl : cmd.length ≤ 100) (hok : GOk R w G) (hc : w.cs[i]? = some c) (hm : G.ms[i]? = some m) (hw : GW G) (hw' : GW (G.propose i cmd).2) :
  Tri prog 16 [.pointer (some ⟨w.g, 0, none⟩), .int .i64 (i : Int), .string (str cmd)] R (XZ c m ++ grR w G) (fun r R' L' => r = QF [.int .u64 (G.propose i cmd).1.1, .int .u64 (G.propose i cmd).1.2] ∧ Qcd w c (Xh i (m.prop cmd).2.1 G.out).1 (G.propose i cmd).2 R' L') := by
 have hi := (List.getElem?_eq_some_iff.1 hm).1
 have hmw := hw.ms m (List.mem_of_getElem? hm)
 have hnd := hok.nd i c m hc hm
 rw [zg hm] at hw' ⊢
 obtain ⟨d1, d2, d3, d4⟩ := Qb8 hi hw' hmw.ap hw.last.1
 have d5 := hw.out
 refine Qn func16 rfl ntmps16 rfl (fun σ F Q hret hend hpan => ?_)
 try simp only [cB]
 refine Qd fun K1 hK1 => Qc (Ps (Ps (Qe (hK1 _ _ _ (Qd fun K2 hK2 => Qc ?_)))))
 refine Pm (Pm ?_)
 refine Pa (Ca call33 ((qg w i).eq3 (YY hc))) (Ps (Qe (hK2 _ _ _ (Qd fun K3 hK3 => Qd fun K4 hK4 => Qc ?_))))
 refine Pm ?_
 refine Pa (XV underlying81 rfl rfl) (Qe (hK4 _ _ _ (Qs rfl (Qj (hK3 _ _ _ (Qd fun K5 hK5 => Qc ?_))))))
 refine Pm ?_
 refine Pa (Qf rfl) ?_
 refine Pa (Ga underlying87 sizeOf56) ?_
 refine Pa (La o56) (Pm ?_)
 refine Ra call43 (QlU c.b c.v m cmd hmw hcl hnd) ?_
 rintro r R2 L' hR2 ⟨v', vl, rfl, hr, hv', rfl⟩
 have hro := hr.one
 try simp only [cB]
 refine Pm ?_
 refine Pa (Qq rfl rfl) ?_
 refine Pa (Qq rfl rfl) ?_
 refine Pa (Qq rfl rfl) (Ps (Ps (Ps (Qe (hK5 _ _ _ ?_)))))
 refine Ql (eL 0 rfl (eL 1 rfl (eL 9 rfl (eL 10 rfl (eL 11 rfl eN))))) ?_
 refine Qd fun K6 hK6 => Qc (Pm (Pm (Pm ?_)))
 refine Ra call44 (Qb1 w G { c with v := v' } (m.prop cmd).2.1 i (m.prop cmd).2.2 vl (by exact hok.map (c := c) hc) hr d1 (hok.els.mono hR2) hv' d2 d3 d4 hmw.ap (by omega)) ?_
 rintro r R3 L' hR3 ⟨vl', vn, css, vo, hels, rfl⟩
 try simp only [cB]
 refine Qe (hK6 _ _ _ (Qd fun K7 hK7 => Qc (Pm (Pm (Ps (Ps (Qe (hK7 _ _ _ (Qi (hret _ _ _ ?_))))))))))
 apply XL results16 (.cons (Qh rfl) (.cons (Qh rfl) .nil)) _ (XZ { c with v := v', vl := vl' } (Xh i (m.prop cmd).2.1 G.out).1 ++ grR { w with vn := vn, css := css, vo := vo } (G.done i (m.prop cmd).2.1 (m.prop cmd).2.2)) (Hp.le_trans hR2 hR3) rfl
 case hp => exact ⟨rfl, { c with v := v', vl := vl' }, vn, css, vo, rfl, by rw [(yx i (m.prop cmd).2.1 G.out).1]; exact hv'.mono hR3, hels, rfl⟩
 case hS => exact sb_
theorem QbC {R : Hp} (w : GV) (G : GS) (i : Nat) (cmd : Bs) (hcl : cmd.length ≤ 100) (hok : GOk R w G) (hi : i < G.ms.length) (hw : GW G) (hw' : GW (G.propose i cmd).2) :
  Tri prog 16 [.pointer (some ⟨w.g, 0, none⟩), .int .i64 (i : Int), .string (str cmd)] R (grL w G) (fun r R' L' => r = QF [.int .u64 (G.propose i cmd).1.1, .int .u64 (G.propose i cmd).1.2] ∧ GrP w (G.propose i cmd).2 R' L') := by
 obtain ⟨m, hm⟩ : ∃ m, G.ms[i]? = some m := ⟨_, List.getElem?_eq_getElem hi⟩
 obtain ⟨c, hc, _, _⟩ := hok.at hm
 exact zo hok hc hm (m' := (Xh i (m.prop cmd).2.1 G.out).1) (by rw [zg hm]; rfl) (Qi7 w G c m i cmd hcl hok hc hm hw hw')
theorem zl {G : GS} {i : Nat} {m : MS} (hm : G.ms[i]? = some m) : G.compact i = (m.comp.1, { G with ms := G.ms.set i m.comp.2 }) := by unfold GS.compact; rw [hm]
theorem Qja {R : Hp} (w : GV) (G : GS) (c : MV) (m : MS) (i : Nat) (hok : GOk R w G) (hc : w.cs[i]? = some c) (hm : G.ms[i]? = some m) (hw : GW G) :
  Tri prog 32 [.pointer (some ⟨w.g, 0, none⟩), .int .i64 (i : Int)] R (XZ c m ++ grR w G) (fun r R' L' => r = .int .i64 (G.compact i).1 ∧ Qcd w c m.comp.2 (G.compact i).2 R' L') := by
 have hmw := hw.ms m (List.mem_of_getElem? hm)
 have hnd := hok.nd i c m hc hm
 rw [zl hm]
 refine Qn func32 rfl ntmps32 rfl (fun σ F Q hret hend hpan => ?_)
 try simp only [cB]
 refine Qd fun K1 hK1 => Qc (Ps (Qe (hK1 _ _ _ (Qd fun K2 hK2 => Qc ?_))))
 refine Pm (Pm ?_)
 refine Pa (Ca call33 ((qg w i).eq3 (YY hc))) (Ps (Qe (hK2 _ _ _ (Qd fun K3 hK3 => Qd fun K4 hK4 => Qc ?_))))
 refine Pm ?_
 refine Pa (XV underlying81 rfl rfl) (Qe (hK4 _ _ _ (Qs rfl (Qj (hK3 _ _ _ (Qd fun K5 hK5 => ?_))))))
 refine Xd (L := [mbB c m.ap]) [0, 1, 2, 3, 4, 5, 6, 7, 8, 9, 10, 11] [12] [13, 14] _ sb_ (by kernel_rfl) (by kernel_rfl) (by kernel_rfl) rfl ?_
 refine Wa rfl (fun R1 hR1 G => (Qg rfl)) ?_
 refine Wa rfl (fun R1 hR1 G => (Qf rfl)) ?_
 refine Wa rfl (fun R1 hR1 G => (Ga underlying87 sizeOf56)) ?_
 refine Wa rfl (fun R1 hR1 G => (La o56)) ?_
 refine Wa rfl (fun R1 hR1 G => (Qg rfl)) ?_
 refine Wa rfl (fun R1 hR1 G => (Qf rfl)) ?_
 refine Wa rfl (fun R1 hR1 G => (Ga underlying87 sizeOf36)) ?_
 refine Wa rfl (fun R1 hR1 G => (La o36)) ?_
 refine Wa rfl (fun R1 hR1 G => (Qg rfl)) ?_
 refine Wa rfl (fun R1 hR1 G => (Qf rfl)) ?_
 refine Wa rfl (fun R1 hR1 G => (Ga underlying87 sizeOf85)) ?_
 refine Wa rfl (fun R1 hR1 G => (La o85)) ?_
 refine Xc ?_
 refine QH rfl ?_
 try simp only [cC]
 refine zQ (wn0 rfl) rfl rfl (fun w => by kernel_rfl) call172 rfl (Qll c.l c.vl m.l hmw.l.2 (Nat.le_trans hmw.l.1 (by decide))) sp_ (fun _ _ _ _ h => h.elim) ?_
 rintro r R2 L' hR2 ⟨rfl, rfl⟩
 try simp only [cB]
 refine QI le_ sb_ ?_
 refine Xe ?_
 try simp only [cC]
 refine Ra call54 (QlW c.b c.v m hmw (hnd.mono hR2)) ?_
 rintro r R3 L' hR3 ⟨rfl, v', hv', rfl⟩
 try simp only [cB]
 refine Ps (Qe (hK5 _ _ _ ?_))
 refine Ql (eL 4 rfl eN) ?_
 refine Qi (hret _ _ _ ?_)
 apply XL results32 (.cons (Qh rfl) .nil) _ (XZ { c with v := v' } m.comp.2 ++ grR w G) (Hp.le_trans hR2 hR3) rfl
 case hp => exact ⟨rfl, { c with v := v' }, w.vn, w.css, w.vo, rfl, hv', hok.els.mono (Hp.le_trans hR2 hR3), rfl⟩
 case hS => exact sb_
theorem Qf7 {R : Hp} (w : GV) (G : GS) (i : Nat) (hok : GOk R w G) (hi : i < G.ms.length) (hw : GW G) :
  Tri prog 32 [.pointer (some ⟨w.g, 0, none⟩), .int .i64 (i : Int)] R (grL w G) (fun r R' L' => r = .int .i64 (G.compact i).1 ∧ GrP w (G.compact i).2 R' L') := by
 obtain ⟨m, hm⟩ : ∃ m, G.ms[i]? = some m := ⟨_, List.getElem?_eq_getElem hi⟩
 obtain ⟨c, hc, _, _⟩ := hok.at hm
 exact zo hok hc hm (m' := m.comp.2) (by rw [zl hm]) (Qja w G c m i hok hc hm hw)
theorem Qbk {G : GS} {i : Nat} {m : MS} {n : Int} (hm : G.ms[i]? = some m) : G.fuel i n = { G with ms := G.ms.set i { m with D := m.D.setFuel n } } := by unfold GS.fuel; rw [hm]
theorem Qi8 {R : Hp} (w : GV) (G : GS) (c : MV) (m : MS) (i : Nat) (n : Int) (hok : GOk R w G) (hc : w.cs[i]? = some c) (hm : G.ms[i]? = some m) :
  Tri prog 30 [.pointer (some ⟨w.g, 0, none⟩), .int .i64 (i : Int), .int .i64 n] R (XZ c m ++ grR w G) (fun r R' L' => True ∧ Qcd w c { m with D := m.D.setFuel n } (G.fuel i n) R' L') := by
 have hnd := hok.nd i c m hc hm
 rw [Qbk hm]
 refine Qn func30 rfl ntmps30 rfl (fun σ F Q hret hend hpan => ?_)
 try simp only [cB]
 refine Qd fun K1 hK1 => Qc (Pm (Pm ?_))
 refine Pa (Ca call33 ((qg w i).eq3 (YY hc))) (Ps (Qe (hK1 _ _ _ (Qd fun K2 hK2 => Qc ?_))))
 refine Pm ?_
 refine Pa (qa underlying81 rfl rfl) (Qe (hK2 _ _ _ (Qv rfl (Qc (Pm ?_)))))
 refine Pa (Qf rfl) ?_
 refine Pa (Ga underlying87 sizeOf83) ?_
 refine Pa (La o83) (Pm ?_)
 refine Ra call51 (Qnh c.b.d c.v.u m.D n) ?_
 rintro r R2 L' hR2 ⟨rfl, rfl⟩
 try simp only [cB]
 refine Qe (hend _ _ _ ?_)
 apply QD results30 .nil _ (XZ c { m with D := m.D.setFuel n } ++ grR w G) (Hp.le_refl _) rfl
 case hp => exact ⟨trivial, c, w.vn, w.css, w.vo, rfl, hnd, hok.els, rfl⟩
 case hS => exact sb_
theorem Qki {R : Hp} (w : GV) (G : GS) (i : Nat) (n : Int) (hok : GOk R w G) (hi : i < G.ms.length) :
  Tri prog 30 [.pointer (some ⟨w.g, 0, none⟩), .int .i64 (i : Int), .int .i64 n] R (grL w G) (fun r R' L' => GrP w (G.fuel i n) R' L') := by
 obtain ⟨m, hm⟩ : ∃ m, G.ms[i]? = some m := ⟨_, List.getElem?_eq_getElem hi⟩
 obtain ⟨c, hc, _, _⟩ := hok.at hm
 exact Tri.mono (zo hok hc hm (by rw [Qbk hm]) (Qi8 w G c m i n hok hc hm)) (fun _ _ _ _ h => h.2) (fun _ _ _ _ h => h)
theorem Qei {c : Cx} {E : Env} {R : Hp} {L : List Asn} {ty : TypeId} {p : String} {af : Array Edge} {g : Option (Nat × Bool)} {d : Option Tmp} {x : Operand} {t e : TypeId} {u : Value} (hT : c.P.underlying t = some (.pointer e)) (e1 : ev E x = some u) : Yld c E R L ⟨d, .makeInterface t x, ty, p, af, g⟩ (.iface t u) := fun a w hf hs => by
 have r : (Instr.makeInterface t u).run c.P w = .ok (.iface t u) w := by
  unfold Instr.makeInterface
  simp [run_underlying hT]
 simp [execOp, hf.ev e1, r, Oper.quietUpon]
theorem QlZ {R : Hp} : Tri prog 20 [] R [] (fun r R' L' => R = R' ∧ ∃ b, r = ifV b ∧ L' = [lsB b (.slice none 0 0), lsS (.slice none 0 0) []]) := by
 refine Qn func20 rfl ntmps20 rfl (fun σ F Q hret hend hpan => ?_)
 try simp only [cB]
 refine Ql eN ?_
 refine Qd fun K1 hK1 => Qc (Ps (Qe (hK1 _ _ _ (Qd fun K2 hK2 => Qc ?_))))
 refine YR (A := lsS (.slice none 0 0) []) (Yr _ _) ?_
 refine Pa (QV (cells := [_]) [(0, 1)] underlying105 zeroValue105 (fun _ => rfl) rfl rfl) ?_
 refine Xa (wn0 rfl) rfl rfl rfl (fun b => ?_)
 refine Pa ((Qei underlying103 rfl)) (Ps (Qe (hK2 _ _ _ (Qi (hret _ _ _ ?_)))))
 refine Ea results20 (.cons (Qh rfl) .nil) [lsB b (.slice none 0 0), lsS (.slice none 0 0) []] le_ ?_
 exact ⟨rfl, b, rfl, rfl⟩
theorem QdQ {R : Hp} (w : GV) (bm bd : Nat) (px im ap : Value) (u : Value) (D : DK) (rs : List Rec) (p : Bs) (g : LG) (i n : Nat) (hc : (w.cs[i]?).map MV.m = some bm) (hn : i < n ∧ n ≤ 9) (ho : px.oneCell' = true ∧ im.oneCell' = true) (hD : D.ok 690000000) (hd : D.down = false) (ht : za D.b rs p g) (hgd : g.down = false) (hop : (D.open rs p).1 = 0 ∧ (D.open rs p).2.down = false) :
  Tri prog 35 [.pointer (some ⟨w.g, 0, none⟩), .int .i64 (i : Int), .int .i64 (n : Int)] R [blk bm [.pointer (some ⟨bd, 0, none⟩), px, im, ap] 87, dkB bd u D, dkS u D, grB w, grS w]
   (fun r R' L' => ∃ c : MV, c.m = bm ∧ NOk R' c.v (ND.start i n g) ∧ L' = XZ c (YF i n g (D.open rs p).2) ++ [grB w, grS w]) := by
 obtain ⟨c0, hc0, hcm⟩ := Option.map_eq_some_iff.1 hc
 have hi2 : i < w.cs.length := (List.getElem?_eq_some_iff.1 hc0).1
 have hnth : nth (ZM w.cs) ((i : Int).toNat * 1 + 0) = some (.pointer (some ⟨bm, 0, none⟩)) := by rw [Int.toNat_natCast, ZP]; simp [ZM, hc0, hcm]
 obtain ⟨h1, h2, h3⟩ := ht
 obtain ⟨h4, h5⟩ := hop
 have hgs := (Plays.okR h3).state
 have hop2 := Qm7 (R := R) bd u D 690000000 rs p g hD (by omega) h1 h2 h3
 rw [h4] at hop2
 refine Qn func35 rfl ntmps35 rfl (fun σ F Q hret hend hpan => ?_)
 try simp only [cB]
 refine Qd fun K1 hK1 => Qc (Pm ?_)
 refine Pa (Qf rfl) ?_
 refine Pa (Ga underlying90 sizeOf88) ?_
 refine Pa (La o88) (Pm ?_)
 refine Pa ((XA (sz := 1) (n := w.cs.length) underlying88 sizeOf81 rfl rfl fd_ (by omega))) ?_
 refine Pa ((XD o81 rfl fd_ hnth)) (Ps (Qe (hK1 _ _ _ (Qd fun K2 hK2 => Qc ?_))))
 refine Pm ?_
 refine Pa (Qf rfl) ?_
 refine Pa (Ga underlying87 sizeOf83) ?_
 refine Pa (La o83) ?_
 refine Ra call56 (hop2) ?_
 rintro r R2 L' hR2 ⟨pl, u2, rfl, (⟨_, hx, _⟩ | ⟨bl, va, rfl, _, hva, rfl⟩)⟩; exact absurd rfl hx
 try simp only [cB]
 refine Pm ?_
 refine Pa (Qq rfl rfl) ?_
 refine Pa (Qq rfl rfl) (Ps (Ps (Qe (hK2 _ _ _ (Qd fun K3 hK3 => Qc ?_)))))
 refine Pm (Pm (Pm (Pm ?_)))
 refine Ra call57 (Qlm bl bd i n u2 va g (D.open rs p).2 hn hva) ?_
 rintro r R3 L' hR3 (⟨hx, _, _⟩ | ⟨_, bx, rfl, hv, rfl⟩); simp [hgd, h5] at hx
 try simp only [cB]
 refine Pm ?_
 refine Pa (Qq rfl rfl) ?_
 refine Pa (Qq rfl rfl) ?_
 refine Pa (Qf rfl) ?_
 refine Pa (Ga underlying87 sizeOf56) ?_
 refine Sa o56 ?_
 refine Qe (hK3 _ _ _ ?_)
 refine Ql (eL 0 rfl (eL 6 rfl (eL 7 rfl eN))) ?_
 refine Qd fun K4 hK4 => Qc (Pm (Pm (Pm ?_)))
 refine Pa (Qf rfl) ?_
 refine Pa (Ga underlying90 sizeOf49) ?_
 refine Pa (La o49) ?_
 refine QjP (wn0 rfl) rfl rfl call20 rfl (QlZ) sp_ (fun _ _ _ _ h => h.elim) ?_
 rintro r R4 L' hR4 ⟨rfl, bl2, rfl, rfl⟩
 try simp only [cB]
 refine Pa (Qf rfl) ?_
 refine Pa (Ga underlying87 sizeOf85) ?_
 refine Sa o85 ?_
 refine Pa (Qf rfl) ?_
 refine Pa (Ga underlying87 sizeOf36) ?_
 refine Sa o36 ?_
 refine Qe (hK4 _ _ _ (Qd fun K5 hK5 => Qc (Pm ?_)))
 refine Pa (Ca call25 (yw bl (some ⟨bd, 0, none⟩) va g)) (Pm ?_)
 refine Pa (Qq rfl rfl) ?_
 refine Pa (Qq rfl rfl) ?_
 refine Pa (Qq rfl rfl) (Ps (Ps (Ps (Qe (hK5 _ _ _ ?_)))))
 refine Ql (eL 6 rfl (eL 9 rfl (eL 11 rfl eN))) ?_
 refine Qd fun K6 hK6 => Qc (Pm ?_)
 refine Pa (Xs rfl rfl) (Qe (hK6 _ _ _ ?_))
 refine Qm rfl (fun hc55 => ?_) (fun hc55 => ?_)
 have f1 : g.base > 0 := by simpa using hc55
 have e1 : YF i n g (D.open rs p).2 = ⟨ND.start i n g, (D.open rs p).2, unS g.state, g.base⟩ := by unfold YF; rw [if_pos f1]
 refine Qd fun K8 hK8 => Qc (Pm ?_)
 refine Pa (Qf rfl) ?_
 refine Pa (Ga underlying87 sizeOf85) ?_
 refine Pa (La o85) (Pm ?_)
 refine zQ (wn0 rfl) rfl rfl (fun w => by kernel_rfl) call171 rfl (QdC bl2 (.slice none 0 0) [] g.state (by omega)) sp_ (fun _ _ _ _ h => h.elim) ?_
 rintro r R5 L' hR5 ⟨rfl, vl3, rfl⟩
 try simp only [cB]
 refine Qe (hK8 _ _ _ (Qc (Pm (Pm ?_))))
 refine Pa (Qf rfl) ?_
 refine Pa (Ga underlying87 sizeOf36) ?_
 refine Sa o36 ?_
 refine Qe (hend _ _ _ ?_)
 apply QD results35 .nil _ (XZ ⟨bm, ⟨bx, bl, bd⟩, bl2, NV.new u2 va, vl3⟩ ⟨ND.start i n g, (D.open rs p).2, unS g.state, g.base⟩ ++ [grB w, grS w]) (by first | exact Hp.le_trans hR2 (Hp.le_trans hR3 hR5) | exact Hp.le_trans hR2 hR3) rfl
 case hp => rw [e1]; exact ⟨⟨bm, ⟨bx, bl, bd⟩, bl2, NV.new u2 va, vl3⟩, rfl, hv.mono hR5, rfl⟩
 case hS => exact sb_
 have f1 : ¬ g.base > 0 := by simpa using hc55
 have e1 : YF i n g (D.open rs p).2 = ⟨ND.start i n g, (D.open rs p).2, [], 0⟩ := by unfold YF; rw [if_neg f1]
 refine Qj (hend _ _ _ ?_)
 apply QD results35 .nil _ (XZ ⟨bm, ⟨bx, bl, bd⟩, bl2, NV.new u2 va, .slice none 0 0⟩ ⟨ND.start i n g, (D.open rs p).2, [], 0⟩ ++ [grB w, grS w]) (by first | exact Hp.le_trans hR2 (Hp.le_trans hR3 hR5) | exact Hp.le_trans hR2 hR3) rfl
 case hp => rw [e1]; exact ⟨⟨bm, ⟨bx, bl, bd⟩, bl2, NV.new u2 va, .slice none 0 0⟩, rfl, hv, rfl⟩
 case hS => exact sb_
theorem Plays.down : ∀ {rs : List Rec} {g h : LG}, Plays g rs h → h.down = g.down
 | _, _, _, .nil _ _ => rfl
 | _, _, _, .cons _ _ _ p => by rw [Plays.down p, zV]
theorem Qm8 {D : DK} {rs : List Rec} {p : Bs} (h1 : D.down = false) (h2 : D.bound = false) : (D.open rs p).1 = 0 ∧ (D.open rs p).2.down = false ∧ (D.open rs p).2.bound = false := by
 unfold DK.open
 rw [if_neg (by rw [h1]; decide)]
 split
 ·exact ⟨rfl, h1, h2⟩
 ·unfold DK.swap
  rw [QaD ⟨h1, h2⟩]
  exact ⟨rfl, h1, h2⟩
theorem DK.crash_ok {D : DK} {m : Nat} (h : D.ok m) (keep : Int) : (D.crash keep).ok m := by
 obtain ⟨k1, k2, k3, k4, k5⟩ := h
 have hkl : D.keeps keep ≤ D.b.length := by unfold DK.keeps; omega
 have hbl : (D.crash keep).b.length = D.keeps keep := by unfold DK.crash; simp; omega
 exact ⟨by show D.keeps keep ≤ _; rw [hbl]; exact Nat.le_refl _, by rw [hbl]; omega, k3, k4, fun h => by have h : false = true := h; cases h⟩
def Qef (D : DK) (keep : Int) : Prop := ∃ rs p g, za (D.crash keep).b rs p g
theorem Qam {G : GS} {i : Nat} {m : MS} {keep : Int} (hm : G.ms[i]? = some m) : G.crash i keep = { G with ms := G.ms.set i (m.crash i G.ms.length keep) } := by unfold GS.crash; rw [hm]
theorem Qmk (m : MS) (i n : Nat) (keep : Int) : (m.crash i n keep).x = ND.start i n (QaB (m.D.crash keep).b) := by
 unfold MS.crash YF
 split <;> rfl
theorem QhT {R : Hp} (w : GV) (G : GS) (c : MV) (m : MS) (i : Nat) (keep : Int) (hok : GOk R w G) (hc : w.cs[i]? = some c) (hm : G.ms[i]? = some m) (hw : GW G) (ho : Qef m.D keep) :
  Tri prog 12 [.pointer (some ⟨w.g, 0, none⟩), .int .i64 (i : Int), .int .i64 keep] R (XZ c m ++ grR w G) (fun r R' L' => True ∧ Qcd w c (m.crash i G.ms.length keep) (G.crash i keep) R' L') := by
 have hi := (List.getElem?_eq_some_iff.1 hm).1
 have hmw := hw.ms m (List.mem_of_getElem? hm)
 have hn := hw.n
 have ht := Qet ho
 have hoc := Qm8 (D := m.D.crash keep) (rs := Qaz (m.D.crash keep).b) (p := QaA (m.D.crash keep).b) rfl rfl
 have hst := fun (R : Hp) (u : Value) => QdQ (R := R) w c.m c.b.d (.pointer (some ⟨c.b.x, 0, none⟩)) (ifV c.l) (.int .u64 m.ap) u (m.D.crash keep) _ _ _ i G.ms.length (hok.map hc) ⟨hi, hn⟩ ⟨rfl, rfl⟩ (DK.crash_ok hmw.ok keep) rfl ht (ht.2.2.down) ⟨hoc.1, hoc.2.1⟩
 rw [Qam hm]
 refine Qn func12 rfl ntmps12 rfl (fun σ F Q hret hend hpan => ?_)
 try simp only [cB]
 refine Qd fun K1 hK1 => Qc (Pm (Pm ?_))
 refine Pa (Ca call33 ((qg w i).eq3 (YY hc))) (Ps (Qe (hK1 _ _ _ (Qd fun K2 hK2 => Qc ?_))))
 refine Pm ?_
 refine Pa (qa underlying81 rfl rfl) (Qe (hK2 _ _ _ (Qv rfl (Qd fun K3 hK3 => Qc ?_))))
 refine Pm ?_
 refine Pa (Qf rfl) ?_
 refine Pa (Ga underlying87 sizeOf83) ?_
 refine Pa (La o83) (Pm ?_)
 refine Ra call34 (Qml c.b.d c.v.u m.D 690000000 hmw.ok (by omega) keep) ?_
 rintro r R2 L' hR2 ⟨rfl, u2, rfl⟩
 have hst2 := hst R u2
 rw [← hok.len] at hst2
 try simp only [cB]
 refine Qe (hK3 _ _ _ (Qc (Pm (Pm (Pm ?_)))))
 refine Pa (Qf rfl) ?_
 refine Pa (Ga underlying90 sizeOf88) ?_
 refine Pa (La o88) ?_
 refine Pa (YE underlying88 rfl fd_) ?_
 refine Ra call35 (hst2) ?_
 rintro r R3 L' hR3 ⟨c', hcm, hv', rfl⟩
 rw [hok.len] at hv' ⊢
 try simp only [cB]
 refine Qe (hend _ _ _ ?_)
 apply QD results12 .nil _ (XZ c' (m.crash i G.ms.length keep) ++ grR w { G with ms := G.ms.set i (m.crash i G.ms.length keep) }) hR3 rfl
 case hp => exact ⟨trivial, c', w.vn, w.css, w.vo, hcm, by rw [Qmk]; exact hv', hok.els.mono hR3, rfl⟩
 case hS => exact sb_
theorem Qi9 {R : Hp} (w : GV) (G : GS) (i : Nat) (keep : Int) (hok : GOk R w G) (hi : i < G.ms.length) (hw : GW G) (ho : ∀ m, G.ms[i]? = some m → Qef m.D keep) :
  Tri prog 12 [.pointer (some ⟨w.g, 0, none⟩), .int .i64 (i : Int), .int .i64 keep] R (grL w G) (fun r R' L' => GrP w (G.crash i keep) R' L') := by
 obtain ⟨m, hm⟩ : ∃ m, G.ms[i]? = some m := ⟨_, List.getElem?_eq_getElem hi⟩
 obtain ⟨c, hc, _, _⟩ := hok.at hm
 exact Tri.mono (zo hok hc hm (by rw [Qam hm]) (QhT w G c m i keep hok hc hm hw (ho m hm))) (fun _ _ _ _ h => h.2) (fun _ _ _ _ h => h)
theorem Qc3 {P : Program} (n : Nat) {t : TypeId} {a b : Array TypeId} {v : Bool} {f : Fn} {fs cs : Array Value} {w : World} (hT : P.underlying t = some (.func a b v)) : (Op.equalIn (n + 1) t (.func f fs cs) .nilFunc).run P w = .ok false w := by
 simp [Op.equalIn, run_underlying hT]
theorem QeH {P : Program} {t : TypeId} {a b : Array TypeId} {v : Bool} {f : Fn} {fs cs : Array Value} {w : World} (hT : P.underlying t = some (.func a b v)) : (Op.equal t (.func f fs cs) .nilFunc).run P w = .ok false w := Qc3 9999 hT
theorem QmA {c : Cx} {E : Env} {R : Hp} {L : List Asn} {ty : TypeId} {p : String} {af : Array Edge} {g : Option (Nat × Bool)} {d : Option Tmp} {x y : Operand} {t t' : TypeId} {a b : Array TypeId} {v : Bool} {f : Fn} {fs cs : Array Value} (hT : c.P.underlying t = some (.func a b v)) (e1 : ev E x = some (.func f fs cs)) (e2 : ev E y = some .nilFunc) :
  Yld c E R L ⟨d, .binOp .eql t x y t', ty, p, af, g⟩ (.bool false) :=
 fun _ w hf _ => by simp [execOp, hf.ev e1, hf.ev e2, eqGuard, binOp, QeH hT, Oper.quietUpon]
theorem Qjd (l : List (List Asn)) (As : List Asn) : Find (gA As) ((l ++ [As]).map gA) (l.map gA) := by
 induction l with
 | nil => exact .head _
 | cons B l ih => exact .tail ih
theorem Qjn {l : List (List Asn)} {As : List Asn} (g : Hp) (k : stars [gA As, Yn l] g) : Yn (l ++ [As]) g := by
 obtain ⟨h1, h2, a, b, c, d, k1, _, a2, _, _, d2, _⟩ := k
 exact (Qjd l As).back ⟨h1, k1, a, Hp.le_trans a2 b, Hp.dis_le c a2, d, d2⟩
theorem Sat.bigSnoc {L M : List Asn} {R : Hp} {σ : World} {w : World} {l : List (List Asn)} {As : List Asn} (hS : Sub L (As ++ Yn l :: M)) (hs : Sat σ R L w) : Sat σ R (Yn (l ++ [As]) :: M) w :=
 Sat.join (A := Yn (l ++ [As])) (As := [gA As, Yn l]) Qjn (Sat.join (A := gA As) (As := As) (fun _ k => k) (hs.sub hS))
theorem Qht {c : Cx} {ops : Array Oper} {Q : Exit → Act → World → Prop} {E : Env} {R : Hp} {L M : List Asn} {o : List Oper} {l : List (List Asn)} {As : List Asn} (hS : Sub L (As ++ Yn l :: M)) (h : RJ c ops Q o E R (Yn (l ++ [As]) :: M)) : RJ c ops Q o E R L := fun a w hf hs => h a w hf (hs.bigSnoc hS)
def yt (n k : Nat) : GS := ⟨(List.range k).map fun i => YF i n LG.new DK.new, [], 0, []⟩
theorem Qad (n k : Nat) : (yt n k).ms.length = k := by simp [yt]
theorem QiX {cs : List MV} {ms : List MS} (h : cs.length = ms.length) (c : MV) (m : MS) : ZX cs ms ++ [XZ c m] = ZX (cs ++ [c]) (ms ++ [m]) := by
 unfold ZX
 rw [List.zipWith_append h]; rfl
theorem QdG (n k : Nat) : (yt n (k + 1)).ms = (yt n k).ms ++ [YF k n LG.new DK.new] := by simp [yt, List.range_succ]
theorem Qnl : za DK.new.b [] [] LG.new := ⟨rfl, jR, .nil _ LG.new_ok⟩
def mv0 (b : Nat) : MV := ⟨b, ⟨0, 0, 0⟩, 0, NV.new (.slice none 0 0) (.slice none 0 0), .slice none 0 0⟩
theorem QaR (cs : List MV) (c : MV) : ZM cs ++ [.pointer (some ⟨c.m, 0, none⟩)] = ZM (cs ++ [c]) := by simp [ZM]
theorem Qi5 {R R' : Hp} {w : GV} {n k : Nat} {c' : MV} (hok : GOk R w (yt n k)) (hwn : w.cs.length = k) (hR : R.le R') (hv : NOk R' c'.v (ND.start k n LG.new)) (va : Value) : GOk R' { w with va := va, cs := w.cs ++ [c'] } (yt n (k + 1)) := by
 refine ⟨by rw [Qad]; simp [hwn], fun i c m hc hm => ?_, hok.els.mono hR⟩
 rw [QdG] at hm
 dsimp only at hc
 by_cases hi : i < k
 ·rw [List.getElem?_append_left (by rw [hwn]; exact hi)] at hc
  rw [List.getElem?_append_left (by rw [Qad]; exact hi)] at hm
  exact (hok.nd i c m hc hm).mono hR
 ·rw [List.getElem?_append_right (by omega), hwn] at hc
  rw [List.getElem?_append_right (by rw [Qad]; omega), Qad] at hm
  by_cases h0 : i - k = 0
  ·rw [h0] at hc hm
   simp at hc hm
   subst hc; subst hm
   have e : (YF k n LG.new DK.new).x = ND.start k n LG.new := by unfold YF; split <;> rfl
   rw [e]; exact hv
  ·rw [List.getElem?_eq_none (by simp; omega)] at hc; cases hc
theorem QgK {R : Hp} (n : Nat) (hn : 1 ≤ n ∧ n ≤ 9) : Tri prog 19 [.int .i64 (n : Int), fnV] R []
  (fun r R' L' => ∃ w, r = QF [.pointer (some ⟨w.g, 0, none⟩), .int .i64 0] ∧ GOk R' w (GS.new n) ∧ L' = grL w (GS.new n)) := by
 refine Qn func19 rfl ntmps19 rfl (fun σ F Q hret hend hpan => ?_)
 try simp only [cB]
 refine Qd fun K1 hK1 => Qc (Ps (Ps (Qe (hK1 _ _ _ (Qd fun K2 hK2 => Qd fun K3 hK3 => Qc ?_)))))
 refine Pm ?_
 refine Pa ((Yld.to (u := .bool false) (QO rfl rfl) (by rw [decide_eq_false (by omega)]))) ?_
 refine Pm ?_
 refine Pb (Qg rfl) ?_
 refine Pb ((Yld.to (u := .bool false) (Xs rfl rfl) (by rw [decide_eq_false (by omega)]))) ?_
 refine Pa (Qo rfl rfl) (Pm ?_)
 refine Pb (Qg rfl) ?_
 refine Pb ((QmA underlying49 rfl rfl)) ?_
 refine Pa (Qo rfl rfl) (Qe (hK3 _ _ _ (Qs rfl (Qj (hK2 _ _ _ (Qd fun K4 hK4 => Qc ?_))))))
 refine Pm ?_
 refine Ra call46 (Qj8) ?_
 rintro r R1 L' hR1 ⟨rfl, bn, rfl, rfl⟩
 refine YR (A := slc 81 1 (.slice none 0 0) 0 []) (Yr _ _) ?_
 refine YR (A := ocS (.slice none 0 0) []) (Yr _ _) ?_
 refine YR (A := Yn []) (fun _ => trivial) ?_
 try simp only [cB]
 refine Pa (QV (cells := [_, _, _, _]) [(0, 1), (1, 1), (2, 1), (3, 1)] underlying90 zeroValue90 (fun _ => rfl) rfl rfl) ?_
 refine Xa (wn0 rfl) rfl rfl rfl (fun bg => ?_)
 refine Ps (Qe (hK4 _ _ _ (Qd fun K5 hK5 => Qd fun K6 hK6 => Qc ?_)))
 refine Pm (Pm (Qe (hK6 _ _ _ (Qp ?_))))
 refine Ql (E' := (fun (x : Nat × GV × Hp) => [(0, .int .i64 (n : Int)), (6, .pointer (some ⟨x.2.1.g, 0, none⟩)), (23, .int .i64 (n : Int)), (24, .int .i64 (x.1 : Int))]) (0, ⟨bg, .slice none 0 0, bn, .slice none 0 0, [], .slice none 0 0, []⟩, R)) (eC rfl (eC rfl (eC rfl (eC rfl eN)))) ?_
 refine Xi (M := (fun (x : Nat × GV × Hp) => grL x.2.1 (yt n x.1) ++ F) (0, ⟨bg, .slice none 0 0, bn, .slice none 0 0, [], .slice none 0 0, []⟩, R)) sb_ ?_
 refine QY (fun (x : Nat × GV × Hp) => [(0, .int .i64 (n : Int)), (6, .pointer (some ⟨x.2.1.g, 0, none⟩)), (23, .int .i64 (n : Int)), (24, .int .i64 (x.1 : Int))]) (fun (x : Nat × GV × Hp) => x.2.2) (fun (x : Nat × GV × Hp) => grL x.2.1 (yt n x.1) ++ F) (fun (x : Nat × GV × Hp) => x.1 ≤ n ∧ x.2.1.cs.length = x.1 ∧ GOk x.2.2 x.2.1 (yt n x.1) ∧ R.le x.2.2) (fun (x : Nat × GV × Hp) => n - x.1) (0, ⟨bg, .slice none 0 0, bn, .slice none 0 0, [], .slice none 0 0, []⟩, R) (⟨by simp, rfl, ⟨rfl, fun i c m hc _ => (by simp at hc), Els.nil⟩, Hp.le_refl _⟩) ?_
 rintro ⟨k, w, R4⟩ ⟨hk, hwn, hok, hR4⟩
 try dsimp only
 dsimp only at hk hwn hok hR4
 refine Qd fun K7 hK7 => Qc ?_
 refine Pa (QO rfl rfl) (Qe (hK7 _ _ _ (Qd fun K8 hK8 => ?_)))
 refine Qm rfl (fun hc25 => ?_) (fun hc25 => ?_)
 try simp only [dx] at hc25
 refine Qj (hK8 _ _ _ (Qd fun K10 hK10 => Qp (Qd fun K11 hK11 => Qc (Pm (Ps (Qe (hK11 _ _ _ (Qd fun K12 hK12 => ?_))))))))
 have hk2 : k < n := by (try simp at hc25); omega
 refine Qc ?_
 refine Ra call47 (QnP) ?_
 rintro r R2 L' hR2 ⟨rfl, bd, u0, rfl, rfl⟩
 try simp only [cB]
 refine Pa (QV (cells := [_, _, _, _]) [(0, 1), (1, 1), (2, 1), (3, 1)] underlying87 zeroValue87 (fun _ => rfl) rfl rfl) ?_
 refine Xa (wn0 rfl) rfl rfl rfl (fun bm => ?_)
 refine Ps (Qe (hK12 _ _ _ ?_))
 refine Ql (eL 0 rfl (eL 6 rfl (eL 7 rfl (eL 8 rfl (eL 23 rfl (eL 24 rfl eN)))))) ?_
 refine Qd fun K13 hK13 => Qc (Pm (Pm ?_))
 refine Pa (Qf rfl) ?_
 refine Pa (Ga underlying90 sizeOf88) ?_
 refine Pa (La o88) (Pm ?_)
 refine Qz (sz := 1) (wn0 rfl) rfl underlying88 sizeOf81 zeroValue81 rfl rfl rfl (by decide) (by decide) (fun bz => ?_)
 refine XF (sz := 1) (by_ := 8) ⟨underlying88, _, _, rfl, rfl, rfl, rfl, rfl⟩ (wn0 rfl) rfl rfl rfl fd_ (YT (xs := [.pointer (some ⟨bm, 0, none⟩)]) underlying88 fd_ (by (first | (simp [Value.oneCell']; done) | (intro u hu; simp only [List.mem_cons, List.not_mem_nil, or_false] at hu; rcases hu with rfl | rfl | rfl | rfl <;> first | rfl | assumption)))) rfl om_ (by simp only [maxLen]; omega) (fun v37 ho37 hh37 => ?_)
 rw [show ZM w.cs ++ [.pointer (some ⟨bm, 0, none⟩)] = ZM (w.cs ++ [mv0 bm]) from QaR w.cs (mv0 bm), show w.cs.length + 1 = (w.cs ++ [mv0 bm]).length by simp]
 refine Pa (Qf rfl) ?_
 refine Pa (Ga underlying90 sizeOf88) ?_
 refine Sa o88 ?_
 refine Qe (hK13 _ _ _ (Qc (Pm (Pm (Pm ?_)))))
 have hst := QdQ (R := R4) { w with va := v37, cs := w.cs ++ [mv0 bm] } bm bd (.pointer none) .nilIface (.int .u64 0) u0 DK.new [] [] LG.new k n (by simp [← hwn, mv0]) ⟨hk2, hn.2⟩ ⟨rfl, rfl⟩ (by exact ⟨by decide, by decide, by decide, by decide, by decide⟩) rfl Qnl rfl ⟨rfl, rfl⟩
 rw [show (DK.new.open [] []).2 = DK.new from rfl] at hst
 refine Ra call35 (hst) ?_
 rintro r R5 L' hR5 ⟨c', hcm, hv', rfl⟩
 refine Qht (l := ZX w.cs (yt n k).ms) (As := XZ c' (YF k n LG.new DK.new)) sb_ ?_
 have hgs : grS { w with va := v37, cs := w.cs ++ [mv0 bm] } = grS { w with va := v37, cs := w.cs ++ [c'] } := by unfold grS; dsimp only; rw [← QaR w.cs (mv0 bm), ← QaR w.cs c', hcm]; simp [mv0]
 refine Xu (A := grS { w with va := v37, cs := w.cs ++ [mv0 bm] }) (B := grS { w with va := v37, cs := w.cs ++ [c'] }) fd_ (fun h hh => hgs ▸ hh) ?_
 have hok2 : GOk R5 { w with va := v37, cs := w.cs ++ [c'] } (yt n (k + 1)) := Qi5 hok hwn hR5 hv' v37
 rw [QiX hok.len, ← QdG]
 try simp only [cB]
 refine Qe (hK10 _ _ _ (Qc ?_))
 refine Pa (Qt rfl rfl om_) (Pm (Qe ?_))
 refine Xl (q' := QS _ _ _ _ _ _ _) rfl ?_
 refine QC ((k + 1, { w with va := v37, cs := w.cs ++ [c'] }, R5)) (⟨by dsimp only; omega, by simp [hwn], hok2, Hp.le_trans hR4 hR5⟩) (by dsimp only; omega) (eC rfl (eC rfl (eC rfl (eC rfl eN)))) rfl sb_
 try simp only [dx] at hc25
 refine QL (hK5 _ _ _ (Qd fun K14 hK14 => ?_))
 obtain rfl : k = n := by (try simp at hc25); omega
 refine Qc (Pm (Ps (Ps (Qe (hK14 _ _ _ (Qi (hret _ _ _ ?_)))))))
 apply XL results19 (.cons (Qh rfl) (.cons (Qh rfl) .nil)) _ (grL w (yt k k)) hR4 rfl
 case hp => exact ⟨w, rfl, hok, rfl⟩
 case hS => exact sb_
theorem QTri.split {P : Program} {f : FuncId} {args : List Value} {R : Hp} {L pre F : List Asn} {v : Value} (h : QTri P f args R pre v) (s : Split L pre F) : QTri P f args R L v := fun σ G w hs => by
 have s2 := s.app G
 refine (h σ (F ++ G) w (s2.sat hs)).mono fun e w' ⟨he, hw⟩ => ⟨he, s2.satBack hw⟩
theorem QTri.mem {P : Program} {f : FuncId} {args : List Value} {R : Hp} {cs : List MV} {ms : List MS} {i : Nat} {c : MV} {m : MS} {pre F : List Asn} {v : Value} (hc : cs[i]? = some c) (hm : ms[i]? = some m) (h : QTri P f args R pre v) (s : Split (XZ c m) pre F) : QTri P f args R [Yn (ZX cs ms)] v :=
 QTri.big (yu hc hm) (h.split (by simpa using s))
@[reducible] def grA (w : GV) (G : GS) : Asn := Yn (ZX w.cs G.ms)
section
variable {R : Hp} {w : GV} {G : GS} {i : Nat} {c : MV} {m : MS}
theorem jF (hc : w.cs[i]? = some c) (hm : G.ms[i]? = some m) : QTri prog 22 [.pointer (some ⟨w.g, 0, none⟩), .int .i64 (i : Int)] R [grA w G, grB w, grS w] (.pointer (some ⟨c.b.x, 0, none⟩)) := QTri.big (yu hc hm) (Qkh w c m i hc)
theorem QcE (hc : w.cs[i]? = some c) (hm : G.ms[i]? = some m) : QTri prog 18 [.pointer (some ⟨w.g, 0, none⟩), .int .i64 (i : Int)] R [grA w G, grB w, grS w] (.int .u64 m.ap) := QTri.big (yu hc hm) (Qf8 w c m i hc)
theorem QcC (hc : w.cs[i]? = some c) (hm : G.ms[i]? = some m) : QTri prog 17 [.pointer (some ⟨w.g, 0, none⟩), .int .i64 (i : Int)] R [grA w G, grB w, grS w] c.vl := QTri.big (yu hc hm) (Qn0 w c m i hc)
theorem QdR (hc : w.cs[i]? = some c) (hm : G.ms[i]? = some m) : QTri prog 58 [.pointer (some ⟨c.b.x, 0, none⟩)] R [grA w G] (.int .i64 m.x.leader) := QTri.mem hc hm (QhH c.b c.v m.x) sp_
theorem Ql8 (hc : w.cs[i]? = some c) (hm : G.ms[i]? = some m) : QTri prog 38 [.pointer (some ⟨c.b.x, 0, none⟩)] R [grA w G] (.int .i64 m.x.role) := QTri.mem hc hm (QbS c.b c.v m.x) sp_
theorem QcB (hc : w.cs[i]? = some c) (hm : G.ms[i]? = some m) : QTri prog 23 [.pointer (some ⟨c.b.x, 0, none⟩)] R [grA w G] (.pointer (some ⟨c.b.l, 0, none⟩)) := QTri.mem hc hm (Qc9 c.b c.v m.x) sp_
theorem Qdg (hc : w.cs[i]? = some c) (hm : G.ms[i]? = some m) : QTri prog 24 [.pointer (some ⟨c.b.l, 0, none⟩)] R [grA w G] (.int .u64 m.x.g.term) := QTri.mem hc hm (YV c.b.l (some ⟨c.b.d, 0, none⟩) c.v.va m.x.g) sp_
theorem Qmc (hc : w.cs[i]? = some c) (hm : G.ms[i]? = some m) : QTri prog 25 [.pointer (some ⟨c.b.l, 0, none⟩)] R [grA w G] (QF [.int .u64 m.x.g.base, .int .u64 m.x.g.baseT, .string (str m.x.g.state)]) := QTri.mem hc hm (yw c.b.l (some ⟨c.b.d, 0, none⟩) c.v.va m.x.g) sp_
end
theorem Qjc {R : Hp} (w : GV) (i : Int) (h : i < 0 ∨ (w.cs.length : Int) ≤ i) : QTri prog 22 [.pointer (some ⟨w.g, 0, none⟩), .int .i64 i] R [grB w, grS w] (.pointer none) := by
 have ha := (qg (R := R) w i).eq3 (yb h)
 refine Tri.q ?_
 refine Qn func22 rfl ntmps22 rfl (fun σ F Q hret hend hpan => ?_)
 try simp only [cB]
 refine Qd fun K1 hK1 => Qc (Ps (Qe (hK1 _ _ _ (Qd fun K2 hK2 => Qd fun K3 hK3 => Qc ?_))))
 refine Pm (Pm ?_)
 refine Pa (Ca call33 (ha)) (Ps (Qe (hK3 _ _ _ (Qd fun K4 hK4 => Qc ?_))))
 refine Pm ?_
 refine Pa (qa underlying81 rfl rfl) (Qe (hK4 _ _ _ (Qs rfl (Qj (hK2 _ _ _ ?_)))))
 refine Ql eN ?_
 refine Qd fun K5 hK5 => Qc (Ps (Qe (hK5 _ _ _ (Qi (hret _ _ _ ?_)))))
 refine Ea results22 (.cons (Qh rfl) .nil) [grB w, grS w] le_ ?_
 exact ⟨rfl, rfl, rfl⟩
theorem ndNoRole_q {R : Hp} : QTri prog 38 [.pointer none] R [] (.int .i64 0) := by
 refine Tri.q ?_
 refine Qn func38 rfl ntmps38 rfl (fun σ F Q hret hend hpan => ?_)
 try simp only [cB]
 refine Qd fun K1 hK1 => Qc (Ps (Qe (hK1 _ _ _ (Qd fun K2 hK2 => Qd fun K3 hK3 => Qc ?_))))
 refine Pm ?_
 refine Pa (XV underlying56 rfl rfl) (Qe (hK3 _ _ _ (Qv rfl (Qd fun K4 hK4 => Qc ?_))))
 refine Ps (Qe (hK4 _ _ _ (Qi (hret _ _ _ ?_))))
 refine Ea results38 (.cons (Qh rfl) .nil) [] le_ ?_
 exact ⟨rfl, rfl, rfl⟩
def GS.leader (G : GS) (i : Nat) : Int := match G.ms[i]? with | some m => m.x.leader | none => -1
def GS.term (G : GS) (i : Nat) : Int := match G.ms[i]? with | some m => m.x.g.term | none => 0
def GS.role (G : GS) (i : Int) : Int := if 0 ≤ i then (match G.ms[i.toNat]? with | some m => m.x.role | none => 0) else 0
def GS.alike (G : GS) (k : Nat) : Bool := (List.range k).all fun i => decide (G.leader i = G.leader 0 ∧ G.term i = G.term 0)
def GS.leads (G : GS) (n : Nat) : Int × Bool := if G.alike n = true then (G.leader 0, decide (¬ G.leader 0 = -1) && decide (G.role (G.leader 0) = 2)) else (-1, false)
theorem Qh6 {G : GS} {k : Nat} (h : G.alike k = true) : G.alike (k + 1) = decide (G.leader k = G.leader 0 ∧ G.term k = G.term 0) := by
 unfold GS.alike at *
 rw [List.range_succ, List.all_append, h]; simp
theorem QfK {G : GS} {k n : Nat} (hk : k < n) (h : ¬ (G.leader k = G.leader 0 ∧ G.term k = G.term 0)) : ¬ G.alike n = true := fun ha => by
 unfold GS.alike at ha
 rw [List.all_eq_true] at ha
 exact h (of_decide_eq_true (ha k (by simpa using hk)))
theorem GS.at_l {G : GS} {i : Nat} {m : MS} (hm : G.ms[i]? = some m) : G.leader i = m.x.leader ∧ G.term i = m.x.g.term ∧ G.role (i : Int) = m.x.role := by
 unfold GS.leader GS.term GS.role
 rw [if_pos (by omega), Int.toNat_natCast, hm]
 exact ⟨rfl, rfl, rfl⟩
theorem Ql9 {R : Hp} {w : GV} {G : GS} (hl : w.cs.length = G.ms.length) (i : Int) : ∃ p, QTri prog 22 [.pointer (some ⟨w.g, 0, none⟩), .int .i64 i] R [grA w G, grB w, grS w] (.pointer p) ∧ QTri prog 38 [.pointer p] R [grA w G] (.int .i64 (G.role i)) := by
 by_cases h : 0 ≤ i ∧ i < G.ms.length
 ·obtain ⟨i, rfl⟩ := Int.eq_ofNat_of_zero_le h.1
  obtain ⟨m, hm⟩ : ∃ m, G.ms[i]? = some m := ⟨_, List.getElem?_eq_getElem (by omega)⟩
  obtain ⟨c, hc⟩ : ∃ c, w.cs[i]? = some c := ⟨_, List.getElem?_eq_getElem (by omega)⟩
  exact ⟨_, jF hc hm, by rw [(GS.at_l hm).2.2]; exact Ql8 hc hm⟩
 ·refine ⟨none, (Qjc w i (by omega)).split (F := [grA w G]) sp_, ?_⟩
  have e : G.role i = 0 := by
   unfold GS.role
   by_cases h0 : 0 ≤ i
   ·rw [if_pos h0, List.getElem?_eq_none (by omega)]
   ·rw [if_neg h0]
  rw [e]
  exact ndNoRole_q.split (F := [grA w G]) sp_
theorem Ql0 {R : Hp} (w : GV) (G : GS) (n : Nat) (hl : w.cs.length = G.ms.length) (hn : 0 < n ∧ n ≤ G.ms.length) (hn9 : n ≤ 9) : QTri prog 36 [.pointer (some ⟨w.g, 0, none⟩), .int .i64 (n : Int)] R [grA w G, grB w, grS w] (QF [.int .i64 (G.leads n).1, .bool (G.leads n).2]) := by
 obtain ⟨m0, hm0⟩ : ∃ m, G.ms[0]? = some m := ⟨_, List.getElem?_eq_getElem (by omega)⟩
 obtain ⟨c0, hc0⟩ : ∃ c, w.cs[0]? = some c := ⟨_, List.getElem?_eq_getElem (by omega)⟩
 obtain ⟨l0, t0, _⟩ := GS.at_l hm0
 have hnd0 := jF (R := R) (i := 0) hc0 hm0
 obtain ⟨pw, hpw, hpr⟩ := Ql9 (R := R) hl (G.leader 0)
 refine Tri.q ?_
 refine Qn func36 rfl ntmps36 rfl (fun σ F Q hret hend hpan => ?_)
 try simp only [cB]
 refine Qd fun K1 hK1 => Qc (Ps (Ps (Qe (hK1 _ _ _ (Qd fun K2 hK2 => Qc ?_)))))
 refine Pm ?_
 refine Pa (Ca call22 (hnd0)) ?_
 refine Pa (Ca call58 ((QdR hc0 hm0).eq3 (by rw [← l0]))) (Ps (Qe (hK2 _ _ _ (Qd fun K3 hK3 => Qd fun K4 hK4 => Qc ?_))))
 refine Pm (Pm (Qe (hK4 _ _ _ (Qp ?_))))
 refine Ql (E' := (fun (x : Nat) => [(0, .pointer (some ⟨w.g, 0, none⟩)), (6, .int .i64 (G.leader 0)), (12, .int .i64 (n : Int)), (13, .int .i64 (x : Int))]) 0) (eC rfl (eC rfl (eC rfl (eC rfl eN)))) ?_
 refine Xi (M := (fun (x : Nat) => grA w G :: grB w :: grS w :: F) 0) sb_ ?_
 refine QY (fun (x : Nat) => [(0, .pointer (some ⟨w.g, 0, none⟩)), (6, .int .i64 (G.leader 0)), (12, .int .i64 (n : Int)), (13, .int .i64 (x : Int))]) (fun (x : Nat) => R) (fun (x : Nat) => grA w G :: grB w :: grS w :: F) (fun (x : Nat) => x ≤ n ∧ G.alike x = true) (fun (x : Nat) => n - x) 0 (⟨by omega, rfl⟩) ?_
 rintro k ⟨hk, ha⟩
 try dsimp only
 refine Qd fun K5 hK5 => Qc ?_
 refine Pa (QO rfl rfl) (Qe (hK5 _ _ _ (Qd fun K6 hK6 => ?_)))
 refine Qm rfl (fun hc14 => ?_) (fun hc14 => ?_)
 try simp only [dx] at hc14
 refine Qj (hK6 _ _ _ (Qd fun K8 hK8 => Qp (Qd fun K9 hK9 => Qc (Pm (Ps (Qe (hK9 _ _ _ (Qd fun K10 hK10 => ?_))))))))
 have hk2 : k < n := by (try simp at hc14); omega
 obtain ⟨m, hm⟩ : ∃ m, G.ms[k]? = some m := ⟨_, List.getElem?_eq_getElem (by omega)⟩
 obtain ⟨c, hc⟩ : ∃ c, w.cs[k]? = some c := ⟨_, List.getElem?_eq_getElem (by omega)⟩
 obtain ⟨lk, tk, _⟩ := GS.at_l hm
 refine Qc (Pm (Pm ?_))
 refine Pa (Ca call22 (jF hc hm)) (Ps (Qe (hK10 _ _ _ (Qd fun K11 hK11 => Qc ?_))))
 refine Pm ?_
 refine Pa (Ca call58 ((QdR hc hm).eq3 (by rw [← lk]))) (Pm ?_)
 refine Pa (XU rfl rfl) (Pm ?_)
 refine QE 23 rfl (fun hg23 => ?_) (fun hg23 => ?_)
 try simp only [dx] at hg23
 refine Pk (Pk (Pk (Pk (Pk (Pk (Pk (Pk ?_)))))))
 refine Pa (Qr rfl rfl) (Qe (hK11 _ _ _ ?_))
 refine Ql (eL 0 rfl (eL 6 rfl (eL 12 rfl (eL 13 rfl (eL 32 rfl eN))))) ?_
 refine Qv rfl (Qd fun K12 hK12 => Qc (Ps (Ps (Qe (hK12 _ _ _ (Qi (hret _ _ _ ?_)))))))
 refine Ea results36 (.cons (Qh rfl) (.cons (Qh rfl) .nil)) [grA w G, grB w, grS w] le_ ?_
 have hno : ¬ (G.leader k = G.leader 0 ∧ G.term k = G.term 0) := by simp_all
 rw [show G.leads n = (-1, false) by unfold GS.leads; rw [if_neg (QfK hk2 hno)]]; exact ⟨rfl, rfl, rfl⟩
 try simp only [dx] at hg23
 refine Pb (Qg rfl) ?_
 refine Pb (Ca call23 (QcB hc hm)) ?_
 refine Pb (Ca call24 ((Qdg hc hm).eq3 (by rw [← tk]))) ?_
 refine Pb (Qg rfl) ?_
 refine Pb (Ca call22 (hnd0)) ?_
 refine Pb (Ca call23 (QcB hc0 hm0)) ?_
 refine Pb (Ca call24 ((Qdg hc0 hm0).eq3 (by rw [← t0]))) ?_
 refine Pb (XU rfl rfl) ?_
 refine Pa (Qo rfl rfl) (Qe (hK11 _ _ _ ?_))
 refine Qm rfl (fun hc32 => ?_) (fun hc32 => ?_)
 try simp only [dx] at hc32
 refine Qd fun K14 hK14 => Qc (Ps (Ps (Qe (hK14 _ _ _ (Qi (hret _ _ _ ?_))))))
 refine Ea results36 (.cons (Qh rfl) (.cons (Qh rfl) .nil)) [grA w G, grB w, grS w] le_ ?_
 have hno : ¬ (G.leader k = G.leader 0 ∧ G.term k = G.term 0) := by simp_all
 rw [show G.leads n = (-1, false) by unfold GS.leads; rw [if_neg (QfK hk2 hno)]]; exact ⟨rfl, rfl, rfl⟩
 try simp only [dx] at hc32
 refine Qj (hK8 _ _ _ (Qc ?_))
 refine Pa (Qt rfl rfl om_) (Pm (Qe ?_))
 refine Xl (q' := QS _ _ _ _ _ _ _) rfl ?_
 refine QC (k + 1) (⟨by omega, by rw [Qh6 ha]; simp_all⟩) (by omega) (eC rfl (eC rfl (eC rfl (eC rfl eN)))) rfl sb_
 try simp only [dx] at hc14
 refine QL (hK3 _ _ _ (Qd fun K15 hK15 => ?_))
 have hkn : k = n := by (try simp at hc14); omega
 have el : G.leads n = (G.leader 0, decide (¬ G.leader 0 = -1) && decide (G.role (G.leader 0) = 2)) := by unfold GS.leads; rw [if_pos (by rw [← hkn]; exact ha)]
 refine Qc (Pm (Pm ?_))
 refine Pa (XU rfl rfl) (Pm ?_)
 refine QE 37 rfl (fun hg37 => ?_) (fun hg37 => ?_)
 try simp only [dx] at hg37
 refine Pb (Qg rfl) ?_
 refine Pb (Qg rfl) ?_
 refine Pb (Ca call22 (hpw)) ?_
 refine Pb (Ca call38 (hpr)) ?_
 refine Pb (QB rfl rfl) ?_
 refine Pa (Qr rfl rfl) (Ps (Ps (Qe (hK15 _ _ _ ?_))))
 refine Ql (eL 4 rfl (eL 5 rfl eN)) ?_
 refine Qi (hret _ _ _ ?_)
 refine Ea results36 (.cons (Qh rfl) (.cons (Qh rfl) .nil)) [grA w G, grB w, grS w] le_ ?_
 refine ⟨?_, rfl, rfl⟩; rw [el]; simp_all [QF]
 try simp only [dx] at hg37
 refine Pk (Pk (Pk (Pk (Pk ?_))))
 refine Pa (Qo rfl rfl) (Ps (Ps (Qe (hK15 _ _ _ (Qi (hret _ _ _ ?_))))))
 refine Ea results36 (.cons (Qh rfl) (.cons (Qh rfl) .nil)) [grA w G, grB w, grS w] le_ ?_
 refine ⟨?_, rfl, rfl⟩; rw [el]; simp_all [QF]
def GS.drop (G : GS) (k : Int) : GS := { G with st := Zn G.st k }
def GS.twice (G : GS) (k : Int) : GS := { G with st := twL G.st G.last k, last := twN G.st G.last k }
def GS.outs (G : GS) : GS := { G with out := [] }
structure Bud (n C : Nat) (J : Nat → Nat → GS → Prop) : Prop where
 gw : ∀ c d G, J c d G → GW G
 ln : ∀ c d G, J c d G → G.ms.length = n
 le : ∀ c d G, J (c + 1) d G → J c d G
 le2 : ∀ c d G, J c (d + 1) G → J c d G
 tick : ∀ c d G i, i < n → J (c + 1) (d + 1) G → J c d (G.tick i)
 del : ∀ c d G k, J (c + 1) d G → J c d (G.deliver k)
 prop : ∀ c d G i cmd, i < n → cmd.length ≤ 100 → J (c + 1) (d + 1) G → J c d (G.propose i cmd).2
 comp : ∀ c d G i, i < n → J (c + 1) d G → J c d (G.compact i).2
 fuel : ∀ c d G i k, i < n → jg k → J (c + 1) d G → J c d (G.fuel i k)
 opens : ∀ (c d : Nat) (G : GS) (i : Nat) (m : MS) (k : Int), J (c + 1) d G → G.ms[i]? = some m → Qef m.D k
 crash : ∀ c d G i k, i < n → J (c + 1) d G → J c d (G.crash i k)
 drop : ∀ c d G k, J (c + 1) d G → J c d (G.drop k)
 twice : ∀ c d G k, J (c + 1) d G → J c d (G.twice k)
 last : ∀ c d G, J c d G → G.last + n * c ≤ n * C ∧ G.st.length + n * c ≤ n * C
 outs : ∀ c d G, J c d G → J c d G.outs
theorem Bud.les {n C : Nat} {J : Nat → Nat → GS → Prop} (h : Bud n C J) {G : GS} {d : Nat} : ∀ (k : Nat) {c : Nat}, J (c + k) d G → J c d G
 | 0, _, hj => hj
 | k + 1, c, hj => h.les k (h.le _ _ _ (by rw [show c + k + 1 = c + (k + 1) by omega]; exact hj))
theorem Bud.les2 {n C : Nat} {J : Nat → Nat → GS → Prop} (h : Bud n C J) {G : GS} {c : Nat} : ∀ (k : Nat) {d : Nat}, J c (d + k) G → J c d G
 | 0, _, hj => hj
 | k + 1, d, hj => h.les2 k (h.le2 _ _ _ (by rw [show d + k + 1 = d + (k + 1) by omega]; exact hj))
theorem Bud.leq {n C : Nat} {J : Nat → Nat → GS → Prop} (h : Bud n C J) {G : GS} {c c' d d' : Nat} (hc : c ≤ c') (hd : d ≤ d') (hj : J c' d' G) : J c d G :=
 h.les (c' - c) (h.les2 (d' - d) (by rw [show c + (c' - c) = c' by omega, show d + (d' - d) = d' by omega]; exact hj))
def GS.ticks (G : GS) (k : Nat) : GS := (List.range k).foldl GS.tick G
theorem jS (G : GS) (k : Nat) : G.ticks (k + 1) = (G.ticks k).tick k := by unfold GS.ticks; rw [List.range_succ, List.foldl_append]; rfl
def GS.del1 (G : GS) : GS := if G.st.length > 0 then G.deliver 0 else G
def GS.dels (G : GS) : Nat → GS
 | 0 => G
 | k + 1 => (G.dels k).del1
theorem QdW {G : GS} {k : Nat} (h : (G.dels k).st.length = 0) : ∀ j, G.dels (k + j) = G.dels k
 | 0 => rfl
 | j + 1 => by
  show (G.dels (k + j)).del1 = _
  rw [QdW h j]
  unfold GS.del1
  rw [if_neg (by omega)]
theorem Qb9 {G : GS} {k n : Nat} (hk : k ≤ n) (h : (G.dels k).st.length = 0) : G.dels n = G.dels k := by
 have := QdW h (n - k)
 rw [show k + (n - k) = n by omega] at this
 exact this
def GS.round (G : GS) (n : Nat) : GS := (G.ticks n).dels 200
def GS.rounds (G : GS) (n : Nat) : Nat → GS
 | 0 => G
 | k + 1 => (G.rounds n k).round n
theorem Bud.ticks {n C : Nat} {J : Nat → Nat → GS → Prop} (h : Bud n C J) {G : GS} {c d : Nat} : ∀ {k : Nat}, k ≤ n → J (c + k) (d + k) G → J c d (G.ticks k)
 | 0, _, hj => hj
 | k + 1, hk, hj => by
  rw [jS]
  exact h.tick _ _ _ _ (by omega) (h.ticks (c := c + 1) (d := d + 1) (by omega) (by rw [show c + 1 + k = c + (k + 1) by omega, show d + 1 + k = d + (k + 1) by omega]; exact hj))
theorem Bud.dels {n C : Nat} {J : Nat → Nat → GS → Prop} (h : Bud n C J) {G : GS} {d : Nat} : ∀ {k c : Nat}, J (c + k) d G → J c d (G.dels k)
 | 0, _, hj => hj
 | k + 1, c, hj => by
  have h1 := h.dels (k := k) (c := c + 1) (by rw [show c + 1 + k = c + (k + 1) by omega]; exact hj)
  show J c d (G.dels k).del1
  unfold GS.del1
  split
  ·exact h.del _ _ _ _ h1
  ·exact h.le _ _ _ h1
theorem Bud.round {n C : Nat} {J : Nat → Nat → GS → Prop} (h : Bud n C J) {G : GS} {c d : Nat} (hj : J (c + (n + 200)) (d + n) G) : J c d (G.round n) :=
 h.dels (h.ticks (Nat.le_refl n) (by rw [show c + 200 + n = c + (n + 200) by omega]; exact hj))
theorem Bud.rounds {n C : Nat} {J : Nat → Nat → GS → Prop} (h : Bud n C J) {G : GS} : ∀ {k c d : Nat}, J (c + k * (n + 200)) (d + k * n) G → J c d (G.rounds n k)
 | 0, c, d, hj => by simpa [GS.rounds] using hj
 | k + 1, c, d, hj => h.round (h.rounds (k := k) (by rw [show c + (n + 200) + k * (n + 200) = c + (k + 1) * (n + 200) by rw [Nat.add_mul]; omega, show d + n + k * n = d + (k + 1) * n by rw [Nat.add_mul]; omega]; exact hj))
theorem QeM {R : Hp} (w : GV) (G : GS) (n r c d C : Nat) {J : Nat → Nat → GS → Prop} (hB : Bud n C J) (hn : 0 < n ∧ n ≤ 9) (hr : r ≤ 1000) (hok : GOk R w G) (hj : J (c + r * (n + 200)) (d + r * n) G) :
  Tri prog 13 [.pointer (some ⟨w.g, 0, none⟩), .int .i64 (n : Int), .int .i64 (r : Int)] R (grL w G)
   (fun x R' L' => x = QF [.int .i64 ((G.rounds n r).leads n).1, .bool ((G.rounds n r).leads n).2] ∧ GrP w (G.rounds n r) R' L') := by
 refine Qn func13 rfl ntmps13 rfl (fun σ F Q hret hend hpan => ?_)
 try simp only [cB]
 refine Qd fun K1 hK1 => Qc (Ps (Ps (Qe (hK1 _ _ _ (Qd fun K2 hK2 => Qd fun K3 hK3 => Qc ?_)))))
 refine Pm (Pm (Qe (hK3 _ _ _ (Qp ?_))))
 refine Ql (E' := (fun (x : Nat × GV × Hp) => [(0, .pointer (some ⟨w.g, 0, none⟩)), (1, .int .i64 (n : Int)), (10, .int .i64 (r : Int)), (11, .int .i64 (x.1 : Int))]) (0, w, R)) (eC rfl (eC rfl (eC rfl (eC rfl eN)))) ?_
 refine Xi (M := (fun (x : Nat × GV × Hp) => grL x.2.1 (G.rounds n x.1) ++ F) (0, w, R)) sb_ ?_
 refine QY (fun (x : Nat × GV × Hp) => [(0, .pointer (some ⟨w.g, 0, none⟩)), (1, .int .i64 (n : Int)), (10, .int .i64 (r : Int)), (11, .int .i64 (x.1 : Int))]) (fun (x : Nat × GV × Hp) => x.2.2) (fun (x : Nat × GV × Hp) => grL x.2.1 (G.rounds n x.1) ++ F) (fun (x : Nat × GV × Hp) => x.1 ≤ r ∧ (∃ vn css vo cs, x.2.1 = ⟨w.g, w.va, w.n, vn, css, vo, cs⟩) ∧ GOk x.2.2 x.2.1 (G.rounds n x.1) ∧ J (c + (r - x.1) * (n + 200)) (d + (r - x.1) * n) (G.rounds n x.1) ∧ R.le x.2.2) (fun (x : Nat × GV × Hp) => r - x.1) (0, w, R) (⟨by simp, ⟨_, _, _, _, rfl⟩, hok, by simpa [GS.rounds] using hj, Hp.le_refl _⟩) ?_
 rintro ⟨k, w1, R1⟩ ⟨hk, hg1, hok1, hj1, hR1⟩
 try dsimp only
 dsimp only at hk hg1 hok1 hj1 hR1
 obtain ⟨vn1, css1, vo1, cs1, rfl⟩ := hg1
 refine Qd fun K4 hK4 => Qc ?_
 refine Pa (QO rfl rfl) (Qe (hK4 _ _ _ (Qd fun K5 hK5 => ?_)))
 refine Qm rfl (fun hc12 => ?_) (fun hc12 => ?_)
 try simp only [dx] at hc12
 refine Qj (hK5 _ _ _ (Qd fun K7 hK7 => Qp (Qd fun K8 hK8 => Qd fun K9 hK9 => ?_)))
 have hk2 : k < r := by (try simp at hc12); omega
 have hj2 : J (c + (r - (k + 1)) * (n + 200) + 200 + n) (d + (r - (k + 1)) * n + n) (G.rounds n k) := by rw [show c + (r - (k + 1)) * (n + 200) + 200 + n = c + (r - k) * (n + 200) by rw [show r - k = (r - (k + 1)) + 1 by omega, Nat.add_mul]; omega, show d + (r - (k + 1)) * n + n = d + (r - k) * n by rw [show r - k = (r - (k + 1)) + 1 by omega, Nat.add_mul]; omega]; exact hj1
 obtain ⟨cc, hcc⟩ : ∃ cc, cc = c + (r - (k + 1)) * (n + 200) := ⟨_, rfl⟩
 obtain ⟨dd, hdd⟩ : ∃ dd, dd = d + (r - (k + 1)) * n := ⟨_, rfl⟩
 rw [← hcc, ← hdd] at hj2
 obtain ⟨G1, hG1⟩ : ∃ G1, G1 = G.rounds n k := ⟨_, rfl⟩
 rw [← hG1] at hj2 hok1 ⊢
 refine Qc (Pm (Pm (Qe (hK9 _ _ _ (Qp ?_)))))
 refine Ql (E' := (fun (y : Nat × GV × Hp) => [(0, .pointer (some ⟨w.g, 0, none⟩)), (1, .int .i64 (n : Int)), (10, .int .i64 (r : Int)), (11, .int .i64 (k : Int)), (13, .int .i64 (n : Int)), (14, .int .i64 (y.1 : Int))]) (0, ⟨w.g, w.va, w.n, vn1, css1, vo1, cs1⟩, R1)) (eC rfl (eC rfl (eC rfl (eC rfl (eC rfl (eC rfl eN)))))) ?_
 refine Xi (M := (fun (y : Nat × GV × Hp) => grL y.2.1 (G1.ticks y.1) ++ F) (0, ⟨w.g, w.va, w.n, vn1, css1, vo1, cs1⟩, R1)) sb_ ?_
 refine QY (fun (y : Nat × GV × Hp) => [(0, .pointer (some ⟨w.g, 0, none⟩)), (1, .int .i64 (n : Int)), (10, .int .i64 (r : Int)), (11, .int .i64 (k : Int)), (13, .int .i64 (n : Int)), (14, .int .i64 (y.1 : Int))]) (fun (y : Nat × GV × Hp) => y.2.2) (fun (y : Nat × GV × Hp) => grL y.2.1 (G1.ticks y.1) ++ F) (fun (y : Nat × GV × Hp) => y.1 ≤ n ∧ (∃ vn css vo cs, y.2.1 = ⟨w.g, w.va, w.n, vn, css, vo, cs⟩) ∧ GOk y.2.2 y.2.1 (G1.ticks y.1) ∧ R1.le y.2.2) (fun (y : Nat × GV × Hp) => n - y.1) (0, ⟨w.g, w.va, w.n, vn1, css1, vo1, cs1⟩, R1) (⟨by simp, ⟨_, _, _, _, rfl⟩, hok1, Hp.le_refl _⟩) ?_
 rintro ⟨j, w2, R2⟩ ⟨hj3, hg2, hok2, hR2⟩
 try dsimp only
 dsimp only at hj3 hg2 hok2 hR2
 obtain ⟨vn2, css2, vo2, cs2, rfl⟩ := hg2
 refine Qd fun K10 hK10 => Qc ?_
 refine Pa (QO rfl rfl) (Qe (hK10 _ _ _ (Qd fun K11 hK11 => ?_)))
 refine Qm rfl (fun hc15 => ?_) (fun hc15 => ?_)
 try simp only [dx] at hc15
 refine Qj (hK11 _ _ _ (Qd fun K13 hK13 => Qp (Qd fun K14 hK14 => ?_)))
 have hj4 : j < n := by (try simp at hc15); omega
 have hjt := hB.ticks (c := cc + 200 + (n - j)) (d := dd + (n - j)) (k := j) (by omega) (by rw [show cc + 200 + (n - j) + j = cc + 200 + n by omega, show dd + (n - j) + j = dd + n by omega]; exact hj2)
 have hjt2 := hB.tick (cc + 200 + (n - (j + 1))) (dd + (n - (j + 1))) _ j hj4 (by rw [show cc + 200 + (n - (j + 1)) + 1 = cc + 200 + (n - j) by omega, show dd + (n - (j + 1)) + 1 = dd + (n - j) by omega]; exact hjt)
 refine Qc (Pm (Ps (Qe (hK14 _ _ _ (Qc (Pm (Pm ?_)))))))
 refine Ra call26 (Qfj ⟨w.g, w.va, w.n, vn2, css2, vo2, cs2⟩ (G1.ticks j) j hok2 (by rw [hB.ln _ _ _ hjt]; exact hj4) (hB.gw _ _ _ hjt) (hB.gw _ _ _ hjt2)) ?_
 rintro x R4 L' hR4 ⟨vn4, css4, vo4, cs4, hok4, rfl⟩
 rw [← jS]
 try simp only [cB]
 refine Qe (hK13 _ _ _ (Qc ?_))
 refine Pa (Qt rfl rfl om_) (Pm (Qe ?_))
 refine Xl (q' := QS _ _ _ _ _ _ _) rfl ?_
 refine QC ((j + 1, ⟨w.g, w.va, w.n, vn4, css4, vo4, cs4⟩, R4)) (⟨by dsimp only; omega, ⟨_, _, _, _, rfl⟩, by dsimp only; rw [jS]; exact hok4, Hp.le_trans hR2 hR4⟩) (by dsimp only; omega) (eC rfl (eC rfl (eC rfl (eC rfl (eC rfl (eC rfl eN)))))) rfl sb_
 try simp only [dx] at hc15
 refine QL (hK8 _ _ _ (Qd fun K15 hK15 => ?_))
 have hjn0 : j = n := by (try simp at hc15); omega
 have hjt := hB.ticks (c := cc + 200) (d := dd) (k := n) (Nat.le_refl n) hj2
 rw [hjn0] at hok2 ⊢
 obtain ⟨G2, hG2⟩ : ∃ G2, G2 = G1.ticks n := ⟨_, rfl⟩
 rw [← hG2] at hjt hok2 ⊢
 refine Qc (Ps (Qe (hK15 _ _ _ (Qp ?_))))
 refine Ql (E' := (fun (z : Nat × GV × Hp) => [(0, .pointer (some ⟨w.g, 0, none⟩)), (1, .int .i64 (n : Int)), (9, .int .i64 (z.1 : Int)), (10, .int .i64 (r : Int)), (11, .int .i64 (k : Int))]) (0, ⟨w.g, w.va, w.n, vn2, css2, vo2, cs2⟩, R2)) (eC rfl (eC rfl (eC rfl (eC rfl (eC rfl eN))))) ?_
 refine Xi (M := (fun (z : Nat × GV × Hp) => grL z.2.1 (G2.dels z.1) ++ F) (0, ⟨w.g, w.va, w.n, vn2, css2, vo2, cs2⟩, R2)) sb_ ?_
 refine QY (fun (z : Nat × GV × Hp) => [(0, .pointer (some ⟨w.g, 0, none⟩)), (1, .int .i64 (n : Int)), (9, .int .i64 (z.1 : Int)), (10, .int .i64 (r : Int)), (11, .int .i64 (k : Int))]) (fun (z : Nat × GV × Hp) => z.2.2) (fun (z : Nat × GV × Hp) => grL z.2.1 (G2.dels z.1) ++ F) (fun (z : Nat × GV × Hp) => z.1 ≤ 200 ∧ (∃ vn css vo cs, z.2.1 = ⟨w.g, w.va, w.n, vn, css, vo, cs⟩) ∧ GOk z.2.2 z.2.1 (G2.dels z.1) ∧ R2.le z.2.2) (fun (z : Nat × GV × Hp) => 200 - z.1) (0, ⟨w.g, w.va, w.n, vn2, css2, vo2, cs2⟩, R2) (⟨by simp, ⟨_, _, _, _, rfl⟩, hok2, Hp.le_refl _⟩) ?_
 rintro ⟨q, w3, R3⟩ ⟨hq, hg3, hok3, hR3⟩
 try dsimp only
 dsimp only at hq hg3 hok3 hR3
 obtain ⟨vn3, css3, vo3, cs3, rfl⟩ := hg3
 refine Qd fun K16 hK16 => Qd fun K17 hK17 => Qc (Pm ?_)
 refine Pa (QO rfl rfl) (Pm ?_)
 refine QE 23 rfl (fun hg23 => ?_) (fun hg23 => ?_)
 try simp only [dx] at hg23
 refine Pb (Qg rfl) ?_
 refine Pb (Ca call28 (zj ⟨w.g, w.va, w.n, vn3, css3, vo3, cs3⟩)) ?_
 refine Pb (Ca call29 (zw w.n vn3 (G2.dels q).last (G2.dels q).st css3)) ?_
 refine Pb (Xs rfl rfl) ?_
 refine Pa (Qr rfl rfl) (Qe (hK17 _ _ _ ?_))
 refine Ql (eL 0 rfl (eL 1 rfl (eL 9 rfl (eL 10 rfl (eL 11 rfl (eL 28 rfl eN)))))) ?_
 refine Qm rfl (fun hc28 => ?_) (fun hc28 => ?_)
 try simp only [dx] at hc28
 refine Qj (hK16 _ _ _ (Qd fun K19 hK19 => Qp ?_))
 have hq2 : q < 200 := by (try simp at hg23); omega
 have hln : (G2.dels q).st.length > 0 := by (try simp at hc28); omega
 have hd1 : (G2.dels q).deliver 0 = G2.dels (q + 1) := by show _ = (G2.dels q).del1; unfold GS.del1; rw [if_pos hln]
 have hjd := hB.dels (c := cc + (200 - q)) (k := q) (by rw [show cc + (200 - q) + q = cc + 200 by omega]; exact hjt)
 have hjd2 := hB.del (cc + (200 - (q + 1))) dd _ 0 (by rw [show cc + (200 - (q + 1)) + 1 = cc + (200 - q) by omega]; exact hjd)
 refine Qc (Pm ?_)
 refine Ra call31 (jh ⟨w.g, w.va, w.n, vn3, css3, vo3, cs3⟩ (G2.dels q) 0 hok3 (hB.gw _ _ _ hjd) (hB.gw _ _ _ hjd2)) ?_
 rintro x R5 L' hR5 ⟨rfl, vn5, css5, vo5, cs5, hok5, rfl⟩
 rw [hd1]
 try simp only [cB]
 refine Qe (hK19 _ _ _ (Qc (Pm ?_)))
 refine Pa (Qt rfl rfl om_) (Ps (Qe ?_))
 refine Xl (q' := QS _ _ _ _ _ _ _) rfl ?_
 refine QC ((q + 1, ⟨w.g, w.va, w.n, vn5, css5, vo5, cs5⟩, R5)) (⟨by dsimp only; omega, ⟨_, _, _, _, rfl⟩, by dsimp only; rw [hd1] at hok5; exact hok5, Hp.le_trans hR3 hR5⟩) (by dsimp only; omega) (eC rfl (eC rfl (eC rfl (eC rfl (eC rfl eN))))) rfl sb_
 try simp only [dx] at hc28
 refine QL (hK7 _ _ _ ?_)
 have hfin : G2.dels q = G2.dels 200 := by first | (exact (Qb9 (by omega) (by omega)).symm) | (rw [show q = 200 by omega])
 have hrd : G2.dels 200 = G.rounds n (k + 1) := by rw [hG2, hG1]; rfl
 have hjn : J (c + (r - (k + 1)) * (n + 200)) (d + (r - (k + 1)) * n) (G.rounds n (k + 1)) := by rw [← hrd, ← hcc, ← hdd]; exact hB.dels hjt
 rw [hfin, hrd] at hok3 ⊢
 refine Qc ?_
 refine Pa (Qt rfl rfl om_) (Pm (Qe ?_))
 refine Xl (q' := QS _ _ _ _ _ _ _) rfl ?_
 refine QC ((k + 1, ⟨w.g, w.va, w.n, vn3, css3, vo3, cs3⟩, R3)) (⟨by dsimp only; omega, ⟨_, _, _, _, rfl⟩, hok3, by dsimp only; exact hjn, Hp.le_trans hR1 (Hp.le_trans hR2 hR3)⟩) (by dsimp only; omega) (eC rfl (eC rfl (eC rfl (eC rfl eN)))) rfl sb_
 try simp only [dx] at hg23
 refine Pk (Pk (Pk (Pk ?_)))
 refine Pa (Qo rfl rfl) (Qe (hK17 _ _ _ (Qs rfl (QL (hK7 _ _ _ ?_)))))
 have hfin : G2.dels q = G2.dels 200 := by first | (exact (Qb9 (by omega) (by omega)).symm) | (rw [show q = 200 by omega])
 have hrd : G2.dels 200 = G.rounds n (k + 1) := by rw [hG2, hG1]; rfl
 have hjn : J (c + (r - (k + 1)) * (n + 200)) (d + (r - (k + 1)) * n) (G.rounds n (k + 1)) := by rw [← hrd, ← hcc, ← hdd]; exact hB.dels hjt
 rw [hfin, hrd] at hok3 ⊢
 refine Qc ?_
 refine Pa (Qt rfl rfl om_) (Pm (Qe ?_))
 refine Xl (q' := QS _ _ _ _ _ _ _) rfl ?_
 refine QC ((k + 1, ⟨w.g, w.va, w.n, vn3, css3, vo3, cs3⟩, R3)) (⟨by dsimp only; omega, ⟨_, _, _, _, rfl⟩, hok3, by dsimp only; exact hjn, Hp.le_trans hR1 (Hp.le_trans hR2 hR3)⟩) (by dsimp only; omega) (eC rfl (eC rfl (eC rfl (eC rfl eN)))) rfl sb_
 try simp only [dx] at hc12
 refine QL (hK2 _ _ _ (Qd fun K20 hK20 => ?_))
 have hkr : k = r := by (try simp at hc12); omega
 have hms := hB.ln _ _ _ hj1
 rw [hkr] at hok1 hms ⊢
 refine Qc (Pm (Pm ?_))
 refine Pa (Ca call36 (Ql0 ⟨w.g, w.va, w.n, vn1, css1, vo1, cs1⟩ (G.rounds n r) n hok1.len (by rw [hms]; omega) hn.2)) ?_
 refine Pa (Qq rfl rfl) ?_
 refine Pa (Qq rfl rfl) (Ps (Ps (Qe (hK20 _ _ _ ?_))))
 refine Ql (eL 6 rfl (eL 7 rfl eN)) ?_
 refine Qi (hret _ _ _ ?_)
 apply XL results13 (.cons (Qh rfl) (.cons (Qh rfl) .nil)) _ (grL ⟨w.g, w.va, w.n, vn1, css1, vo1, cs1⟩ (G.rounds n r)) hR1 rfl
 case hp => exact ⟨rfl, vn1, css1, vo1, cs1, hok1, rfl⟩
 case hS => exact sb_
theorem QbD {R : Hp} (w : GV) (G : GS) (hok : GOk R w G) : Tri prog 15 [.pointer (some ⟨w.g, 0, none⟩)] R (grL w G)
  (fun r R' L' => r = w.vo ∧ R' = R ∧ ∃ vn css vo cs, GOk R' ⟨w.g, w.va, w.n, vn, css, vo, cs⟩ G.outs ∧ L' = grL ⟨w.g, w.va, w.n, vn, css, vo, cs⟩ G.outs ++ [ocS w.vo G.out]) := by
 refine Qn func15 rfl ntmps15 rfl (fun σ F Q hret hend hpan => ?_)
 try simp only [cB]
 refine Qd fun K1 hK1 => Qc (Ps (Qe (hK1 _ _ _ (Qd fun K2 hK2 => Qd fun K3 hK3 => Qc ?_))))
 refine Pm ?_
 refine Pa (XV underlying26 rfl rfl) (Qe (hK3 _ _ _ (Qs rfl (Qj (hK2 _ _ _ (Qd fun K4 hK4 => Qc ?_))))))
 refine Pm ?_
 refine Pa (Qf rfl) ?_
 refine Pa (Ga underlying90 sizeOf34) ?_
 refine Pa (La o34) (Ps (Qe (hK4 _ _ _ (Qd fun K5 hK5 => Qc ?_))))
 refine Pm ?_
 refine Pa (Qf rfl) ?_
 refine Pa (Ga underlying90 sizeOf34) ?_
 refine Sa o34 ?_
 refine YR (A := ocS (.slice none 0 0) []) (Yr _ _) ?_
 refine Qe (hK5 _ _ _ (Qd fun K6 hK6 => Qc (Pm (Ps (Qe (hK6 _ _ _ (Qi (hret _ _ _ ?_))))))))
 refine Ea results15 (.cons (Qh rfl) .nil) (grL ⟨w.g, w.va, w.n, w.vn, w.css, .slice none 0 0, w.cs⟩ G.outs ++ [ocS w.vo G.out]) le_ ?_
 exact ⟨rfl, rfl, w.vn, w.css, .slice none 0 0, w.cs, ⟨hok.len, hok.nd, hok.els⟩, rfl⟩
theorem Qen {cs : List MV} {ms : List MS} {i : Nat} {c : MV} {m : MS} (hc : cs[i]? = some c) (hm : ms[i]? = some m) : ∀ h, Yn (ZX cs ms) h → ∃ q cap, c.vl = .slice q m.l.length cap := fun h k => by
 obtain ⟨h1, h2, _, _, _, d, _⟩ := Qca (yu hc hm) h k
 obtain ⟨_, h3, _, _, _, _, e⟩ := d
 obtain ⟨_, h4, _, _, _, _, e⟩ := e
 obtain ⟨h5, _, _, _, _, f, _⟩ := e
 obtain ⟨q, cap, hq, _⟩ := qP _ f
 exact ⟨q, cap, hq⟩
structure AwOK (t : Int) : Prop where
 l1 : ((GS.new 3).rounds 3 60).leads 3 = (0, true)
 p : (((GS.new 3).rounds 3 60).propose 0 [97]).1 = (2, t)
 t0 : t > 0
 l2 : ((((GS.new 3).rounds 3 60).propose 0 [97]).2.rounds 3 10).leads 3 = (0, true)
 o : ((((GS.new 3).rounds 3 60).propose 0 [97]).2.rounds 3 10).out.length = 3
 d : ∀ m, ((((GS.new 3).rounds 3 60).propose 0 [97]).2.rounds 3 10).ms[0]? = some m → m.l.length = 1
 a : ∀ m, ((((GS.new 3).rounds 3 60).propose 0 [97]).2.rounds 3 10).ms[1]? = some m → m.ap = 2
theorem Qjp {R : Hp} {C c d : Nat} {J : Nat → Nat → GS → Prop} (hB : Bud 3 C J) (hj : J (c + 10 * (3 + 200) + 1 + 60 * (3 + 200)) (d + 10 * 3 + 1 + 60 * 3) (GS.new 3)) (t : Int) (ha : AwOK t) : Tri prog 9 [] R [] (fun v R' L' => v = .bool true ∧ L' = []) := by
 have hj1 := hB.rounds (k := 60) (c := c + 10 * (3 + 200) + 1) (d := d + 10 * 3 + 1) hj
 have hj2 := hB.prop _ _ _ 0 [97] (by omega) (by decide) hj1
 have hj3 := hB.rounds (k := 10) (c := c) (d := d) hj2
 have h1 := ha.l1
 have h2 := ha.p
 have h3 := ha.l2
 have h4 := ha.o
 have h5 := ha.d
 have h6 := ha.a
 have ht := ha.t0
 have hw1 := hB.gw _ _ _ hj1
 have hw2 := hB.gw _ _ _ hj2
 obtain ⟨G1, hG1⟩ : ∃ G1, G1 = (GS.new 3).rounds 3 60 := ⟨_, rfl⟩
 rw [← hG1] at h1 h2 h3 h4 h5 h6 hj1 hj2 hj3 hw1 hw2
 obtain ⟨G2, hG2⟩ : ∃ G2, G2 = (G1.propose 0 [97]).2 := ⟨_, rfl⟩
 rw [← hG2] at h3 h4 h5 h6 hj2 hj3 hw2
 obtain ⟨G3, hG3⟩ : ∃ G3, G3 = G2.rounds 3 10 := ⟨_, rfl⟩
 rw [← hG3] at h3 h4 h5 h6 hj3
 have hn1 := hB.ln _ _ _ hj1
 have hn3 := hB.ln _ _ _ hj3
 obtain ⟨m0, hm0⟩ : ∃ m, G3.outs.ms[0]? = some m := ⟨_, List.getElem?_eq_getElem (by show 0 < G3.ms.length; omega)⟩
 obtain ⟨m1, hm1⟩ : ∃ m, G3.outs.ms[1]? = some m := ⟨_, List.getElem?_eq_getElem (by show 1 < G3.ms.length; omega)⟩
 have h5 := h5 m0 hm0
 have h6 := h6 m1 hm1
 refine Qn func9 rfl ntmps9 rfl (fun σ F Q hret hend hpan => ?_)
 try simp only [cB]
 refine Ql eN ?_
 refine Qd fun K1 hK1 => Qc (Ps (Qe (hK1 _ _ _ (Qd fun K2 hK2 => Qc ?_))))
 refine Ra call19 (QgK 3 (by decide)) ?_
 rintro r R1 L' hR1 ⟨w, rfl, hok, rfl⟩
 try simp only [cB]
 refine Pm ?_
 refine Pa (Qq rfl rfl) ?_
 refine Pa (Qq rfl rfl) (Ps (Ps (Qe (hK2 _ _ _ (Qd fun K3 hK3 => Qd fun K4 hK4 => Qc ?_)))))
 refine Pm ?_
 refine Pa ((Yld.to (u := .bool false) (XU rfl rfl) (by simp))) (Pm ?_)
 refine Pb (Qg rfl) ?_
 refine Pb (Ca call28 ((zj w))) ?_
 refine Pb (XV underlying66 rfl rfl) ?_
 refine Pa (Qo rfl rfl) (Qe (hK4 _ _ _ (Qs rfl (Qj (hK3 _ _ _ (Qd fun K5 hK5 => Qc ?_))))))
 refine Pm ?_
 refine Ra call13 (QeM w (GS.new 3) 3 60 (c + 10 * (3 + 200) + 1) (d + 10 * 3 + 1) C hB (by decide) (by decide) hok hj) ?_
 rintro r R2 L' hR2 ⟨rfl, vn2, css2, vo2, cs2, hok2, rfl⟩
 rw [← hG1] at hok2 ⊢
 rw [h1]
 dsimp only
 try simp only [cB]
 refine Pm ?_
 refine Pa (Qq rfl rfl) ?_
 refine Pa (Qq rfl rfl) (Ps (Ps (Qe (hK5 _ _ _ ?_))))
 refine Ql (eL 1 rfl (eL 3 rfl (eL 4 rfl eN))) ?_
 refine Qd fun K6 hK6 => Qc (Pm (Pm ?_))
 refine Ra call16 (QbC ⟨w.g, w.va, w.n, vn2, css2, vo2, cs2⟩ G1 0 [97] (by decide) hok2 (by omega) hw1 (by rw [← hG2]; exact hw2)) ?_
 rintro r R3 L' hR3 ⟨rfl, vn3, css3, vo3, cs3, hok3, rfl⟩
 rw [← hG2] at hok3 ⊢
 rw [h2]
 dsimp only
 try simp only [cB]
 refine Pm ?_
 refine Pa (Qq rfl rfl) ?_
 refine Pa (Qq rfl rfl) (Ps (Ps (Qe (hK6 _ _ _ (Qd fun K7 hK7 => Qc ?_)))))
 refine Pm ?_
 refine Ra call13 (QeM ⟨w.g, w.va, w.n, vn3, css3, vo3, cs3⟩ G2 3 10 c d C hB (by decide) (by decide) hok3 hj2) ?_
 rintro r R4 L' hR4 ⟨rfl, vn4, css4, vo4, cs4, hok4, rfl⟩
 rw [← hG3] at hok4 ⊢
 rw [h3]
 dsimp only
 refine Qbf (A := ocS vo4 G3.out) fd_ qo (fun hvo4 => ?_)
 try simp only [cB]
 refine Pm ?_
 refine Pa (Qq rfl rfl) ?_
 refine Pa (Qq rfl rfl) (Ps (Ps (Qe (hK7 _ _ _ (Qd fun K8 hK8 => Qc ?_)))))
 refine Pm (Pm ?_)
 refine Pb (Qg rfl) ?_
 refine Pa (Qr rfl rfl) (Pm ?_)
 refine Pb (Qg rfl) ?_
 refine Pb ((Yld.to (u := .bool true) (QB rfl rfl) (by simp))) ?_
 refine Pa (Qr rfl rfl) (Pm ?_)
 refine Pb (Qg rfl) ?_
 refine Pb ((Yld.to (u := .bool true) (Xs rfl rfl) (by simp; omega))) ?_
 refine Pa (Qr rfl rfl) (Pm ?_)
 refine Pb (Qg rfl) ?_
 refine XE (wn1 rfl rfl rfl rfl) rfl call15 rfl (QbD ⟨w.g, w.va, w.n, vn4, css4, vo4, cs4⟩ G3 hok4) sp_ (fun _ _ _ _ h => h.elim) ?_
 rintro r R5 L' hR5 ⟨rfl, rfl, vn5, css5, vo5, cs5, hok5, rfl⟩
 obtain ⟨c0, hc0, _, _⟩ := hok5.at hm0
 obtain ⟨c1, hc1, _, _⟩ := hok5.at hm1
 refine Qbf (A := grA ⟨w.g, w.va, w.n, vn5, css5, vo5, cs5⟩ G3.outs) fd_ (Qen hc0 hm0) (fun hq => ?_)
 obtain ⟨q0, cap0, hq0⟩ := hq
 try simp only [cB]
 refine Pb (YE underlying34 rfl fd_) ?_
 refine Pb ((Yld.to (u := .bool true) (QB rfl rfl) (by rw [h4]; simp))) ?_
 refine Pa (Qr rfl rfl) (Pm ?_)
 refine Pb (Qg rfl) ?_
 refine Pb (Ca call17 ((QcC (w := ⟨w.g, w.va, w.n, vn5, css5, vo5, cs5⟩) (i := 0) hc0 hm0).eq3 hq0)) ?_
 refine Pb (QR underlying42 rfl) ?_
 refine Pb ((Yld.to (u := .bool true) (QB rfl rfl) (by rw [h5]; simp))) ?_
 refine Pa (Qr rfl rfl) (Pm ?_)
 refine Pb (Qg rfl) ?_
 refine Pb (Ca call18 ((QcE (w := ⟨w.g, w.va, w.n, vn5, css5, vo5, cs5⟩) (i := 1) hc1 hm1).eq3 (by rw [h6]))) ?_
 refine Pb ((Yld.to (u := .bool true) (QB rfl rfl) (by simp))) ?_
 refine Pa (Qr rfl rfl) (Ps (Qe (hK8 _ _ _ ?_)))
 refine Ql (eL 0 rfl eN) ?_
 refine Qi (hret _ _ _ ?_)
 refine Ea results9 (.cons (Qh rfl) .nil) [] (by exact Hp.le_trans hR1 (Hp.le_trans hR2 (Hp.le_trans hR3 hR4))) ?_
 exact ⟨rfl, rfl⟩
structure Ev where
 what : Int
 i : Int
 n : Int
 text : Bs
def evC (e : Ev) : List Value := [.int .i64 e.what, .int .i64 e.i, .int .i64 e.n, .string (str e.text)]
theorem Qdi {e : Ev} : ∀ u ∈ evC e, u.oneCell' = true := fun u hu => by
 simp only [evC, List.mem_cons, List.not_mem_nil, or_false] at hu
 rcases hu with rfl | rfl | rfl | rfl <;> rfl
def evE : Elt Ev where
 P := fun R e cs => cs = evC e
 sz := 4
 mono := fun hR h => h
 len := fun h => by subst h; rfl
 one := fun h u hu => by subst h; exact Qdi u hu
structure Ev.Bd (e : Ev) : Prop where
 what : jg e.what
 i : jg e.i
 n : jg e.n
structure Ev.sm (e : Ev) : Prop where
 text : e.text.length ≤ 100
 n : e.what = 0 ∨ e.what = 8 → 0 ≤ e.n ∧ e.n ≤ 60
theorem zs {α : Type} {p : α → Prop} {l : List α} {i : Nat} {x : α} (h : ∀ y ∈ l.take i, p y) (hx : l[i]? = some x) (hp : p x) : ∀ y ∈ l.take (i + 1), p y := fun y hy => by
 rw [List.take_add_one, hx] at hy
 rcases List.mem_append.1 hy with hy | hy
 ·exact h y hy
 ·simp at hy; subst hy; exact hp
theorem Qiq {R : Hp} (va : Value) (l : List Ev) (hva : FrX evE R l va) (n : Int) : Tri prog 10 [va, .int .i64 n] R []
  (fun x R' L' => (∃ s, x = .bool s ∧ (s = true → (l.length : Int) ≤ n ∧ ∀ a ∈ l, a.sm)) ∧ R' = R ∧ L' = []) := by
 obtain ⟨q, cap, rfl, hq1, hq2⟩ := hva.shape
 unfold maxLen at hq2
 refine Qn func10 rfl ntmps10 rfl (fun σ F Q hret hend hpan => ?_)
 try simp only [cB]
 refine Qd fun K1 hK1 => Qc (Ps (Qe (hK1 _ _ _ (Qd fun K2 hK2 => Qd fun K3 hK3 => Qc ?_))))
 refine Pm ?_
 refine Pa (QR underlying23 rfl) (Pm ?_)
 refine Pa (Xs rfl rfl) (Qe (hK3 _ _ _ ?_))
 refine Qm rfl (fun hc10 => ?_) (fun hc10 => ?_)
 try simp only [dx] at hc10
 refine Qd fun K5 hK5 => Qc (Ps (Qe (hK5 _ _ _ (Qi (hret _ _ _ ?_)))))
 refine Ea results10 (.cons (Qh rfl) .nil) [] le_ ?_
 first|(exact ⟨⟨true, rfl, fun _ => ⟨hlen, by rw [List.take_of_length_le (by (try simp at hc14); omega)] at hs; exact hs⟩⟩, rfl, rfl⟩)|exact ⟨⟨false, rfl, fun h => by cases h⟩, rfl, rfl⟩
 have hlen : (l.length : Int) ≤ n := by (try simp at hc10); omega
 refine Qj (hK2 _ _ _ (Qd fun K6 hK6 => Qd fun K7 hK7 => Qc (Pm ?_)))
 refine Pa (QR underlying23 rfl) (Pm (Qe (hK7 _ _ _ (Qp ?_))))
 refine Ql (E' := (fun (x1 : Nat) => [(11, .slice q l.length cap), (12, .int .i64 (l.length : Int)), (13, .int .i64 (x1 : Int))]) 0) (eC rfl (eC rfl (eC rfl eN))) ?_
 refine Xi (M := (fun (x1 : Nat) => F) 0) sb_ ?_
 refine QY (fun (x1 : Nat) => [(11, .slice q l.length cap), (12, .int .i64 (l.length : Int)), (13, .int .i64 (x1 : Int))]) (fun (x1 : Nat) => R) (fun (x1 : Nat) => F) (fun (x1 : Nat) => x1 ≤ l.length ∧ ∀ a ∈ l.take x1, a.sm) (fun (x1 : Nat) => l.length - x1) 0 (⟨by simp, fun l hl => by simp at hl⟩) ?_
 rintro i ⟨hi, hs⟩
 try dsimp only
 refine Qd fun K8 hK8 => Qc ?_
 refine Pa (QO rfl rfl) (Qe (hK8 _ _ _ (Qd fun K9 hK9 => ?_)))
 refine Qm rfl (fun hc14 => ?_) (fun hc14 => ?_)
 try simp only [dx] at hc14
 refine Qj (hK9 _ _ _ (Qd fun K11 hK11 => Qp (Qd fun K12 hK12 => ?_)))
 have hi2 : i < l.length := by (try simp at hc14); omega
 obtain ⟨a, ha⟩ : ∃ x, l[i]? = some x := ⟨_, List.getElem?_eq_getElem hi2⟩
 obtain ⟨be, oe, ce, cse, hee, rfl, _, hcell⟩ := hva.at ha
 obtain ⟨rfl, rfl⟩ : q = some ⟨be, oe, none⟩ ∧ cap = ce := by cases hee; exact ⟨rfl, rfl⟩
 refine Qc ?_
 refine Pa (Qy underlying23 sizeOf53 rfl rfl om_) ?_
 refine Pa ((XT m53 (vs := evC a) rfl rfl (fun j u hj => hcell j u hj))) ?_
 refine QA (wn0 rfl) rfl zeroValue53 rfl (fun b6 => ?_)
 refine Sm (vs := evC a) m53 Qdi ?_
 refine Qe (hK12 _ _ _ (Qd fun K13 hK13 => Qc ?_))
 refine Pa (Ga underlying53 sizeOf9) ?_
 refine Pa (La o9) ?_
 refine Pa (Yv underlying9 rfl) ?_
 refine Pa (Xs rfl rfl) (Pm ?_)
 refine QE 21 rfl (fun hg21 => ?_) (fun hg21 => ?_)
 try simp only [dx] at hg21
 refine Pk (Pk (Pk (Pk ?_)))
 refine QX (wn3 rfl rfl rfl rfl) rfl rfl ?_
 refine QX (wn3 rfl rfl rfl rfl) rfl rfl ?_
 refine QX (wn3 rfl rfl rfl rfl) rfl rfl ?_
 refine Pk (Pk ?_)
 refine QX (wn3 rfl rfl rfl rfl) rfl rfl ?_
 refine QX (wn3 rfl rfl rfl rfl) rfl rfl ?_
 refine QX (wn3 rfl rfl rfl rfl) rfl rfl ?_
 refine QX (wn3 rfl rfl rfl rfl) rfl rfl ?_
 refine QX (wn3 rfl rfl rfl rfl) rfl rfl ?_
 refine QX (wn3 rfl rfl rfl rfl) rfl rfl ?_
 refine QX (wn3 rfl rfl rfl rfl) rfl rfl ?_
 refine QX (wn3 rfl rfl rfl rfl) rfl rfl ?_
 refine Pk ?_
 refine Pa (Qr rfl rfl) (Qe (hK13 _ _ _ ?_))
 refine Ql (eL 11 rfl (eL 12 rfl (eL 13 rfl (eL 40 rfl eN)))) ?_
 refine Qv rfl (Qd fun K14 hK14 => Qc (Ps (Qe (hK14 _ _ _ (Qi (hret _ _ _ ?_))))))
 refine Ea results10 (.cons (Qh rfl) .nil) [] le_ ?_
 first|(exact ⟨⟨true, rfl, fun _ => ⟨hlen, by rw [List.take_of_length_le (by (try simp at hc14); omega)] at hs; exact hs⟩⟩, rfl, rfl⟩)|exact ⟨⟨false, rfl, fun h => by cases h⟩, rfl, rfl⟩
 try simp only [dx] at hg21
 refine Pb (Ga underlying53 sizeOf3) ?_
 refine Pb (La o3) ?_
 refine Pb (QB rfl rfl) ?_
 refine Pb (Qg rfl) ?_
 refine QE 25 rfl (fun hg25 => ?_) (fun hg25 => ?_)
 try simp only [dx] at hg25
 refine Pk (Pk (Pk ?_))
 refine Pb (Qr rfl rfl) ?_
 refine Pb (Qg rfl) ?_
 refine Pb (Ga underlying53 sizeOf3) ?_
 refine Pb (La o3) ?_
 refine Pb (QO rfl rfl) ?_
 refine Pb (Qg rfl) ?_
 refine QE 34 rfl (fun hg34 => ?_) (fun hg34 => ?_)
 try simp only [dx] at hg34
 refine Pk (Pk (Pk ?_))
 refine Pb (Qr rfl rfl) ?_
 refine Pb (Qr rfl rfl) ?_
 refine Pa (Qo rfl rfl) (Qe (hK13 _ _ _ ?_))
 refine Ql (eL 11 rfl (eL 12 rfl (eL 13 rfl (eL 40 rfl eN)))) ?_
 refine Qv rfl (Qd fun K15 hK15 => Qc (Ps (Qe (hK15 _ _ _ (Qi (hret _ _ _ ?_))))))
 refine Ea results10 (.cons (Qh rfl) .nil) [] le_ ?_
 first|(exact ⟨⟨true, rfl, fun _ => ⟨hlen, by rw [List.take_of_length_le (by (try simp at hc14); omega)] at hs; exact hs⟩⟩, rfl, rfl⟩)|exact ⟨⟨false, rfl, fun h => by cases h⟩, rfl, rfl⟩
 try simp only [dx] at hg34
 refine Pb (Ga underlying53 sizeOf3) ?_
 refine Pb (La o3) ?_
 refine Pb (Xs rfl rfl) ?_
 refine Pb (Qo rfl rfl) ?_
 refine Pb (Qr rfl rfl) ?_
 refine Pa (Qo rfl rfl) (Qe (hK13 _ _ _ ?_))
 refine Qm rfl (fun hc40 => ?_) (fun hc40 => ?_)
 try simp only [dx] at hc40
 refine Qd fun K17 hK17 => Qc (Ps (Qe (hK17 _ _ _ (Qi (hret _ _ _ ?_)))))
 refine Ea results10 (.cons (Qh rfl) .nil) [] le_ ?_
 first|(exact ⟨⟨true, rfl, fun _ => ⟨hlen, by rw [List.take_of_length_le (by (try simp at hc14); omega)] at hs; exact hs⟩⟩, rfl, rfl⟩)|exact ⟨⟨false, rfl, fun h => by cases h⟩, rfl, rfl⟩
 try simp only [dx] at hc40
 refine Qj (hK11 _ _ _ (Qc ?_))
 refine Pa (Qt rfl rfl om_) (Pm (Qe ?_))
 refine Xl (q' := QS _ _ _ _ _ _ _) rfl ?_
 refine QC (i + 1) (⟨by omega, zs hs ha (by refine ⟨by (try simp at hg21); omega, fun hw => ?_⟩; (try simp at hc24 hg25 hg30 hg34 hc37 hc40); omega)⟩) (by omega) (eC rfl (eC rfl (eC rfl eN))) rfl sb_
 try simp only [dx] at hg25
 refine Pb (Ga underlying53 sizeOf3) ?_
 refine Pb (La o3) ?_
 refine Pb (QB rfl rfl) ?_
 refine Pb (Qo rfl rfl) ?_
 refine Pb (Qg rfl) ?_
 refine QE 30 rfl (fun hg30 => ?_) (fun hg30 => ?_)
 try simp only [dx] at hg30
 refine Pb (Ga underlying53 sizeOf3) ?_
 refine Pb (La o3) ?_
 refine Pb (QO rfl rfl) ?_
 refine Pb (Qg rfl) ?_
 refine QE 34 rfl (fun hg34 => ?_) (fun hg34 => ?_)
 try simp only [dx] at hg34
 refine Pk (Pk (Pk ?_))
 refine Pb (Qr rfl rfl) ?_
 refine Pb (Qr rfl rfl) ?_
 refine Pa (Qo rfl rfl) (Qe (hK13 _ _ _ ?_))
 refine Ql (eL 11 rfl (eL 12 rfl (eL 13 rfl (eL 40 rfl eN)))) ?_
 refine Qv rfl (Qd fun K18 hK18 => Qc (Ps (Qe (hK18 _ _ _ (Qi (hret _ _ _ ?_))))))
 refine Ea results10 (.cons (Qh rfl) .nil) [] le_ ?_
 first|(exact ⟨⟨true, rfl, fun _ => ⟨hlen, by rw [List.take_of_length_le (by (try simp at hc14); omega)] at hs; exact hs⟩⟩, rfl, rfl⟩)|exact ⟨⟨false, rfl, fun h => by cases h⟩, rfl, rfl⟩
 try simp only [dx] at hg34
 refine Pb (Ga underlying53 sizeOf3) ?_
 refine Pb (La o3) ?_
 refine Pb (Xs rfl rfl) ?_
 refine Pb (Qo rfl rfl) ?_
 refine Pb (Qr rfl rfl) ?_
 refine Pa (Qo rfl rfl) (Qe (hK13 _ _ _ ?_))
 refine Qm rfl (fun hc40 => ?_) (fun hc40 => ?_)
 try simp only [dx] at hc40
 refine Qd fun K20 hK20 => Qc (Ps (Qe (hK20 _ _ _ (Qi (hret _ _ _ ?_)))))
 refine Ea results10 (.cons (Qh rfl) .nil) [] le_ ?_
 first|(exact ⟨⟨true, rfl, fun _ => ⟨hlen, by rw [List.take_of_length_le (by (try simp at hc14); omega)] at hs; exact hs⟩⟩, rfl, rfl⟩)|exact ⟨⟨false, rfl, fun h => by cases h⟩, rfl, rfl⟩
 try simp only [dx] at hc40
 refine Qj (hK11 _ _ _ (Qc ?_))
 refine Pa (Qt rfl rfl om_) (Pm (Qe ?_))
 refine Xl (q' := QS _ _ _ _ _ _ _) rfl ?_
 refine QC (i + 1) (⟨by omega, zs hs ha (by refine ⟨by (try simp at hg21); omega, fun hw => ?_⟩; (try simp at hc24 hg25 hg30 hg34 hc37 hc40); omega)⟩) (by omega) (eC rfl (eC rfl (eC rfl eN))) rfl sb_
 try simp only [dx] at hg30
 refine Pk (Pk (Pk (Pk ?_)))
 refine QX (wn3 rfl rfl rfl rfl) rfl rfl ?_
 refine QX (wn3 rfl rfl rfl rfl) rfl rfl ?_
 refine QX (wn3 rfl rfl rfl rfl) rfl rfl ?_
 refine Pk ?_
 refine Pb (Qo rfl rfl) ?_
 refine Pa (Qo rfl rfl) (Qe (hK13 _ _ _ (Qs rfl (Qj (hK11 _ _ _ (Qc ?_))))))
 refine Pa (Qt rfl rfl om_) (Pm (Qe ?_))
 refine Xl (q' := QS _ _ _ _ _ _ _) rfl ?_
 refine QC (i + 1) (⟨by omega, zs hs ha (by refine ⟨by (try simp at hg21); omega, fun hw => ?_⟩; (try simp at hc24 hg25 hg30 hg34 hc37 hc40); omega)⟩) (by omega) (eC rfl (eC rfl (eC rfl eN))) rfl sb_
 try simp only [dx] at hc14
 refine QL (hK6 _ _ _ ?_)
 refine Ql eN ?_
 refine Qd fun K21 hK21 => Qc (Ps (Qe (hK21 _ _ _ (Qi (hret _ _ _ ?_)))))
 refine Ea results10 (.cons (Qh rfl) .nil) [] le_ ?_
 first|(exact ⟨⟨true, rfl, fun _ => ⟨hlen, by rw [List.take_of_length_le (by (try simp at hc14); omega)] at hs; exact hs⟩⟩, rfl, rfl⟩)|exact ⟨⟨false, rfl, fun h => by cases h⟩, rfl, rfl⟩
theorem Qes (a : Int) {n : Int} (h : 0 < n) : -n < a.tmod n ∧ a.tmod n < n := by
 by_cases h0 : 0 ≤ a
 ·rw [Int.tmod_eq_emod_of_nonneg h0]
  have h1 := Int.emod_nonneg a (show n ≠ 0 by omega)
  have h2 := Int.emod_lt_of_pos a h
  omega
 ·obtain ⟨b, rfl⟩ : ∃ b, a = -b := ⟨-a, by omega⟩
  rw [Int.neg_tmod, Int.tmod_eq_emod_of_nonneg (by omega)]
  have h1 := Int.emod_nonneg b (show n ≠ 0 by omega)
  have h2 := Int.emod_lt_of_pos b h
  omega
def idx (i n : Int) : Int := (i.tmod n + n).tmod n
theorem Qeb (i : Int) {n : Int} (h : 0 < n) : 0 ≤ idx i n ∧ idx i n < n := by
 have h1 := Qes i h
 unfold idx
 rw [Int.tmod_eq_emod_of_nonneg (by omega)]
 exact ⟨Int.emod_nonneg _ (by omega), Int.emod_lt_of_pos _ h⟩
def GS.tickN (G : GS) (i : Nat) : Nat → GS
 | 0 => G
 | k + 1 => (G.tickN i k).tick i
def GS.delN (G : GS) : Nat → GS
 | 0 => G
 | k + 1 => (G.delN k).deliver 0
noncomputable def GS.does (G : GS) (n : Nat) (e : Ev) (k : Int) : GS :=
 if e.what = 0 then G.tickN (idx e.i n).toNat e.n.toNat
 else if e.what = 1 then G.deliver k
 else if e.what = 2 then G.drop k
 else if e.what = 3 then (if G.st.length < 300 then G.twice k else G)
 else if e.what = 4 then (G.propose (idx e.i n).toNat e.text).2
 else if e.what = 5 then (G.compact (idx e.i n).toNat).2
 else if e.what = 6 then G.crash (idx e.i n).toNat e.n
 else if e.what = 7 then G.fuel (idx e.i n).toNat e.n
 else if e.what = 8 then G.delN e.n.toNat
 else G
def GS.place (G : GS) (e : Ev) : Int := if G.st.length > 0 then idx e.n G.st.length else 0
noncomputable def GS.doE (G : GS) (n : Nat) (e : Ev) : GS := G.does n e (G.place e)
theorem Bud.tickN {n C : Nat} {J : Nat → Nat → GS → Prop} (h : Bud n C J) {i : Nat} (hi : i < n) {G : GS} : ∀ {k c d : Nat}, J (c + k) (d + k) G → J c d (G.tickN i k)
 | 0, _, _, hj => hj
 | k + 1, c, d, hj => h.tick _ _ _ _ hi (h.tickN hi (c := c + 1) (d := d + 1) (by rw [show c + 1 + k = c + (k + 1) by omega, show d + 1 + k = d + (k + 1) by omega]; exact hj))
theorem Bud.delN {n C : Nat} {J : Nat → Nat → GS → Prop} (h : Bud n C J) {G : GS} : ∀ {k c d : Nat}, J (c + k) d G → J c d (G.delN k)
 | 0, _, _, hj => hj
 | k + 1, c, d, hj => h.del _ _ _ _ (h.delN (c := c + 1) (by rw [show c + 1 + k = c + (k + 1) by omega]; exact hj))
theorem Bud.doE {n C : Nat} {J : Nat → Nat → GS → Prop} (h : Bud n C J) {G : GS} {e : Ev} {c d : Nat} (hn : 0 < n) (hb : e.Bd) (hs : e.sm) (hj : J (c + 60) (d + 60) G) : J c d (G.doE n e) := by
 have hi := Qeb e.i (n := n) (by omega)
 have hil : (idx e.i n).toNat < n := by omega
 have h1 : J (c + 1) (d + 1) G := h.leq (by omega) (by omega) hj
 have h0 : J (c + 1) d G := h.leq (by omega) (by omega) hj
 unfold GS.doE GS.does
 split
 ·rename_i hw
  have := hs.n (.inl hw)
  exact h.tickN hil (h.leq (by omega) (by omega) hj)
 ·split
  ·exact h.del _ _ _ _ h0
  ·split
   ·exact h.drop _ _ _ _ h0
   ·split
    ·split
     ·exact h.twice _ _ _ _ h0
     ·exact h.le _ _ _ h0
    ·split
     ·exact h.prop _ _ _ _ _ hil hs.text h1
     ·split
      ·exact h.comp _ _ _ _ hil h0
      ·split
       ·exact h.crash _ _ _ _ _ hil h0
       ·split
        ·exact h.fuel _ _ _ _ _ hil hb.n h0
        ·split
         ·rename_i hw
          have := hs.n (.inr hw)
          exact h.delN (h.leq (by omega) (by omega) hj)
         ·exact h.le _ _ _ h0
theorem Qod {R : Hp} (w : GV) (G : GS) (n c d C : Nat) {J : Nat → Nat → GS → Prop} (hB : Bud n C J) (hn : 0 < n ∧ n ≤ 9) (hC : n * C ≤ n * c + 100000) (e : Ev) (hb : e.Bd) (hs : e.sm) (hok : GOk R w G) (hj : J (c + 60) (d + 60) G) :
  Tri prog 21 [.pointer (some ⟨w.g, 0, none⟩), .int .i64 (n : Int), .agg ⟨evC e⟩] R (grL w G) (fun r R' L' => GrP w (G.doE n e) R' L') := by
 have hb1 := hb.i
 have hb2 := hb.n
 have hb3 := hb.what
 unfold jg at hb1 hb2 hb3
 have hi1 := Qes e.i (n := n) (by omega)
 have hi2 := Qeb e.i (n := n) (by omega)
 obtain ⟨i, hi⟩ : ∃ i : Nat, idx e.i n = i := Int.eq_ofNat_of_zero_le hi2.1
 have hil : i < n := by omega
 have hit : (idx e.i n).toNat = i := by omega
 have hgw := hB.gw _ _ _ hj
 have hst := hgw.st
 have hln := hB.ln _ _ _ hj
 have hjd := hB.doE hn.1 hb hs hj
 have h1 : J (c + 1) (d + 1) G := hB.leq (by omega) (by omega) hj
 have h0 : J (c + 1) d G := hB.leq (by omega) (by omega) hj
 have hla := hB.last _ _ _ hj
 have hmul : (n : Int) * ((c + 60 : Nat) : Int) = n * c + 60 * n := by rw [← Int.natCast_mul, Nat.mul_add]; push_cast; omega
 obtain ⟨k, hk⟩ : ∃ k, k = G.place e := ⟨_, rfl⟩
 have hdo : G.doE n e = G.does n e k := by rw [hk]; rfl
 rw [hdo] at hjd ⊢
 clear hdo
 unfold evC
 refine Qn func21 rfl ntmps21 rfl (fun σ F Q hret hend hpan => ?_)
 try simp only [cB]
 refine Qd fun K1 hK1 => Qc ?_
 refine Xa (wn0 rfl) rfl rfl rfl (fun b5 => ?_)
 refine Qe (hK1 _ _ _ (Qd fun K2 hK2 => Qc ?_))
 refine Pa (Ga underlying53 sizeOf3) ?_
 refine Pa (La o3) (Pm ?_)
 refine Pa ((Yld.to (u := .int .i64 (e.i.tmod n)) (zF rfl rfl (by omega)) (by rfl))) ?_
 refine Pm ?_
 refine Pa ((Qt rfl rfl (by omega))) ?_
 refine Pm ?_
 refine Pa ((Yld.to (u := .int .i64 (i : Int)) (zF rfl rfl (by omega)) (by rw [← hi]; rfl))) ?_
 refine Ps (Qe (hK2 _ _ _ (Qd fun K3 hK3 => Qc ?_)))
 refine Ps (Qe (hK3 _ _ _ (Qd fun K4 hK4 => ?_)))
 have hJ6 : ∀ (x : Unit), True → EJ ⟨prog, 98, σ⟩ K4 [(0, .pointer (some ⟨w.g, 0, none⟩)), (5, .pointer (some ⟨b5, 0, none⟩)), (6, .int .i64 (i : Int)), (7, .int .i64 k)] R (blk b5 [.int .i64 e.what, .int .i64 e.i, .int .i64 e.n, .string (str e.text)] 53 :: (grL w G ++ F)) := by
  rintro _ _
  try dsimp only
  refine hK4 _ _ _ (Qd fun K5 hK5 => Qc ?_)
  refine Pa (Ga underlying53 sizeOf3) ?_
  refine Pa (La o3) (Qe (hK5 _ _ _ (Qp (Qd fun K6 hK6 => Qc ?_))))
  refine Pa (QB rfl rfl) (Ps (Qe (hK6 _ _ _ ?_)))
  refine Qm rfl (fun hc32 => ?_) (fun hc32 => ?_)
  have q0 : e.what = 0 := by simpa using hc32
  have hsn := hs.n (.inl q0)
  refine Qd fun K8 hK8 => Qc ?_
  refine Pa (Ga underlying53 sizeOf3) ?_
  refine Pa (La o3) (Pm (Qe (hK8 _ _ _ (Qp ?_))))
  refine Ql (E' := (fun (x1 : Nat × GV × Hp) => [(0, .pointer (some ⟨w.g, 0, none⟩)), (6, .int .i64 (i : Int)), (35, .int .i64 e.n), (36, .int .i64 (x1.1 : Int))]) (0, w, R)) (eC rfl (eC rfl (eC rfl (eC rfl eN)))) ?_
  refine Xi (M := (fun (x1 : Nat × GV × Hp) => grL x1.2.1 (G.tickN i x1.1) ++ F) (0, w, R)) sb_ ?_
  refine QY (fun (x1 : Nat × GV × Hp) => [(0, .pointer (some ⟨w.g, 0, none⟩)), (6, .int .i64 (i : Int)), (35, .int .i64 e.n), (36, .int .i64 (x1.1 : Int))]) (fun (x1 : Nat × GV × Hp) => x1.2.2) (fun (x1 : Nat × GV × Hp) => grL x1.2.1 (G.tickN i x1.1) ++ F) (fun (x1 : Nat × GV × Hp) => x1.1 ≤ e.n.toNat ∧ (∃ vn css vo cs, x1.2.1 = ⟨w.g, w.va, w.n, vn, css, vo, cs⟩) ∧ GOk x1.2.2 x1.2.1 (G.tickN i x1.1) ∧ R.le x1.2.2) (fun (x1 : Nat × GV × Hp) => e.n.toNat - x1.1) (0, w, R) (⟨by simp, ⟨_, _, _, _, rfl⟩, hok, Hp.le_refl _⟩) ?_
  rintro ⟨j, w1, R1⟩ ⟨hj1, hg1, hok1, hR1⟩
  try dsimp only
  dsimp only at hj1 hg1 hok1 hR1
  obtain ⟨vn1, css1, vo1, cs1, rfl⟩ := hg1
  refine Qd fun K9 hK9 => Qc ?_
  refine Pa (QO rfl rfl) (Qe (hK9 _ _ _ (Qd fun K10 hK10 => ?_)))
  refine Qm rfl (fun hc37 => ?_) (fun hc37 => ?_)
  try simp only [dx] at hc37
  refine Qj (hK10 _ _ _ (Qd fun K12 hK12 => Qp ?_))
  have hj2 : j < e.n.toNat := by (try simp at hc37); omega
  have hjt := hB.tickN hil (c := c + (60 - j)) (d := d + (60 - j)) (k := j) (by rw [show c + (60 - j) + j = c + 60 by omega, show d + (60 - j) + j = d + 60 by omega]; exact hj)
  have hjt2 := hB.tick (c + (60 - (j + 1))) (d + (60 - (j + 1))) _ i hil (by rw [show c + (60 - (j + 1)) + 1 = c + (60 - j) by omega, show d + (60 - (j + 1)) + 1 = d + (60 - j) by omega]; exact hjt)
  refine Qc (Pm (Pm ?_))
  refine Ra call26 (Qfj ⟨w.g, w.va, w.n, vn1, css1, vo1, cs1⟩ (G.tickN i j) i hok1 (by rw [hB.ln _ _ _ hjt]; exact hil) (hB.gw _ _ _ hjt) (hB.gw _ _ _ hjt2)) ?_
  rintro x R4 L' hR4 ⟨vn4, css4, vo4, cs4, hok4, rfl⟩
  try simp only [cB]
  refine Qe (hK12 _ _ _ ?_)
  refine Ql (eL 0 rfl (eL 6 rfl (eL 35 rfl (eL 36 rfl eN)))) ?_
  refine Qc ?_
  refine Pa (Qt rfl rfl om_) (Pm (Qe ?_))
  refine Xl (q' := QS _ _ _ _ _ _ _) rfl ?_
  refine QC ((j + 1, ⟨w.g, w.va, w.n, vn4, css4, vo4, cs4⟩, R4)) (⟨by dsimp only; omega, ⟨_, _, _, _, rfl⟩, hok4, Hp.le_trans hR1 hR4⟩) (by dsimp only; omega) (eC rfl (eC rfl (eC rfl (eC rfl eN)))) rfl sb_
  try simp only [dx] at hc37
  refine QL (hend _ _ _ ?_)
  apply QD results21 .nil _ (grL ⟨w.g, w.va, w.n, vn1, css1, vo1, cs1⟩ (G.tickN i j)) (by first | exact hR1 | exact hR4 | exact Hp.le_refl _) rfl
  case hp => rw [show G.does n e k = G.tickN i j by unfold GS.does; rw [if_pos q0]; rw [hit, show e.n.toNat = j by (try simp at hc37); omega]]; exact ⟨vn1, css1, vo1, cs1, hok1, rfl⟩
  case hS => exact sb_
  have q0 : ¬ e.what = 0 := by simpa using hc32
  refine Qd fun K13 hK13 => Qc ?_
  refine Pa (QB rfl rfl) (Ps (Qe (hK13 _ _ _ ?_)))
  refine Qm rfl (fun hc42 => ?_) (fun hc42 => ?_)
  have q1 : e.what = 1 := by simpa using hc42
  refine Qc (Pm (Pm ?_))
  refine Ra call31 (jh w G k hok hgw (hB.gw _ _ _ (hB.del c d G k h0))) ?_
  rintro x R4 L' hR4 ⟨rfl, vn4, css4, vo4, cs4, hok4, rfl⟩
  try simp only [cB]
  refine Qe (hend _ _ _ ?_)
  apply QD results21 .nil _ (grL ⟨w.g, w.va, w.n, vn4, css4, vo4, cs4⟩ (G.deliver k)) (by first | exact hR1 | exact hR4 | exact Hp.le_refl _) rfl
  case hp => rw [show G.does n e k = G.deliver k by unfold GS.does; rw [if_neg q0, if_pos q1]]; exact ⟨vn4, css4, vo4, cs4, hok4, rfl⟩
  case hS => exact sb_
  have q1 : ¬ e.what = 1 := by simpa using hc42
  refine Qd fun K15 hK15 => Qc ?_
  refine Pa (QB rfl rfl) (Ps (Qe (hK15 _ _ _ ?_)))
  refine Qm rfl (fun hc47 => ?_) (fun hc47 => ?_)
  have q2 : e.what = 2 := by simpa using hc47
  refine Qc (Pm ?_)
  refine Pa (Ca call28 ((zj w))) (Pm ?_)
  refine Ra call48 (QdI w.n w.vn G.last G.st w.css hok.els (by omega) k) ?_
  rintro x R4 L' hR4 ⟨rfl, rfl, vn4, css4, hels4, rfl⟩
  try simp only [cB]
  refine Qe (hend _ _ _ ?_)
  apply QD results21 .nil _ (grL ⟨w.g, w.va, w.n, vn4, css4, w.vo, w.cs⟩ (G.drop k)) (by first | exact hR1 | exact hR4 | exact Hp.le_refl _) rfl
  case hp => rw [show G.does n e k = G.drop k by unfold GS.does; rw [if_neg q0, if_neg q1, if_pos q2]]; exact ⟨vn4, css4, w.vo, w.cs, ⟨hok.len, hok.nd, hels4⟩, rfl⟩
  case hS => exact sb_
  have q2 : ¬ e.what = 2 := by simpa using hc47
  refine Qd fun K17 hK17 => Qc ?_
  refine Pa (QB rfl rfl) (Ps (Qe (hK17 _ _ _ ?_)))
  refine Qm rfl (fun hc53 => ?_) (fun hc53 => ?_)
  have q3 : e.what = 3 := by simpa using hc53
  refine Qd fun K19 hK19 => Qc (Pm ?_)
  refine Pa (Ca call28 ((zj w))) ?_
  refine Pa (Ca call29 ((zw w.n w.vn G.last G.st w.css))) ?_
  refine Pa (QO rfl rfl) (Qe (hK19 _ _ _ ?_))
  refine Qm rfl (fun hc58 => ?_) (fun hc58 => ?_)
  have q33 : G.st.length < 300 := by (try simp at hc58); omega
  refine Qc (Pm ?_)
  refine Pa (Ca call28 ((zj w))) (Pm ?_)
  refine Ra call49 (QhG w.n w.vn G.last G.st w.css hok.els (QaF hgw) (by omega) (by have := hgw.last; omega) k) ?_
  rintro x R4 L' hR4 ⟨rfl, vn4, css4, hels4, rfl⟩
  try simp only [cB]
  refine Qe (hend _ _ _ ?_)
  apply QD results21 .nil _ (grL ⟨w.g, w.va, w.n, vn4, css4, w.vo, w.cs⟩ (G.twice k)) (by first | exact hR1 | exact hR4 | exact Hp.le_refl _) rfl
  case hp => rw [show G.does n e k = G.twice k by unfold GS.does; rw [if_neg q0, if_neg q1, if_neg q2, if_pos q3]; rw [if_pos q33]]; exact ⟨vn4, css4, w.vo, w.cs, ⟨hok.len, fun i c m hc hm => (hok.nd i c m hc hm).mono hR4, hels4⟩, rfl⟩
  case hS => exact sb_
  have q33 : ¬ G.st.length < 300 := by (try simp at hc58); omega
  refine Qj (hend _ _ _ ?_)
  apply QD results21 .nil _ (grL w G) (by first | exact hR1 | exact hR4 | exact Hp.le_refl _) rfl
  case hp => rw [show G.does n e k = G by unfold GS.does; rw [if_neg q0, if_neg q1, if_neg q2, if_pos q3]; rw [if_neg q33]]; exact ⟨w.vn, w.css, w.vo, w.cs, hok, rfl⟩
  case hS => exact sb_
  have q3 : ¬ e.what = 3 := by simpa using hc53
  refine Qd fun K21 hK21 => Qc ?_
  refine Pa (QB rfl rfl) (Ps (Qe (hK21 _ _ _ ?_)))
  refine Ql (eL 0 rfl (eL 5 rfl (eL 6 rfl (eL 31 rfl (eL 63 rfl eN))))) ?_
  refine Qm rfl (fun hc63 => ?_) (fun hc63 => ?_)
  have q4 : e.what = 4 := by simpa using hc63
  refine Qc (Pm (Pm ?_))
  refine Pa (Ga underlying53 sizeOf9) ?_
  refine Pa (La o9) ?_
  refine Ra call16 (QbC w G i e.text hs.text hok (by omega) hgw (hB.gw _ _ _ (hB.prop c d G i e.text hil hs.text h1))) ?_
  rintro x R4 L' hR4 ⟨rfl, vn4, css4, vo4, cs4, hok4, rfl⟩
  try simp only [cB]
  refine Qe (hend _ _ _ ?_)
  apply QD results21 .nil _ (grL ⟨w.g, w.va, w.n, vn4, css4, vo4, cs4⟩ (G.propose i e.text).2) (by first | exact hR1 | exact hR4 | exact Hp.le_refl _) rfl
  case hp => rw [show G.does n e k = (G.propose i e.text).2 by unfold GS.does; rw [if_neg q0, if_neg q1, if_neg q2, if_neg q3, if_pos q4]; rw [hit]]; exact ⟨vn4, css4, vo4, cs4, hok4, rfl⟩
  case hS => exact sb_
  have q4 : ¬ e.what = 4 := by simpa using hc63
  refine Qd fun K23 hK23 => Qc ?_
  refine Pa (QB rfl rfl) (Ps (Qe (hK23 _ _ _ ?_)))
  refine Qm rfl (fun hc70 => ?_) (fun hc70 => ?_)
  have q5 : e.what = 5 := by simpa using hc70
  refine Qc (Pm (Pm ?_))
  refine Ra call32 (Qf7 w G i hok (by omega) hgw) ?_
  rintro x R4 L' hR4 ⟨rfl, vn4, css4, vo4, cs4, hok4, rfl⟩
  try simp only [cB]
  refine Qe (hend _ _ _ ?_)
  apply QD results21 .nil _ (grL ⟨w.g, w.va, w.n, vn4, css4, vo4, cs4⟩ (G.compact i).2) (by first | exact hR1 | exact hR4 | exact Hp.le_refl _) rfl
  case hp => rw [show G.does n e k = (G.compact i).2 by unfold GS.does; rw [if_neg q0, if_neg q1, if_neg q2, if_neg q3, if_neg q4, if_pos q5]; rw [hit]]; exact ⟨vn4, css4, vo4, cs4, hok4, rfl⟩
  case hS => exact sb_
  have q5 : ¬ e.what = 5 := by simpa using hc70
  refine Qd fun K25 hK25 => Qc ?_
  refine Pa (QB rfl rfl) (Ps (Qe (hK25 _ _ _ ?_)))
  refine Qm rfl (fun hc75 => ?_) (fun hc75 => ?_)
  have q6 : e.what = 6 := by simpa using hc75
  refine Qc (Pm (Pm ?_))
  refine Pa (Ga underlying53 sizeOf3) ?_
  refine Pa (La o3) ?_
  refine Ra call12 (Qi9 w G i e.n hok (by omega) hgw (fun m hm => hB.opens c d G i m e.n h0 hm)) ?_
  rintro x R4 L' hR4 ⟨vn4, css4, vo4, cs4, hok4, rfl⟩
  try simp only [cB]
  refine Qe (hend _ _ _ ?_)
  apply QD results21 .nil _ (grL ⟨w.g, w.va, w.n, vn4, css4, vo4, cs4⟩ (G.crash i e.n)) (by first | exact hR1 | exact hR4 | exact Hp.le_refl _) rfl
  case hp => rw [show G.does n e k = G.crash i e.n by unfold GS.does; rw [if_neg q0, if_neg q1, if_neg q2, if_neg q3, if_neg q4, if_neg q5, if_pos q6]; rw [hit]]; exact ⟨vn4, css4, vo4, cs4, hok4, rfl⟩
  case hS => exact sb_
  have q6 : ¬ e.what = 6 := by simpa using hc75
  refine Qd fun K27 hK27 => Qc ?_
  refine Pa (QB rfl rfl) (Ps (Qe (hK27 _ _ _ ?_)))
  refine Qm rfl (fun hc82 => ?_) (fun hc82 => ?_)
  have q7 : e.what = 7 := by simpa using hc82
  refine Qc (Pm (Pm ?_))
  refine Pa (Ga underlying53 sizeOf3) ?_
  refine Pa (La o3) ?_
  refine Ra call30 (Qki w G i e.n hok (by omega)) ?_
  rintro x R4 L' hR4 ⟨vn4, css4, vo4, cs4, hok4, rfl⟩
  try simp only [cB]
  refine Qe (hend _ _ _ ?_)
  apply QD results21 .nil _ (grL ⟨w.g, w.va, w.n, vn4, css4, vo4, cs4⟩ (G.fuel i e.n)) (by first | exact hR1 | exact hR4 | exact Hp.le_refl _) rfl
  case hp => rw [show G.does n e k = G.fuel i e.n by unfold GS.does; rw [if_neg q0, if_neg q1, if_neg q2, if_neg q3, if_neg q4, if_neg q5, if_neg q6, if_pos q7]; rw [hit]]; exact ⟨vn4, css4, vo4, cs4, hok4, rfl⟩
  case hS => exact sb_
  have q7 : ¬ e.what = 7 := by simpa using hc82
  refine Qd fun K29 hK29 => Qc ?_
  refine Pa (QB rfl rfl) (Ps (Qe (hK29 _ _ _ ?_)))
  refine Ql (eL 0 rfl (eL 5 rfl (eL 89 rfl eN))) ?_
  refine Qm rfl (fun hc89 => ?_) (fun hc89 => ?_)
  have q8 : e.what = 8 := by simpa using hc89
  have hsn := hs.n (.inr q8)
  refine Qd fun K31 hK31 => Qc ?_
  refine Pa (Ga underlying53 sizeOf3) ?_
  refine Pa (La o3) (Pm (Qe (hK31 _ _ _ (Qp ?_))))
  refine Ql (E' := (fun (x1 : Nat × GV × Hp) => [(0, .pointer (some ⟨w.g, 0, none⟩)), (92, .int .i64 e.n), (93, .int .i64 (x1.1 : Int))]) (0, w, R)) (eC rfl (eC rfl (eC rfl eN))) ?_
  refine Xi (M := (fun (x1 : Nat × GV × Hp) => grL x1.2.1 (G.delN x1.1) ++ F) (0, w, R)) sb_ ?_
  refine QY (fun (x1 : Nat × GV × Hp) => [(0, .pointer (some ⟨w.g, 0, none⟩)), (92, .int .i64 e.n), (93, .int .i64 (x1.1 : Int))]) (fun (x1 : Nat × GV × Hp) => x1.2.2) (fun (x1 : Nat × GV × Hp) => grL x1.2.1 (G.delN x1.1) ++ F) (fun (x1 : Nat × GV × Hp) => x1.1 ≤ e.n.toNat ∧ (∃ vn css vo cs, x1.2.1 = ⟨w.g, w.va, w.n, vn, css, vo, cs⟩) ∧ GOk x1.2.2 x1.2.1 (G.delN x1.1) ∧ R.le x1.2.2) (fun (x1 : Nat × GV × Hp) => e.n.toNat - x1.1) (0, w, R) (⟨by simp, ⟨_, _, _, _, rfl⟩, hok, Hp.le_refl _⟩) ?_
  rintro ⟨j, w1, R1⟩ ⟨hj1, hg1, hok1, hR1⟩
  try dsimp only
  dsimp only at hj1 hg1 hok1 hR1
  obtain ⟨vn1, css1, vo1, cs1, rfl⟩ := hg1
  refine Qd fun K32 hK32 => Qc ?_
  refine Pa (QO rfl rfl) (Qe (hK32 _ _ _ (Qd fun K33 hK33 => ?_)))
  refine Qm rfl (fun hc94 => ?_) (fun hc94 => ?_)
  try simp only [dx] at hc94
  refine Qj (hK33 _ _ _ (Qd fun K35 hK35 => Qp ?_))
  have hj2 : j < e.n.toNat := by (try simp at hc94); omega
  have hjt := hB.delN (c := c + (60 - j)) (d := d + 60) (k := j) (by rw [show c + (60 - j) + j = c + 60 by omega]; exact hj)
  have hjt2 := hB.del (c + (60 - (j + 1))) (d + 60) _ 0 (by rw [show c + (60 - (j + 1)) + 1 = c + (60 - j) by omega]; exact hjt)
  refine Qc (Pm ?_)
  refine Ra call31 (jh ⟨w.g, w.va, w.n, vn1, css1, vo1, cs1⟩ (G.delN j) 0 hok1 (hB.gw _ _ _ hjt) (hB.gw _ _ _ hjt2)) ?_
  rintro x R4 L' hR4 ⟨rfl, vn4, css4, vo4, cs4, hok4, rfl⟩
  try simp only [cB]
  refine Qe (hK35 _ _ _ (Qc ?_))
  refine Pa (Qt rfl rfl om_) (Pm (Qe ?_))
  refine Xl (q' := QS _ _ _ _ _ _ _) rfl ?_
  refine QC ((j + 1, ⟨w.g, w.va, w.n, vn4, css4, vo4, cs4⟩, R4)) (⟨by dsimp only; omega, ⟨_, _, _, _, rfl⟩, hok4, Hp.le_trans hR1 hR4⟩) (by dsimp only; omega) (eC rfl (eC rfl (eC rfl eN))) rfl sb_
  try simp only [dx] at hc94
  refine QL (hend _ _ _ ?_)
  apply QD results21 .nil _ (grL ⟨w.g, w.va, w.n, vn1, css1, vo1, cs1⟩ (G.delN j)) (by first | exact hR1 | exact hR4 | exact Hp.le_refl _) rfl
  case hp => rw [show G.does n e k = G.delN j by unfold GS.does; rw [if_neg q0, if_neg q1, if_neg q2, if_neg q3, if_neg q4, if_neg q5, if_neg q6, if_neg q7, if_pos q8]; rw [show e.n.toNat = j by (try simp at hc94); omega]]; exact ⟨vn1, css1, vo1, cs1, hok1, rfl⟩
  case hS => exact sb_
  have q8 : ¬ e.what = 8 := by simpa using hc89
  refine Qj (hend _ _ _ ?_)
  apply QD results21 .nil _ (grL w G) (by first | exact hR1 | exact hR4 | exact Hp.le_refl _) rfl
  case hp => rw [show G.does n e k = G by unfold GS.does; rw [if_neg q0, if_neg q1, if_neg q2, if_neg q3, if_neg q4, if_neg q5, if_neg q6, if_neg q7, if_neg q8]]; exact ⟨w.vn, w.css, w.vo, w.cs, hok, rfl⟩
  case hS => exact sb_
 refine Qd fun K36 hK36 => Qc (Pm ?_)
 refine Pa (Ca call28 ((zj w))) ?_
 refine Pa (Ca call29 ((zw w.n w.vn G.last G.st w.css))) (Ps (Qe (hK36 _ _ _ (Qd fun K37 hK37 => Qc ?_))))
 refine Pm ?_
 refine Pa (Xs rfl rfl) (Qe (hK37 _ _ _ ?_))
 refine Qm rfl (fun hc21 => ?_) (fun hc21 => ?_)
 have hpos : 0 < (G.st.length : Int) := by (try simp at hc21); omega
 have hk1 := Qes e.n hpos
 have hk2 : k = idx e.n G.st.length := by rw [hk]; unfold GS.place; rw [if_pos (by omega)]
 refine Qc ?_
 refine Pa (Ga underlying53 sizeOf3) ?_
 refine Pa (La o3) (Pm ?_)
 refine Pa ((Yld.to (u := .int .i64 (e.n.tmod G.st.length)) (zF rfl rfl (by omega)) (by rfl))) ?_
 refine Pm ?_
 refine Pa ((Qt rfl rfl (by omega))) ?_
 refine Pm ?_
 refine Pa ((Yld.to (u := .int .i64 k) (zF rfl rfl (by omega)) (by rw [hk2]; rfl))) ?_
 refine Ps (Qe ?_)
 refine QG hJ6 (()) (trivial) (eC rfl (eC rfl (eC rfl (eC rfl eN)))) rfl sb_
 have hk2 : k = 0 := by rw [hk]; unfold GS.place; rw [if_neg (by have hz := hc21; simp only [decide_eq_false_iff_not] at hz; omega)]
 subst hk2
 refine Qj ?_
 refine QG hJ6 (()) (trivial) (eC rfl (eC rfl (eC rfl (eC rfl eN)))) rfl sb_
abbrev EvY := Int × Int × Int × List UInt8
abbrev evR : Rdr EvY := yG 1 (zB .i64) (yG 1 (zB .i64) (yG 1 (zB .i64) Qhg))
def Qb7 (y : EvY) : Ev := ⟨y.1, y.2.1, y.2.2.1, y.2.2.2⟩
theorem Qk0 {R : Hp} {cs : List Value} {y : EvY} (hl : cs.length = 4) (h : evR R cs y) : evE.P R (Qb7 y) cs ∧ (Qb7 y).Bd := by
 match cs, hl with
 | c0 :: c1 :: c2 :: [c3], _ =>
  obtain ⟨⟨e0, b0⟩, ⟨e1, b1⟩, ⟨e2, b2⟩, e3, b3⟩ := h
  simp only [List.take_succ_cons, List.take_zero, List.drop_succ_cons, List.drop_zero, List.cons.injEq, and_true] at e0 e1 e2 e3
  refine ⟨?_, ⟨Qde b0, Qde b1, Qde b2⟩⟩
  show _ = evC (Qb7 y)
  unfold evC
  rw [e0, e1, e2, e3]
  rfl
theorem Qnk {R : Hp} {v : Value} {ys : List EvY} (h : QcY 4 evR R [v] ys) : FrX evE R (ys.map Qb7) v ∧ ∀ a ∈ ys.map Qb7, a.Bd := by
 refine ⟨QjI (T := evE) Qb7 (fun c x hc h => (Qk0 hc h).1) h, fun m hm => ?_⟩
 obtain ⟨y, hy, rfl⟩ := List.mem_map.1 hm
 obtain ⟨q, cap, _, _, _, h3⟩ := h
 rcases h3 with rfl | ⟨b, off, _, hz⟩
 ·simp at hy
 ·obtain ⟨i, hi, rfl⟩ := List.getElem_of_mem hy
  obtain ⟨c, h1, _, h2⟩ := hz i hi
  exact (Qk0 h1 h2).2
theorem jk {x : ND} (h : x.out = []) : x.feedAll.out = (x.others.map x.feedMsg).map x.stamp := by rw [Xo]; unfold ND.sends; simp [h]
theorem Qaq {x : ND} (h : x.out = []) : x.askAll.out = (x.others.map x.askMsg).map x.stamp := by unfold ND.askAll; rw [qv]; unfold ND.sends; simp [h]
theorem jV {y : ND} (h : y.out = []) (m : Msg) : (y.send m).out = [y.stamp m] := by unfold ND.send; rw [h]; rfl
structure LB (T I : Int) (g : LG) : Prop where
 term : 0 ≤ g.term ∧ g.term ≤ T
 vote : -1 ≤ g.vote ∧ g.vote < 9
 base : 0 ≤ g.base
 baseT : 0 ≤ g.baseT ∧ g.baseT ≤ T
 last : g.last ≤ I
 all : ∀ e ∈ g.all, (0 ≤ e.1 ∧ e.1 ≤ T) ∧ e.2.length ≤ 100
 st : ((unS g.state).length : Int) ≤ g.base ∧ ∀ s ∈ unS g.state, s.length ≤ 100
 stl : g.state.length ≤ 1000000
theorem LB.mono {T T' I I' : Int} {g : LG} (h : LB T I g) (hT : T ≤ T') (hI : I ≤ I') : LB T' I' g :=
 ⟨⟨h.term.1, Int.le_trans h.term.2 hT⟩, h.vote, h.base, ⟨h.baseT.1, Int.le_trans h.baseT.2 hT⟩, Int.le_trans h.last hI, fun e he => ⟨⟨(h.all e he).1.1, Int.le_trans (h.all e he).1.2 hT⟩, (h.all e he).2⟩, h.st, h.stl⟩
theorem LB.set {T I : Int} {g : LG} (h : LB T I g) {t v : Int} (ht : 0 ≤ t ∧ t ≤ T) (hv : -1 ≤ v ∧ v < 9) : LB T I { g with term := t, vote := v } :=
 ⟨ht, hv, h.base, h.baseT, h.last, h.all, h.st, h.stl⟩
structure MB (T I : Int) (m : Msg) : Prop where
 term : 0 ≤ m.term ∧ m.term ≤ T
 index : 0 ≤ m.index ∧ m.index + m.es.length ≤ I
 logTerm : 0 ≤ m.logTerm ∧ m.logTerm ≤ T
 commit : 0 ≤ m.commit ∧ m.commit ≤ I
 es : m.es.length ≤ 8 ∧ ∀ e ∈ m.es, (0 ≤ e.1 ∧ e.1 ≤ T) ∧ e.2.length ≤ 100
 st : ((unS m.state).length : Int) ≤ m.index ∧ ∀ s ∈ unS m.state, s.length ≤ 100
 stl : m.state.length ≤ 1000000
theorem MB.mono {T T' I I' : Int} {m : Msg} (h : MB T I m) (hT : T ≤ T') (hI : I ≤ I') : MB T' I' m :=
 ⟨⟨h.term.1, Int.le_trans h.term.2 hT⟩, ⟨h.index.1, Int.le_trans h.index.2 hI⟩, ⟨h.logTerm.1, Int.le_trans h.logTerm.2 hT⟩, ⟨h.commit.1, Int.le_trans h.commit.2 hI⟩, ⟨h.es.1, fun e he => ⟨⟨(h.es.2 e he).1.1, Int.le_trans (h.es.2 e he).1.2 hT⟩, (h.es.2 e he).2⟩⟩, h.st, h.stl⟩
theorem MB.ln {T I : Int} {m : Msg} (h : MB T I m) : MLn T I m :=
 ⟨h.term, ⟨h.index.1, by have := h.index.2; omega⟩, h.logTerm, h.commit.1, ⟨by have := h.es.1; omega, h.es.2⟩, h.stl⟩
theorem MB.im {T I : Int} {m : Msg} (h : MB T I m) (hT : T ≤ 2305843009213693952) (hI : I ≤ 100000000000000) : MIm 0 m ∧ qz m :=
 ⟨h.ln.im hT hI (by have := h.commit.2; omega), by unfold qz; have := h.es.1; omega⟩
theorem QcV : unS [] = [] := by decide
theorem MB.plain {T I : Int} {m : Msg} (ht : 0 ≤ m.term ∧ m.term ≤ T) (hi : 0 ≤ m.index ∧ m.index ≤ I) (hl : 0 ≤ m.logTerm ∧ m.logTerm ≤ T) (hc : m.commit = 0) (he : m.es = []) (hs : m.state = []) (hI : 0 ≤ I) : MB T I m :=
 ⟨ht, by rw [he]; simpa using hi, hl, by rw [hc]; omega, by rw [he]; simp, by rw [hs, QcV]; simpa using hi.1, by rw [hs]; simp⟩
structure UB (T I : Int) (x : ND) : Prop where
 inn : LIn T I I.toNat x
 lb : LB T I x.g
theorem LB.of {T J I : Int} {A : Nat} {y : ND} (h : LIn T J A y) (hl : y.g.last ≤ I) (hs : ((unS y.g.state).length : Int) ≤ y.g.base ∧ ∀ s ∈ unS y.g.state, s.length ≤ 100) : LB T I y.g :=
 ⟨h.term, h.vote, h.base, h.baseT, hl, h.all, hs, h.state⟩
theorem UB.mk0 {T J I : Int} {A : Nat} {y : ND} (h : LIn T J A y) (hl : y.g.last ≤ I) (hp : ∀ p ∈ y.peers, p.1 ≤ I + 1 ∧ p.2 ≤ I) (hs : ((unS y.g.state).length : Int) ≤ y.g.base ∧ ∀ s ∈ unS y.g.state, s.length ≤ 100) : UB T I y :=
 ⟨⟨h.idn, h.down, h.term, h.vote, h.base, h.baseT, hl, h.state, by have := h.base; unfold LG.last at hl; omega, h.all, h.commit, h.patience, h.peers, fun p hq => by have h1 := h.peer p hq; have h2 := hp p hq; omega, h.pl, h.votes⟩, LB.of h hl hs⟩
theorem UB.mono {T T' I I' : Int} {x : ND} (h : UB T I x) (hT : T ≤ T') (hI : I ≤ I') : UB T' I' x := ⟨h.inn.mono hT hI (by omega), h.lb.mono hT hI⟩
theorem UB.pp {T I : Int} {x : ND} (h : UB T I x) : ∀ p ∈ x.peers, p.1 ≤ I + 1 ∧ p.2 ≤ I := fun p hp => by have := h.inn.peer p hp; omega
theorem UB.i0 {T I : Int} {x : ND} (h : UB T I x) : 0 ≤ I := by
 have h1 := h.lb.base
 have h2 := h.lb.last
 unfold LG.last at h2; omega
theorem UB.t0 {T I : Int} {x : ND} (h : UB T I x) : 0 ≤ T := by have h1 := h.lb.term; omega
theorem QkP {T I : Int} {x : ND} (h : UB T I x) (i : Int) : 0 ≤ x.tAt i ∧ x.tAt i ≤ T := by
 have ht := h.t0
 have hb := h.lb.baseT
 unfold ND.tAt LG.termAt
 split
 ·exact hb
 ·cases h1 : x.g.at i with
  | none => simp; omega
  | some e => exact (h.lb.all e (LG.at_mem h1)).1
theorem QnK {T I : Int} {x : ND} (h : UB T I x) (to : Nat) : 0 ≤ x.nxt to ∧ x.nxt to ≤ I + 1 := by
 have h0 := h.i0
 unfold ND.nxt
 by_cases h1 : to < x.peers.length
 ·have hm : x.peers.getD to (0, 0) ∈ x.peers := by rw [List.getD_eq_getElem?_getD, List.getElem?_eq_getElem h1]; simp
  have := h.inn.peer _ hm; omega
 ·rw [List.getD_eq_getElem?_getD, List.getElem?_eq_none (by omega)]; simp; omega
theorem UB.feedM {T I : Int} {x : ND} (h : UB T I x) (to : Nat) : MB T I (x.stamp (x.feedMsg to)) := by
 have hn := QnK h to
 have hb := h.lb.base
 have hl := h.lb.last
 have hl2 : x.g.last = x.g.base + x.g.all.length := rfl
 have hc := h.inn.commit
 by_cases h1 : x.nxt to ≤ x.g.base
 ·rw [zC h1]
  exact ⟨h.lb.term, ⟨hb, by show x.g.base + (([] : List Ent).length : Int) ≤ I; simp; omega⟩, h.lb.baseT, ⟨by show (0 : Int) ≤ 0; omega, by show (0 : Int) ≤ I; omega⟩, ⟨by show ([] : List Ent).length ≤ 8; simp, fun e he => by cases he⟩, h.lb.st, h.lb.stl⟩
 ·rw [ji h1]
  refine ⟨h.lb.term, ⟨by show 0 ≤ x.nxt to - 1; omega, ?_⟩, QkP h _, ⟨by show 0 ≤ x.commit; omega, by show x.commit ≤ I; omega⟩, ⟨?_, fun e he => h.lb.all e (List.mem_of_mem_drop (List.mem_of_mem_take he))⟩, ?_, by show ([] : Bs).length ≤ 1000000; simp⟩
  ·show x.nxt to - 1 + (((x.g.all.drop (x.nxt to - x.g.base - 1).toNat).take 8).length : Int) ≤ I
   have : ((x.g.all.drop (x.nxt to - x.g.base - 1).toNat).take 8).length ≤ x.g.all.length - (x.nxt to - x.g.base - 1).toNat := by simp; omega
   omega
  ·show ((x.g.all.drop (x.nxt to - x.g.base - 1).toNat).take 8).length ≤ 8
   simp; omega
  ·show ((unS []).length : Int) ≤ x.nxt to - 1 ∧ ∀ s ∈ unS [], s.length ≤ 100
   rw [QcV]; simp; omega
def cr (x : ND) : Int := if x.role = 1 then 1 else 0
theorem Qdl (x : ND) : 0 ≤ cr x ∧ cr x ≤ 1 := by unfold cr; split <;> omega
def RB (T I c : Int) (y : ND) : Prop := ∃ I', I ≤ I' ∧ I' + cr y ≤ I + c ∧ UB T I' y ∧ ∀ m ∈ y.out, MB T I' m
theorem RB.same {T I c : Int} {y : ND} (h : UB T I y) (hc : cr y ≤ c) (ho : ∀ m ∈ y.out, MB T I m) : RB T I c y := ⟨I, Int.le_refl _, by omega, h, ho⟩
theorem UB.sends {T I : Int} {x : ND} (h : UB T I x) (l : List Msg) : UB T I { x with out := l } := ⟨h.inn.sends l, h.lb⟩
theorem Qcq (x : ND) : x.others.length ≤ x.n := by unfold ND.others; have := List.length_filter_le (fun i => i != x.id) (List.range x.n); simpa using this
theorem UB.feedAll {T I : Int} {x : ND} (h : UB T I x) (ho : x.out = []) : UB T I x.feedAll ∧ ∀ m ∈ x.feedAll.out, MB T I m := by
 refine ⟨by rw [Xo]; exact h.sends _, fun m hm => ?_⟩
 rw [jk ho] at hm
 obtain ⟨m1, hm1, rfl⟩ := List.mem_map.1 hm
 obtain ⟨to, _, rfl⟩ := List.mem_map.1 hm1
 exact h.feedM to
theorem UB.count {T I : Int} {x : ND} (h : UB T I x) (hr : x.role = 2) : UB T I x.count := ⟨(h.inn.count hr).inn, by rw [ZI]; exact h.lb⟩
theorem UB.entryP {T I : Int} {x : ND} {cmd : Bs} (h : UB T I x) (ho : x.out = []) (hr : x.role = 2) (hc : cmd.length ≤ 100) : UB T (I + 1) (x.entryP cmd) ∧ ∀ m ∈ (x.entryP cmd).out, MB T (I + 1) m := by
 have hi := h.i0
 have hb := h.inn.commit
 have hl := h.lb.last
 have h1 := (h.inn.add (i := x.g.last) (m := [(x.g.term, cmd)]) ⟨h.inn.commit.2, Int.le_refl _⟩ (fun _ => Eq.refl _) (fun e he => by simp at he; subst he; exact ⟨h.inn.term, hc⟩)).inn
 have hla := yK (g := x.g) (i := x.g.last) (m := [(x.g.term, cmd)]) (by omega)
 have h2 : UB T (I + 1) { x with g := x.g.play (.add x.g.last [(x.g.term, cmd)]) } := UB.mk0 h1 (by show (x.g.play _).last ≤ _; rw [hla]; simp; omega) (fun p hp => by have := h.pp p hp; omega) h.lb.st
 unfold ND.entryP
 exact (h2.count hr).feedAll (by rw [(YO _).1]; exact ho)
theorem UB.wins {T I : Int} {x : ND} (h : UB T I x) : UB T I x.wins := ⟨h.inn.wins, h.lb⟩
theorem QcJ (x : ND) (cmd : Bs) : (x.entryP cmd).role = x.role := by
 unfold ND.entryP; rw [Xo]
 exact (YO _).2.2.1
theorem UB.winP {T I : Int} {x : ND} (h : UB T I x) (ho : x.out = []) : UB T (I + 1) x.winP ∧ (∀ m ∈ x.winP.out, MB T (I + 1) m) ∧ cr x.winP = 0 := by
 have h1 := UB.entryP (x := x.wins) (cmd := []) h.wins ho rfl (by simp)
 exact ⟨h1.1, h1.2, by unfold cr ND.winP; rw [QcJ]; rfl⟩
theorem UB.askM {T I : Int} {x : ND} (h : UB T I x) (to : Nat) : MB T I (x.stamp (x.askMsg to)) :=
 MB.plain h.lb.term ⟨by have := h.lb.base; show 0 ≤ x.g.last; unfold LG.last; omega, h.lb.last⟩ (QkP h _) rfl rfl rfl h.i0
theorem UB.standP {T I : Int} {x : ND} (h : UB T I x) (ho : x.out = []) (hv : (x.id : Int) < 9) : RB (T + 1) I (cr x + 1) x.standP := by
 have hc := Qdl x
 have ht := h.lb.term
 have hid := h.inn.idn
 have h1 := ((h.inn.mono (show T ≤ T + 1 by omega) (Int.le_refl _) (Nat.le_refl _)).set (t := x.g.term + 1) (v := x.id) (by omega) (by omega) (.inl (by omega))).inn.stands
 have h2 : UB (T + 1) I (ND.stands { x with g := { x.g with term := x.g.term + 1, vote := x.id } }) := ⟨h1, (h.lb.mono (by omega) (Int.le_refl _)).set (by omega) (by omega)⟩
 unfold ND.standP
 by_cases hn : x.n = 1
 ·rw [if_pos hn]
  obtain ⟨a, b, c⟩ := h2.winP ho
  exact ⟨I + 1, by omega, by rw [c]; omega, a, b⟩
 ·rw [if_neg hn]
  have e : cr (ND.askAll (ND.stands { x with g := { x.g with term := x.g.term + 1, vote := x.id } })) = 1 := by unfold ND.askAll; rw [qv]; rfl
  refine RB.same ?_ (by rw [e]; omega) (fun m hm => ?_)
  ·unfold ND.askAll; rw [qv]; exact h2.sends _
  ·rw [Qaq (x := ND.stands { x with g := { x.g with term := x.g.term + 1, vote := x.id } }) ho] at hm
   obtain ⟨m1, hm1, rfl⟩ := List.mem_map.1 hm
   obtain ⟨to, _, rfl⟩ := List.mem_map.1 hm1
   exact h2.askM to
theorem UB.pat {T I : Int} {x : ND} (h : UB T I x) {p : Int} (hp : 0 ≤ p ∧ p ≤ 30) : UB T I { x with patience := p } := ⟨(h.inn.pat hp).inn, h.lb⟩
theorem UB.tickP {T I : Int} {x : ND} (h : UB T I x) (ho : x.out = []) : RB (T + 1) I (cr x + 1) x.tickP := by
 have hc := Qdl x
 have hp := h.inn.patience
 have hid := h.inn.idn
 have hlm := Qda x.id x.g.term
 have hm := h.mono (show T ≤ T + 1 by omega) (Int.le_refl I)
 unfold ND.tickP
 by_cases h1 : x.role = 2
 ·rw [if_pos h1]
  by_cases h2 : x.patience + 1 ≥ 3
  ·rw [if_pos h2]
   obtain ⟨a, b⟩ := (hm.pat (p := 0) (by omega)).feedAll ho
   exact RB.same a (by rw [Xo]; show cr x ≤ _; omega) b
  ·rw [if_neg h2]
   exact RB.same (hm.pat (by omega)) (by show cr x ≤ _; omega) (fun m hm => by rw [show ({ x with patience := x.patience + 1 } : ND).out = x.out from rfl, ho] at hm; cases hm)
 ·rw [if_neg h1]
  by_cases h2 : x.patience + 1 ≥ Zi x.id x.g.term
  ·rw [if_pos h2]
   have e : ND.standP { x with patience := x.patience + 1 } = ND.standP { x with patience := 0 } := Eq.refl _
   rw [e]
   exact UB.standP (x := { x with patience := 0 }) (h.pat (by omega)) ho (by show (x.id : Int) < 9; omega)
  ·rw [if_neg h2]
   exact RB.same (hm.pat (by omega)) (by show cr x ≤ _; omega) (fun m hm => by rw [show ({ x with patience := x.patience + 1 } : ND).out = x.out from rfl, ho] at hm; cases hm)
theorem UB.send1 {T I c : Int} {x : ND} (h : UB T I x) (ho : x.out = []) (m : Msg) (hm : MB T I (x.stamp m)) (hc : cr x ≤ c) : RB T I c (x.send m) :=
 RB.same (h.sends _) hc (fun m1 hm1 => by rw [jV ho] at hm1; simp at hm1; subst hm1; exact hm)
theorem UB.quiet {T I c : Int} {x : ND} (h : UB T I x) (ho : x.out = []) (hc : cr x ≤ c) : RB T I c x := RB.same h hc (fun m hm => by rw [ho] at hm; cases hm)
theorem UB.answer1 {T I c : Int} {x : ND} (h : UB T I x) (ho : x.out = []) (m : Msg) (ok : Bool) {i : Int} (hi : 0 ≤ i ∧ i ≤ I) (hc : cr x ≤ c) : RB T I c (x.answer m ok i) :=
 h.send1 ho _ (MB.plain h.lb.term hi ⟨by show (0 : Int) ≤ 0; omega, by have := h.t0; exact this⟩ rfl rfl rfl h.i0) hc
theorem UB.askedP {T I : Int} {x : ND} {m : Msg} (h : UB T I x) (ho : x.out = []) (hm : 0 ≤ m.frm ∧ m.frm < x.n) : RB T I (cr x) (x.askedP m) := by
 have hid := h.inn.idn
 have ht := h.t0
 have hi := h.inn.askedP hm
 have hv : ∀ (y : ND), y.g.term = x.g.term → ∀ ok, MB T I (y.stamp (ND.voteMsg m ok)) := fun y hy ok => MB.plain (by show 0 ≤ y.g.term ∧ y.g.term ≤ T; rw [hy]; exact h.lb.term) ⟨by show (0 : Int) ≤ 0; omega, h.i0⟩ ⟨by show (0 : Int) ≤ 0; omega, ht⟩ rfl rfl rfl h.i0
 unfold ND.askedP at hi ⊢
 by_cases h1 : x.grants m = true
 ·rw [if_pos h1] at hi ⊢
  refine RB.same ⟨hi.inn, h.lb.set h.lb.term (by omega)⟩ (by show cr x ≤ _; omega) (fun m1 hm1 => ?_)
  rw [jV (y := { x with g := { x.g with term := x.g.term, vote := m.frm }, patience := 0 }) ho] at hm1
  simp at hm1; subst hm1; exact hv _ rfl _
 ·rw [if_neg h1]
  exact h.send1 ho _ (hv x rfl false) (Int.le_refl _)
theorem UB.votedP {T I : Int} {x : ND} {m : Msg} (h : UB T I x) (ho : x.out = []) (hm : 0 ≤ m.frm ∧ m.frm < x.n) : RB T I (cr x) (x.votedP m) := by
 unfold ND.votedP
 by_cases h1 : ¬ x.role = 1 ∨ ¬ m.term = x.g.term ∨ m.ok = false
 ·rw [if_pos h1]; exact h.quiet ho (Int.le_refl _)
 ·rw [if_neg h1]
  have h2 : UB T I { x with votes := QW x.votes m.frm } := ⟨h.inn.vote1 hm, h.lb⟩
  split
  ·obtain ⟨a, b, c⟩ := UB.winP (x := { x with votes := QW x.votes m.frm }) h2 ho
   have hr : x.role = 1 := by
    by_cases hr : x.role = 1
    ·exact hr
    ·exact absurd (.inl hr) h1
   exact ⟨I + 1, by omega, by rw [c]; unfold cr; rw [if_pos hr]; omega, a, b⟩
  ·exact h2.quiet ho (Int.le_refl _)
theorem Qmj {x : ND} {m : Msg} (h : ¬ (m.index < x.g.base ∧ (m.es.length : Int) < x.g.base - m.index)) : (x.cutM m).1 + (x.cutM m).2.length = m.index + m.es.length := by
 unfold ND.cutM
 split
 ·dsimp only; simp; omega
 ·rfl
theorem cr0 {x : ND} (h : x.role = 0) : cr x = 0 := by unfold cr; rw [if_neg (by omega)]
theorem UB.commits {T I : Int} {x : ND} (h : UB T I x) (m : Msg) {last : Int} (hl : last ≤ x.g.last) : UB T I (x.commits m last) := ⟨(LIn.commits (LT.rfl h.inn) m hl).inn, h.lb⟩
theorem UB.restP {T I : Int} {x : ND} {m : Msg} (h : UB T I x) (ho : x.out = []) (hr : x.role = 0) (hm : MB T I m) (hc : x.g.base ≤ (x.cutM m).1 ∧ (x.cutM m).1 ≤ x.g.last) (hn : ¬ (m.index < x.g.base ∧ (m.es.length : Int) < x.g.base - m.index)) : RB T I 0 (x.restP m (x.cutM m)) := by
 have he := Qmj hn
 have hmi := hm.index
 have h0 : cr x ≤ 0 := by rw [cr0 hr]; omega
 have hb := h.lb.base
 have hcm := h.inn.commit
 have hb3 : (x.cutM m).2.length ≤ 20 ∧ ∀ e ∈ (x.cutM m).2, (0 ≤ e.1 ∧ e.1 ≤ T) ∧ e.2.length ≤ 100 := by
  have := hm.ln.es
  unfold ND.cutM
  split
  ·exact ⟨by simp; omega, fun e he => this.2 e (List.mem_of_mem_drop he)⟩
  ·exact this
 unfold ND.restP
 cases hfi : ND.fits x.g (x.cutM m).2 ((x.cutM m).1 + 1) with
 | none =>
  have hl : (x.cutM m).1 + (x.cutM m).2.length ≤ x.g.last := by
   rcases Qa3 hfi with h1 | h1
   ·rw [h1]; simp; omega
   ·omega
  exact (h.commits m hl).answer1 ho m true (by omega) h0
 | some p =>
  obtain ⟨i, l⟩ := p
  obtain ⟨a1, ⟨c, hc1, hc2⟩, a3⟩ := jG hfi
  dsimp only
  by_cases h1 : i ≤ x.commit
  ·rw [if_pos h1]; exact h.quiet ho h0
  ·rw [if_neg h1]
   have hi : x.commit ≤ i - 1 ∧ i - 1 ≤ x.g.last := by
    rcases a3 with a3 | ⟨e, a3⟩
    ·omega
    ·have := zn a3; omega
   have hll : l.length ≤ (x.cutM m).2.length := by rw [hc1]; simp
   have h2 := (h.inn.add (i := i - 1) (m := l) hi (fun hr2 => absurd (hr.symm.trans hr2) (by decide)) (fun e he => hb3.2 e (by rw [hc1] at he; exact List.mem_of_mem_drop he))).inn
   have hpl := yK (g := x.g) (i := i - 1) (m := l) (by omega)
   have hcl : c < (x.cutM m).2.length := by
    by_cases hcl : c < (x.cutM m).2.length
    ·exact hcl
    ·have : l = [] := by rw [hc1]; exact List.drop_eq_nil_of_le (by omega)
     exfalso
     have key : ∀ {l : List Ent} {i j : Int} {l2 : List Ent}, ND.fits x.g l i = some (j, l2) → l2 ≠ [] := by
      intro l
      induction l with
      | nil => intro i j l2 h; cases h
      | cons e l ih =>
       intro i j l2 h
       by_cases h1 : (x.g.at i).map (·.1) = some e.1
       ·rw [qM h1] at h; exact ih h
       ·rw [qS h1] at h; cases h; simp
     exact key hfi this
   have hle : (x.g.play (.add (i - 1) l)).last = (x.cutM m).1 + (x.cutM m).2.length := by
    rw [hpl, hc1]; simp; omega
   have h3 : UB T I { x with g := x.g.play (.add (i - 1) l) } := UB.mk0 h2 (by show (x.g.play _).last ≤ I; rw [hle]; omega) h.pp h.lb.st
   exact (h3.commits m (last := (x.cutM m).1 + (x.cutM m).2.length) (by show _ ≤ (x.g.play _).last; rw [hle]; omega)).answer1 ho m true (by omega) h0
theorem UB.addP {T I : Int} {x : ND} {m : Msg} (h : UB T I x) (ho : x.out = []) (hr : x.role = 0) (hm : MB T I m) : RB T I 0 (x.addP m) := by
 have h0 : cr x ≤ 0 := by rw [cr0 hr]; omega
 have hmi := hm.index
 have hb := h.lb.base
 have hl := h.lb.last
 have hl2 : x.g.last = x.g.base + x.g.all.length := rfl
 unfold ND.addP
 by_cases h1 : m.index < x.g.base ∧ (m.es.length : Int) < x.g.base - m.index
 ·rw [if_pos h1]; exact h.answer1 ho m true (by omega) h0
 ·by_cases h2 : ¬ m.index < x.g.base ∧ ¬ x.g.termAt m.index = some m.logTerm
  ·rw [if_neg h1, if_pos h2]; exact h.answer1 ho m false (by omega) h0
  ·rw [if_neg h1, if_neg h2]
   refine h.restP ho hr hm ?_ h1
   unfold ND.cutM
   by_cases h3 : m.index < x.g.base
   ·rw [if_pos h3]; dsimp only; omega
   ·rw [if_neg h3]
    have h4 : x.g.termAt m.index = some m.logTerm := by
     by_cases h4 : x.g.termAt m.index = some m.logTerm
     ·exact h4
     ·exact absurd ⟨h3, h4⟩ h2
    exact ZS h4
theorem UB.snapP {T I : Int} {x : ND} {m : Msg} (h : UB T I x) (ho : x.out = []) (hr : x.role = 0) (hm : MB T I m) : RB T I 0 (x.snapP m) := by
 have h0 : cr x ≤ 0 := by rw [cr0 hr]; omega
 have hmi := hm.index
 have hcm := h.inn.commit
 have hb := h.lb.base
 have hl := h.lb.last
 have hi := (h.inn.snapP (fun hr2 => absurd (hr.symm.trans hr2) (by decide)) hm.ln).inn
 unfold ND.snapP at hi ⊢
 by_cases h1 : m.index > x.commit
 ·rw [if_pos h1] at hi ⊢
  obtain ⟨e1, e2, e3, e4, e5, e6, e7, e8⟩ := QdN (g := x.g) (i := m.index) (t := m.logTerm) (s := m.state) (by omega)
  have hi2 : LIn T I I.toNat { x with g := x.g.inst m.index m.logTerm m.state, commit := m.index } := by
   have := hi.sends x.out; exact this
  have h3 : UB T I { x with g := x.g.inst m.index m.logTerm m.state, commit := m.index } := UB.mk0 hi2 (by show (x.g.inst _ _ _).last ≤ I; omega) h.pp (by rw [show ({ x with g := x.g.inst m.index m.logTerm m.state, commit := m.index } : ND).g = x.g.inst m.index m.logTerm m.state from rfl, e8, e1]; exact hm.st)
  exact h3.answer1 ho m true (by omega) h0
 ·rw [if_neg h1]
  exact h.answer1 ho m true (by omega) h0
theorem UB.follows {T I : Int} {x : ND} {m : Msg} (h : UB T I x) : UB T I (x.follows m) := ⟨(LIn.follows (m := m) h.inn).inn, h.lb⟩
theorem RB.le {T I c d : Int} {y : ND} (h : RB T I c y) (hc : c ≤ d) : RB T I d y := by
 obtain ⟨I', a, b, e, f⟩ := h
 exact ⟨I', a, by omega, e, f⟩
theorem UB.fedP {T I : Int} {x : ND} {m : Msg} (h : UB T I x) (ho : x.out = []) (hm : MB T I m) : RB T I (cr x) (x.fedP m) := by
 have hc := Qdl x
 unfold ND.fedP
 split
 ·exact h.answer1 ho m false ⟨Int.le_refl _, h.i0⟩ (Int.le_refl _)
 ·split
  ·exact h.quiet ho (Int.le_refl _)
  ·split
   ·exact (UB.addP (x := x.follows m) h.follows ho rfl hm).le (by omega)
   ·exact (UB.snapP (x := x.follows m) h.follows ho rfl hm).le (by omega)
theorem UB.setPeer {T I : Int} {x : ND} (h : UB T I x) (to : Nat) {p : Int × Int} (hp : (1 ≤ p.1 ∧ p.1 ≤ I + 1) ∧ (0 ≤ p.2 ∧ p.2 ≤ x.g.last)) : UB T I (x.setPeer to p) := ⟨(h.inn.setPeer to hp).inn, h.lb⟩
theorem UB.feed1 {T I c : Int} {x : ND} (h : UB T I x) (ho : x.out = []) (to : Nat) (hc : cr x ≤ c) : RB T I c (x.feed to) := h.send1 ho _ (h.feedM to) hc
theorem UB.heardP {T I : Int} {x : ND} {m : Msg} (h : UB T I x) (ho : x.out = []) (hm : MB T I m) : RB T I (cr x) (x.heardP m) := by
 have hix := hm.index
 have h0 := h.lb.base
 have hcm := h.inn.commit
 have hl := h.lb.last
 unfold ND.heardP Yb
 dsimp only
 by_cases h1 : ¬ x.role = 2 ∨ ¬ m.term = x.g.term
 ·rw [if_pos h1]; exact h.quiet ho (Int.le_refl _)
 ·have hr : x.role = 2 := by
   by_cases hr : x.role = 2
   ·exact hr
   ·exact absurd (.inl hr) h1
  have hp := h.inn.peerb hr m.frm.toNat
  rw [if_neg h1]
  by_cases h2 : m.ok = false
  ·rw [if_pos h2]
   exact (h.setPeer m.frm.toNat (p := (max (min (x.nxt m.frm.toNat - 1) (m.index + 1)) (x.mat m.frm.toNat + 1), x.mat m.frm.toNat)) (by dsimp only; omega)).feed1 ho _ (Int.le_refl _)
  ·rw [if_neg h2]
   have h3 := h.setPeer m.frm.toNat (p := (max (x.mat m.frm.toNat) (min m.index x.g.last) + 1, max (x.mat m.frm.toNat) (min m.index x.g.last))) (by dsimp only; omega)
   have h4 := h3.count hr
   have hcr : cr (ND.count (x.setPeer m.frm.toNat (max (x.mat m.frm.toNat) (min m.index x.g.last) + 1, max (x.mat m.frm.toNat) (min m.index x.g.last)))) = cr x := by unfold cr; rw [(YO _).2.2.1]; rfl
   split
   ·exact h4.feed1 (by rw [(YO _).1]; exact ho) _ (Int.le_of_eq hcr)
   ·exact h4.quiet (by rw [(YO _).1]; exact ho) (Int.le_of_eq hcr)
theorem UB.kindP {T I : Int} {x : ND} {m : Msg} (h : UB T I x) (ho : x.out = []) (hm : MB T I m) (hf : 0 ≤ m.frm ∧ m.frm < x.n) : RB T I (cr x) (x.kindP m) := by
 unfold ND.kindP
 split
 ·exact h.askedP ho hf
 ·split
  ·exact h.votedP ho hf
  ·split
   ·exact h.fedP ho hm
   ·split
    ·exact h.heardP ho hm
    ·exact h.quiet ho (Int.le_refl _)
theorem UB.receiveP {T I : Int} {x : ND} {m : Msg} (h : UB T I x) (ho : x.out = []) (hm : MB T I m) : RB T I (cr x) (x.receiveP m) := by
 have hc := Qdl x
 have ht := h.inn.term
 unfold ND.receiveP
 by_cases h1 : ¬ m.to = x.id ∨ m.frm = x.id ∨ m.frm < 0 ∨ m.frm ≥ x.n
 ·rw [if_pos h1]; exact h.quiet ho (Int.le_refl _)
 ·rw [if_neg h1]
  have hf : 0 ≤ m.frm ∧ m.frm < x.n := by omega
  by_cases h2 : m.term > x.g.term
  ·rw [if_pos h2]
   have h3 := h.inn.set (t := m.term) (v := -1) hm.term (by omega) (.inl (by omega))
   have h4 : UB T I (ND.newTerm { x with g := { x.g with term := m.term, vote := -1 } }) := ⟨h3.inn.newTerm, h.lb.set hm.term (by omega)⟩
   exact (h4.kindP ho hm hf).le (by rw [cr0 rfl]; omega)
  ·rw [if_neg h2]; exact h.kindP ho hm hf
theorem QbE {x : ND} (h : x.out = []) : x.feedAll.out.length ≤ x.n := by
 rw [jk h]; simp; exact Qcq x
theorem Qa5 {x : ND} (h : x.out = []) (cmd : Bs) : (x.entryP cmd).out.length ≤ x.n := by
 have h1 : ∀ z : ND, z.out = [] → z.n = x.n → z.feedAll.out.length ≤ x.n := fun z hz hn => by have := QbE hz; omega
 unfold ND.entryP
 exact h1 _ (by rw [(YO _).1]; exact h) (by rw [(YO _).2.2.2.2.1])
theorem QjC {x : ND} (h : x.out = []) : x.tickP.out.length ≤ x.n := by
 unfold ND.tickP
 split
 ·split
  ·exact QbE (x := { x with patience := 0 }) h
  ·show x.out.length ≤ _; rw [h]; simp
 ·split
  ·unfold ND.standP
   split
   ·exact Qa5 (x := ND.wins (ND.stands { x with patience := x.patience + 1, g := { x.g with term := x.g.term + 1, vote := x.id } })) h []
   ·rw [Qaq (x := ND.stands { x with patience := x.patience + 1, g := { x.g with term := x.g.term + 1, vote := x.id } }) h]
    simp; exact Qcq x
  ·show x.out.length ≤ _; rw [h]; simp
theorem QjU {x : ND} (h : x.out = []) (hn : 1 ≤ x.n) (m : Msg) : (x.receiveP m).out.length ≤ x.n := by
 have h1 : ∀ z : ND, z.out = [] → z.n = x.n → (z.kindP m).out.length ≤ x.n := fun z hz hzn => by
  have hs : ∀ (y : ND), y.out = [] → ∀ m, (y.send m).out.length ≤ x.n := fun y hy m => by rw [jV hy]; simpa using hn
  have ha : ∀ (y : ND), y.out = [] → ∀ (ok : Bool) (i : Int), (y.answer m ok i).out.length ≤ x.n := fun y hy ok i => hs y hy _
  have hf : ∀ (y : ND), y.out = [] → ∀ (to : Nat), (y.feed to).out.length ≤ x.n := fun y hy to => hs y hy _
  have h0 : ∀ (y : ND), y.out = [] → y.out.length ≤ x.n := fun y hy => by rw [hy]; simp
  unfold ND.kindP
  split
  ·unfold ND.askedP
   split
   ·exact hs { z with g := { z.g with term := z.g.term, vote := m.frm }, patience := 0 } hz _
   ·exact hs z hz _
  ·split
   ·unfold ND.votedP
    split
    ·exact h0 z hz
    ·split
     ·exact hzn ▸ Qa5 (x := ND.wins { z with votes := QW z.votes m.frm }) hz []
     ·exact h0 { z with votes := QW z.votes m.frm } hz
   ·split
    ·unfold ND.fedP
     split
     ·exact ha z hz _ _
     ·split
      ·exact h0 z hz
      ·split
       ·unfold ND.addP
        split
        ·exact ha (z.follows m) hz _ _
        ·split
         ·exact ha (z.follows m) hz _ _
         ·unfold ND.restP
          split
          ·exact ha ((z.follows m).commits m _) hz _ _
          ·split
           ·exact h0 (z.follows m) hz
           ·exact ha (ND.commits { (z.follows m) with g := _ } m _) hz _ _
       ·unfold ND.snapP
        split
        ·exact ha { (z.follows m) with g := _, commit := m.index } hz _ _
        ·exact ha (z.follows m) hz _ _
    ·split
     ·unfold ND.heardP Yb
      dsimp only
      split
      ·exact h0 z hz
      ·split
       ·exact hf (z.setPeer m.frm.toNat _) hz _
       ·split
        ·exact hf (ND.count (z.setPeer m.frm.toNat _)) (by rw [(YO _).1]; exact hz) _
        ·exact h0 (ND.count (z.setPeer m.frm.toNat _)) (by rw [(YO _).1]; exact hz)
     ·exact h0 z hz
 unfold ND.receiveP
 split
 ·rw [h]; simp
 ·split
  ·exact h1 (ND.newTerm { x with g := { x.g with term := m.term, vote := -1 } }) h rfl
  ·exact h1 x h rfl
theorem Qhk {n m : Nat} {P : LG → Prop} {x y : ND} {D : DK} {f : NS → Bool × NS} (hd : x.down = false) (hl : SD m x.g D) (ho : x.out = []) (h : Fx n P (f (x, D)) y) :
  ((Xn (x, D) f).1 = y.out ∧ (Xn (x, D) f).2.1 = y ∧ SD n y.g (Xn (x, D) f).2.2) ∨ ((Xn (x, D) f).1 = [] ∧ Xm (Xn (x, D) f).2 = true ∧ FD n P (Xn (x, D) f).2.2) := by
 have hu : ¬ Xm (x, D) = true := by unfold Xm; simp [hd, hl.1, hl.2.2.2.1]
 rw [jy]
 unfold qI
 rw [if_neg hu, show ({ x with out := [] } : ND) = x from jd ho]
 rcases h with ⟨h1, h2, h3⟩ | ⟨h1, h2, h3⟩
 ·rw [if_pos h1]
  exact .inl ⟨by rw [h2], h2, h3⟩
 ·rw [if_neg (by simp [h1])]
  exact .inr ⟨rfl, by unfold Xm; rw [h2]; rfl, h3⟩
theorem Qay {n : Nat} {x : ND} {D : DK} (hd : x.down = false) (hl : SD n x.g D) : ¬ Xm (x, D) = true := by unfold Xm; simp [hd, hl.1, hl.2.2.2.1]
structure MU (T I : Int) (N i n : Nat) (m : MS) : Prop where
 ub : UB T I m.x
 id : m.x.id = i
 n : m.x.n = n
 sd : SD N m.x.g m.D
 ap : m.ap ≤ m.x.commit
structure MI (T I : Int) (N i n : Nat) (m : MS) : Prop where
 out : m.x.out = []
 l : (m.l.length : Int) ≤ m.ap ∧ ∀ s ∈ m.l, s.length ≤ 100
 ap : m.ap ≤ I
 st : MU T I N i n m ∨ (m.D.down = true ∧ FD N (LB T I) m.D)
def crm (m : MS) : Int := if m.dn = true then 0 else cr m.x
theorem Qal (m : MS) : 0 ≤ crm m ∧ crm m ≤ 1 := by have := Qdl m.x; unfold crm; split <;> omega
theorem MU.dn {T I : Int} {N i n : Nat} {m : MS} (h : MU T I N i n m) : m.dn = false := by
 have := Qay h.ub.inn.down h.sd
 unfold MS.dn; simpa using this
theorem YH {m : MS} (h : m.D.down = true) : m.dn = true := by unfold MS.dn Xm; rw [h]; simp
theorem MI.mono {T T' I I' : Int} {N N' i n : Nat} {m : MS} (h : MI T I N i n m) (hT : T ≤ T') (hI : I ≤ I') (hN : N ≤ N') : MI T' I' N' i n m :=
 ⟨h.out, h.l, Int.le_trans h.ap hI, h.st.imp (fun u => ⟨u.ub.mono hT hI, u.id, u.n, u.sd.mono hN, u.ap⟩) (fun d => ⟨d.1, d.2.imp hN (fun g hg => hg.mono hT hI)⟩)⟩
theorem MI.ok {T I : Int} {N i n : Nat} {m : MS} (h : MI T I N i n m) : m.D.ok N := by
 rcases h.st with u | d
 ·exact u.sd.okD
 ·exact d.2.1
theorem MI.mw {T I : Int} {N i n : Nat} {m : MS} (h : MI T I N i n m) (hT : T ≤ 2305843009213693952) (hI : I ≤ 9500) (hN : N ≤ 690000000) : MW m := by
 have hl := h.l
 have ha := h.ap
 refine ⟨fun hd => ?_, h.out, DK.ok_le h.ok hN, ⟨by omega, hl.2⟩, by omega⟩
 rcases h.st with u | d
 ·exact u.ub.inn.nin0 ⟨hT, by omega, by omega⟩ h.out
 ·exact absurd (YH d.1) hd
theorem MI.act {T T' I I' : Int} {N N' i n : Nat} {m : MS} {f : NS → Bool × NS} {y : ND} (h : MI T I N i n m) (u : MU T I N i n m) (hT : T ≤ T') (hI : I ≤ I') (hy : UB T' I' y) (htr : TR m.x y) (hfx : Fx N' (LB T' I') (f (m.x, m.D)) y) (hym : ∀ g ∈ y.out, MB T' I' g) :
  MI T' I' N' i n (m.act (Xn (m.x, m.D) f)).1 ∧ (∀ g ∈ (m.act (Xn (m.x, m.D) f)).2, MB T' I' g) ∧ (m.act (Xn (m.x, m.D) f)).2.length ≤ y.out.length ∧ crm (m.act (Xn (m.x, m.D) f)).1 ≤ cr y := by
 have hl := h.l
 have ha := h.ap
 have hcr := Qdl y
 rcases Qhk u.ub.inn.down u.sd h.out hfx with ⟨e1, e2, e3⟩ | ⟨e1, e2, e3⟩
 ·have ex : (m.act (Xn (m.x, m.D) f)).1 = { m with x := y.q, D := (Xn (m.x, m.D) f).2.2 } := by unfold MS.act; rw [e2]
  have em : (m.act (Xn (m.x, m.D) f)).2 = y.out := e1
  rw [ex, em]
  have hu : MU T' I' N' i n { m with x := y.q, D := (Xn (m.x, m.D) f).2.2 } := ⟨⟨hy.inn.q, hy.lb⟩, htr.id.trans u.id, htr.n.trans u.n, e3, Int.le_trans u.ap htr.com⟩
  exact ⟨⟨rfl, hl, Int.le_trans ha hI, .inl hu⟩, hym, Nat.le_refl _, by unfold crm; rw [hu.dn]; exact Int.le_refl _⟩
 ·have em : (m.act (Xn (m.x, m.D) f)).2 = [] := e1
  rw [em]
  refine ⟨⟨rfl, hl, Int.le_trans ha hI, .inr ⟨e3.2.1, e3⟩⟩, fun g hg => (by cases hg), Nat.zero_le _, ?_⟩
  unfold crm
  rw [if_pos (show (m.act (Xn (m.x, m.D) f)).1.dn = true from YH e3.2.1)]
  omega
theorem MI.act0 {T I : Int} {N i n : Nat} {m : MS} (h : MI T I N i n m) : (m.act ([], (m.x, m.D))) = (m, []) := by
 unfold MS.act
 rw [jd h.out]
def Qbs (T I : Int) (N i n : Nat) (c : Int) (r : MS × List Msg) : Prop := ∃ I', I ≤ I' ∧ I' + crm r.1 ≤ I + c ∧ MI T I' N i n r.1 ∧ (∀ g ∈ r.2, MB T I' g) ∧ r.2.length ≤ n
theorem MI.stay {T T' I : Int} {N N' i n : Nat} {m : MS} (h : MI T I N i n m) (hT : T ≤ T') (hN : N ≤ N') {c : Int} (hc : crm m ≤ c) : Qbs T' I N' i n c (m, []) :=
 ⟨I, Int.le_refl _, by dsimp only; omega, h.mono hT (Int.le_refl _) hN, fun g hg => (by cases hg), Nat.zero_le _⟩
theorem Qnm {m : MS} (h : m.dn = true) : crm m = 0 := by unfold crm; rw [if_pos h]
theorem MI.tick {T I : Int} {N i n : Nat} {m : MS} (h : MI T I N i n m) (hT : T ≤ 1000000000) (hI : I ≤ 9500) : Qbs (T + 1) I (N + 6000) i n (crm m + 1) m.tick := by
 have hcm := Qal m
 rcases h.st with u | d
 ·have ht := u.ub.lb.term
  have hid := u.ub.inn.idn
  have hcr : crm m = cr m.x := by unfold crm; rw [u.dn]; rfl
  obtain ⟨I', a1, a2, a3, a4⟩ := u.ub.tickP h.out
  have hnn := u.ub.inn.nin0 ⟨by omega, by omega, by omega⟩ h.out
  have hm := u.ub.lb.mono (show T ≤ T + 1 by omega) a1
  have hfx := QmH (n := N) (P := LB (T + 1) I') (by omega) u.sd hnn hm (hm.set (t := m.x.g.term + 1) (v := m.x.id) (by omega) (by omega)) a3.lb
  obtain ⟨b1, b2, b3, b4⟩ := h.act u (show T ≤ T + 1 by omega) a1 a3 u.ub.inn.tickP.tr hfx a4
  exact ⟨I', a1, by rw [hcr]; show I' + crm (m.act (Xn (m.x, m.D) tickN)).1 ≤ _; omega, b1, b2, Nat.le_trans b3 (by have := QjC h.out; rw [u.n] at this; exact this)⟩
 ·have hd := YH d.1
  have e : m.tick = (m, []) := by unfold MS.tick; rw [ZJ (show Xm (m.x, m.D) = true from hd)]; exact h.act0
  rw [e]
  exact h.stay (by omega) (by omega) (by omega)
theorem MI.recv {T I : Int} {N i n : Nat} {m : MS} (h : MI T I N i n m) {g : Msg} (hg : MB T I g) (hT : T ≤ 1000000000) (hI : I ≤ 9500) (hN : 17000000 ≤ N) : Qbs T I (N + 6000) i n (crm m) (m.recv g) := by
 have hcm := Qal m
 rcases h.st with u | d
 ·have ht := u.ub.lb.term
  have hid := u.ub.inn.idn
  have hcr : crm m = cr m.x := by unfold crm; rw [u.dn]; rfl
  obtain ⟨I', a1, a2, a3, a4⟩ := u.ub.receiveP h.out hg
  have hnn := u.ub.inn.nin0 ⟨by omega, by omega, by omega⟩ h.out
  have hm := u.ub.lb.mono (Int.le_refl T) a1
  have hgt := hg.term
  have hfx := QiD (n := N) (k := 0) (m := g) (P := LB T I') hN (by omega) u.sd hnn (hg.im (by omega) (by omega)).1 u.ub.inn.commit.1 hm (fun _ => hm.set (t := g.term) (v := -1) (by omega) (by omega)) a3.lb
  obtain ⟨b1, b2, b3, b4⟩ := h.act (f := fun s => Xk s g) u (Int.le_refl T) a1 a3 (u.ub.inn.receiveP hg.ln).tr hfx a4
  exact ⟨I', a1, by rw [hcr]; show I' + crm (m.act (Xn (m.x, m.D) (fun s => Xk s g))).1 ≤ _; omega, b1, b2, Nat.le_trans b3 (by have := QjU h.out (by omega) g; rw [u.n] at this; exact this)⟩
 ·have hd := YH d.1
  have e : m.recv g = (m, []) := by unfold MS.recv; rw [ZJ (show Xm (m.x, m.D) = true from hd)]; exact h.act0
  rw [e]
  exact h.stay (by omega) (by omega) (by omega)
theorem QaS {T I : Int} {N i n : Nat} {m : MS} (h : MI T I N i n m) (u : MU T I N i n m) (hr : m.x.role = 2) {cmd : Bs} {P : LG → Prop} {N' : Nat} (hfx : Fx N' P (QQ (m.x, m.D) cmd) (m.x.entryP cmd)) : (m.prop cmd).2 = m.act (Xn (m.x, m.D) (fun s => QQ s cmd)) := by
 unfold MS.prop Xz
 rw [if_neg (by simpa using hr)]
 by_cases h1 : Xm (Xn (m.x, m.D) (fun s => QQ s cmd)).2 = true
 ·rw [if_pos h1]
  rcases Qhk (f := fun s => QQ s cmd) u.ub.inn.down u.sd h.out hfx with ⟨e1, e2, e3⟩ | ⟨e1, e2, e3⟩
  ·exfalso
   have h2 : Xm (m.x.entryP cmd, (Xn (m.x, m.D) (fun s => QQ s cmd)).2.2) = true := by rw [← e2]; exact h1
   have e3d := e3.1
   have e3g := e3.2.2.2.1
   unfold Xm at h2
   rw [e3d, e3g] at h2
   have h3 : (m.x.entryP cmd).down = m.x.down := by unfold ND.entryP; rw [Xo]; show (ND.count _).down = _; unfold ND.count; split <;> rfl
   rw [h3, u.ub.inn.down] at h2
   cases h2
  ·unfold MS.act; rw [e1]
 ·rw [if_neg h1]
theorem jD {m : MS} {cmd : Bs} (hr : ¬ m.x.role = 2) : m.prop cmd = ((0, 0), m.act ([], (m.x, m.D))) := by
 unfold MS.prop Xz
 rw [if_pos hr]
theorem Qgw {m : MS} {cmd : Bs} (hd : m.dn = true) : m.prop cmd = ((0, 0), m.act ([], (m.x, m.D))) := by
 by_cases hr : m.x.role = 2
 ·unfold MS.prop Xz
  rw [if_neg (by simpa using hr)]
  rw [ZJ (show Xm (m.x, m.D) = true from hd), if_pos (show Xm (([] : List Msg), (m.x, m.D)).2 = true from hd)]
 ·exact jD hr
theorem MI.prop {T I : Int} {N i n : Nat} {m : MS} (h : MI T I N i n m) {cmd : Bs} (hc : cmd.length ≤ 100) (hT : T ≤ 1000000000) (hI : I ≤ 9500) : Qbs T I (N + 6000) i n (crm m + 1) (m.prop cmd).2 := by
 have hcm := Qal m
 have hst : Qbs T I (N + 6000) i n (crm m + 1) (m, []) := h.stay (Int.le_refl _) (by omega) (by omega)
 rcases h.st with u | d
 ·by_cases hr : m.x.role = 2
  ·have ht := u.ub.lb.term
   have hnn := u.ub.inn.nin0 ⟨by omega, by omega, by omega⟩ h.out
   obtain ⟨a3, a4⟩ := u.ub.entryP h.out hr hc
   have hfx := (Qdk (n := N) (P := LB T (I + 1)) (by omega) u.sd hnn hc (u.ub.lb.mono (Int.le_refl _) (by omega)) a3.lb).mono (show N + 3000 ≤ N + 6000 by omega)
   rw [QaS h u hr hfx]
   obtain ⟨b1, b2, b3, b4⟩ := h.act (f := fun s => QQ s cmd) u (Int.le_refl T) (show I ≤ I + 1 by omega) a3 (u.ub.inn.entryP hr hc).tr hfx a4
   have hcr : cr (m.x.entryP cmd) = 0 := by unfold cr; rw [QcJ, hr]; rfl
   exact ⟨I + 1, by omega, by omega, b1, b2, Nat.le_trans b3 (by have := Qa5 h.out cmd; rw [u.n] at this; exact this)⟩
  ·rw [jD hr, h.act0]; exact hst
 ·rw [Qgw (YH d.1), h.act0]; exact hst
theorem QgY {m : MS} (h : m.x.out = []) (hd : m.dn = true) : m.comp = (3, m) := by
 unfold MS.comp Ym
 rw [if_pos (show Xm (m.x, m.D) = true from hd)]
 dsimp only
 rw [jd h]
theorem Qdn {T I : Int} {N i n : Nat} {m : MS} (h : MI T I N i n m) (u : MU T I N i n m) : m.comp = if m.ap < m.x.g.base then (1, m) else (((m.x.g.swapD m.D (m.x.g.comp m.ap (stB m.l)))).1, { m with x := { m.x with g := (m.x.g.swapD m.D (m.x.g.comp m.ap (stB m.l))).2.1 }, D := (m.x.g.swapD m.D (m.x.g.comp m.ap (stB m.l))).2.2 }) := by
 have hcm := u.ub.inn.commit
 have hap := u.ap
 have ho := h.out
 have hx : ({ m.x with out := [] } : ND) = m.x := jd h.out
 have hgd : (m.x.g.down || m.D.down) = false := by rw [u.sd.1, u.sd.2.2.2.1]; rfl
 unfold MS.comp Ym
 rw [if_neg (Qay u.ub.inn.down u.sd), if_neg (by dsimp only; omega)]
 unfold LG.compD
 dsimp only
 rw [if_neg (by rw [hgd]; decide)]
 by_cases h1 : m.ap < m.x.g.base
 ·rw [if_pos (.inl h1), if_pos h1]
  try dsimp only
  rw [show ND.q { m.x with g := m.x.g } = m.x from jd h.out]
 ·rw [if_neg (by omega), if_neg h1]
  unfold ND.q
  rw [show ({ m.x with g := (m.x.g.swapD m.D (m.x.g.comp m.ap (stB m.l))).2.1, out := [] } : ND) = { m.x with g := (m.x.g.swapD m.D (m.x.g.comp m.ap (stB m.l))).2.1 } by rw [← ho]]
theorem MI.comp {T I : Int} {N i n : Nat} {m : MS} (h : MI T I N i n m) (hT : T ≤ 1000000000) (hI : I ≤ 9400) (hN : 17000000 ≤ N) : MI T I (N + 6000) i n m.comp.2 ∧ crm m.comp.2 ≤ crm m := by
 have hcm := Qal m
 have hl := h.l
 have hai := h.ap
 rcases h.st with u | d
 ·have hcmm := u.ub.inn.commit
  have hap := u.ap
  rw [Qdn h u]
  by_cases h1 : m.ap < m.x.g.base
  ·rw [if_pos h1]; exact ⟨h.mono (Int.le_refl _) (Int.le_refl _) (by omega), Int.le_refl _⟩
  ·rw [if_neg h1]
   have hsl := zf hl.2 (by omega)
   have hun := Qgi hl.2 (by omega)
   have hi := (u.ub.inn.comp (i := m.ap) (s := stB m.l) (by omega) (by omega)).inn
   have hla : (m.x.g.comp m.ap (stB m.l)).last = m.x.g.last := by unfold LG.comp LG.last at *; simp; omega
   have hy : UB T I { m.x with g := m.x.g.comp m.ap (stB m.l) } := UB.mk0 hi (by show (m.x.g.comp _ _).last ≤ I; rw [hla]; exact u.ub.lb.last) u.ub.pp (by show ((unS (stB m.l)).length : Int) ≤ m.ap ∧ ∀ s ∈ unS (stB m.l), s.length ≤ 100; rw [hun]; exact hl)
   have hnn := hy.inn.nin0 ⟨by omega, by omega, by omega⟩ h.out
   have hok := hnn.g (by omega)
   have hw := Qai (k := 0) (by omega) hnn
   have hsw := Qew (P := LB T I) (to := m.x.g.comp m.ap (stB m.l)) (u.sd.mono (show N ≤ N + 6000 by omega)) hok u.sd.2.2.2.1 hw (by omega) u.ub.lb
   have hcr : crm m = cr m.x := by unfold crm; rw [u.dn]; rfl
   unfold LG.swapD
   rcases hsw with ⟨p1, p2⟩ | ⟨p1, p2⟩
   ·rw [if_pos p1]
    have hu : MU T I (N + 6000) i n { m with x := { m.x with g := m.x.g.comp m.ap (stB m.l) }, D := (m.D.swap (Rec.all (m.x.g.comp m.ap (stB m.l))).bytes).2 } := ⟨hy, u.id, u.n, p2, u.ap⟩
    exact ⟨⟨h.out, hl, hai, .inl hu⟩, by unfold crm; rw [hu.dn]; rw [if_neg (by decide), u.dn, if_neg (by decide)]; exact Int.le_refl _⟩
   ·rw [if_neg p1]
    exact ⟨⟨h.out, hl, hai, .inr ⟨p2.2.1, p2⟩⟩, by rw [Qnm (YH p2.2.1)]; omega⟩
 ·rw [QgY h.out (YH d.1)]
  exact ⟨h.mono (Int.le_refl _) (Int.le_refl _) (by omega), Int.le_refl _⟩
theorem MI.fuel {T I : Int} {N i n : Nat} {m : MS} (h : MI T I N i n m) {k : Int} (hk : jg k) : MI T I N i n { m with D := m.D.setFuel k } ∧ crm { m with D := m.D.setFuel k } = crm m := by
 refine ⟨⟨h.out, h.l, h.ap, ?_⟩, rfl⟩
 unfold jg at hk
 rcases h.st with u | ⟨d1, ⟨a1, a2, a3⟩, d3, d4⟩
 ·obtain ⟨s1, s2, s3, s4, s5, s6⟩ := u.sd
  exact .inl ⟨u.ub, u.id, u.n, ⟨s1, s2, ⟨by show _ ≤ k; omega, by show k ≤ _; omega, fun hb => by simpa [DK.setFuel] using hb⟩, s4, s5, s6⟩, u.ap⟩
 ·exact .inr ⟨d1, ⟨a1, a2, ⟨by show _ ≤ k; omega, by show k ≤ _; omega, fun hb => by simpa [DK.setFuel] using hb⟩⟩, d3, d4⟩
theorem MI.keeps {T I : Int} {N i n : Nat} {m : MS} (h : MI T I N i n m) : ∀ keep : Int, ∃ rs p g, (m.D.crash keep).b = QZ rs ++ p ∧ ZL p ∧ Plays LG.new rs g ∧ g.down = false ∧ LB T I g := by
 rcases h.st with u | d
 ·exact u.sd.crash_any u.ub.lb
 ·exact d.2.2.2
theorem MI.opens {T I : Int} {N i n : Nat} {m : MS} (h : MI T I N i n m) (keep : Int) : Qef m.D keep := by
 obtain ⟨rs, p, g, a, b, c, _⟩ := h.keeps keep
 exact ⟨rs, p, g, a, b, c⟩
theorem QfA {N : Nat} {P : LG → Prop} {D : DK} (hk : D.ok N) (h : ∀ keep : Int, ∃ rs p g, (D.crash keep).b = QZ rs ++ p ∧ ZL p ∧ Plays LG.new rs g ∧ g.down = false ∧ P g) (keep : Int) :
  P (QaB (D.crash keep).b) ∧ SD N (QaB (D.crash keep).b) ((D.crash keep).open (Qaz (D.crash keep).b) (QaA (D.crash keep).b)).2 := by
 obtain ⟨rs, p, g, a1, a2, a3, a4, a5, a6, a7⟩ := Qm6 hk h keep
 obtain ⟨t1, t2, t3⟩ := Qii ⟨a2, a3, a4⟩
 have e : (D.crash keep).open (Qaz (D.crash keep).b) (QaA (D.crash keep).b) = (D.crash keep).open rs p := by
  unfold DK.open
  rw [t1, t2]
 rw [t3, e]
 exact ⟨a5, a7⟩
theorem LB.start {T I : Int} {i n : Nat} {g : LG} (h : LB T I g) (hn : i < n ∧ n ≤ 9) : UB T I (ND.start i n g) := by
 have hl := h.last
 have hb := h.base
 have h1 : LIn T I I.toNat (ND.start i n g) := LIn.start hn h.term h.vote h.base h.baseT h.last h.stl (by unfold LG.last at hl; omega) h.all
 exact ⟨h1, h⟩
theorem MI.start {T I : Int} {N i n : Nat} {g : LG} {D : DK} (h : LB T I g) (hs : SD N g D) (hn : i < n ∧ n ≤ 9) : MI T I N i n (YF i n g D) ∧ crm (YF i n g D) = 0 := by
 have hl := h.last
 have hb := h.base
 have hgl : g.base ≤ g.last := by unfold LG.last; omega
 unfold YF
 split
 ·rename_i h1
  have hu : MU T I N i n ⟨ND.start i n g, D, unS g.state, g.base⟩ := ⟨h.start hn, rfl, rfl, hs, Int.le_refl _⟩
  exact ⟨⟨rfl, h.st, by dsimp only; omega, .inl hu⟩, by unfold crm; rw [hu.dn]; rfl⟩
 ·have hu : MU T I N i n ⟨ND.start i n g, D, [], 0⟩ := ⟨h.start hn, rfl, rfl, hs, hb⟩
  exact ⟨⟨rfl, by simp, by dsimp only; omega, .inl hu⟩, by unfold crm; rw [hu.dn]; rfl⟩
theorem MI.crash {T I : Int} {N i n : Nat} {m : MS} (h : MI T I N i n m) (hn : i < n ∧ n ≤ 9) (keep : Int) : MI T I N i n (m.crash i n keep) ∧ crm (m.crash i n keep) = 0 := by
 obtain ⟨h1, h2⟩ := QfA h.ok h.keeps keep
 unfold MS.crash
 exact MI.start h1 h2 hn
theorem Qg1 (i : Int) : ∀ (l : List Ent) (r : MS × List OC), (r.1.l.length : Int) ≤ r.1.ap → (∀ s ∈ r.1.l, s.length ≤ 100) → (∀ e ∈ l, e.2.length ≤ 100) → ((l.foldl (XI i) r).1.l.length : Int) ≤ (l.foldl (XI i) r).1.ap ∧ ∀ s ∈ (l.foldl (XI i) r).1.l, s.length ≤ 100
 | [], r, h1, h2, _ => ⟨h1, h2⟩
 | e :: l, r, h1, h2, h3 => by
  rw [List.foldl_cons]
  refine Qg1 i l _ ?_ ?_ (fun e he => h3 e (by simp [he]))
  ·unfold XI
   split
   ·show (r.1.l.length : Int) ≤ r.1.ap + 1; omega
   ·show ((r.1.l ++ [e.2]).length : Int) ≤ r.1.ap + 1; simp; omega
  ·unfold XI
   split
   ·exact h2
   ·intro s hs
    rcases List.mem_append.1 (show s ∈ r.1.l ++ [e.2] from hs) with hs | hs
    ·exact h2 s hs
    ·simp at hs; subst hs; exact h3 e (by simp)
theorem MI.done {T I : Int} {N i n : Nat} {m : MS} (h : MI T I N i n m) (j : Int) (o : List OC) : MI T I N i n (Xh j m o).1 ∧ crm (Xh j m o).1 = crm m ∧ ((Xh j m o).2.length : Int) ≤ o.length + I := by
 obtain ⟨ex, eD⟩ := yx j m o
 have hcr : crm (Xh j m o).1 = crm m := by unfold crm MS.dn; rw [ex, eD]
 have hl := h.l
 have hai := h.ap
 by_cases hd : m.dn = true
 ·have e : Xh j m o = (m, o) := by unfold Xh; rw [if_pos hd]
  rw [e]; exact ⟨h, rfl, by dsimp only; omega⟩
 ·rcases h.st with u | d
  ·have e : Xh j m o = m.rest.todo.foldl (XI j) (m.rest, o) := by unfold Xh; rw [if_neg hd]
   obtain ⟨p1, p2, p3, p4, p5⟩ := QcP j m.rest.todo (m.rest, o)
   rw [← e] at p1 p2 p3 p4 p5
   obtain ⟨q1, q2, q3, q4⟩ := zh m
   have hcm := u.ub.inn.commit
   have hlb := u.ub.lb
   have hll := hlb.last
   have htl := (Qer (m := m.rest)).1
   rw [q1] at htl
   have hap := u.ap
   have hrl : (m.rest.l.length : Int) ≤ m.rest.ap ∧ (∀ s ∈ m.rest.l, s.length ≤ 100) ∧ m.rest.ap ≤ m.x.commit := by
    unfold MS.rest
    split
    ·exact ⟨hlb.st.1, hlb.st.2, hcm.1⟩
    ·exact ⟨hl.1, hl.2, hap⟩
   have hte : ∀ e ∈ m.rest.todo, e.2.length ≤ 100 := fun e he => by
    have : e ∈ m.rest.x.g.all := List.mem_of_mem_drop (List.mem_of_mem_take he)
    rw [q1] at this
    exact (hlb.all e this).2
   obtain ⟨r1, r2⟩ := Qg1 j m.rest.todo (m.rest, o) hrl.1 hrl.2.1 hte
   rw [← e] at r1 r2
   dsimp only at p3 p5
   have hapn : (Xh j m o).1.ap ≤ m.x.commit := by rw [p3]; have := hrl.2.2; omega
   exact ⟨⟨by rw [ex]; exact h.out, ⟨r1, r2⟩, by omega, .inl ⟨by rw [ex]; exact u.ub, by rw [ex]; exact u.id, by rw [ex]; exact u.n, by rw [ex, eD]; exact u.sd, by rw [ex]; exact hapn⟩⟩, hcr, by have := hrl.1; omega⟩
  ·exact absurd (YH d.1) hd
def yQ (l : List MS) : Int := (l.map crm).sum
theorem Qan : ∀ {l : List MS} {i : Nat} {m : MS} (m' : MS), l[i]? = some m → yQ (l.set i m') + crm m = yQ l + crm m'
 | [], i, m, m', h => by simp at h
 | x :: l, 0, m, m', h => by simp at h; subst h; simp [yQ]; omega
 | x :: l, i + 1, m, m', h => by
  have := Qan m' (l := l) (i := i) (m := m) (by simpa using h)
  unfold yQ at this ⊢
  simp only [List.set_cons_succ, List.map_cons, List.sum_cons]
  omega
theorem zE : ∀ l : List MS, 0 ≤ yQ l
 | [] => by simp [yQ]
 | x :: l => by
  have h1 := zE l
  have h2 := Qal x
  unfold yQ at h1 ⊢
  simp only [List.map_cons, List.sum_cons]
  omega
structure GI (n a t : Nat) (I : Int) (G : GS) : Prop where
 len : G.ms.length = n ∧ 1 ≤ n ∧ n ≤ 9
 i0 : 0 ≤ I ∧ I + yQ G.ms ≤ t
 ms : ∀ i m, G.ms[i]? = some m → MI a I (17000000 + 6000 * a) i n m
 st : G.st.length ≤ n * a ∧ 0 ≤ G.last ∧ G.last ≤ ((n * a : Nat) : Int)
 msg : ∀ x ∈ G.st, MB a I x.2
 out : G.out.length ≤ a * 9500
theorem zv : ∀ {l : List Msg} {k : Int} {x : YM}, x ∈ XN k l → x.2 ∈ l
 | [], _, _, h => by cases h
 | m :: l, k, x, h => by
  rw [XN] at h
  rcases List.mem_cons.1 h with h | h
  ·subst h; simp
  ·exact List.mem_cons_of_mem _ (zv h)
theorem GI.later {n a t : Nat} {I : Int} {G : GS} (h : GI n a t I G) : GI n (a + 1) t I G := by
 have hm : n * (a + 1) = n * a + n := by rw [Nat.mul_add]; omega
 have h1 := h.st
 have h2 := h.out
 have h3 : (a + 1) * 9500 = a * 9500 + 9500 := Nat.add_mul a 1 9500
 exact ⟨h.len, h.i0, fun i m hi => (h.ms i m hi).mono (by omega) (Int.le_refl _) (by omega), by rw [hm]; omega, fun x hx => (h.msg x hx).mono (by omega) (Int.le_refl _), by rw [h3]; exact Nat.le_trans h2 (Nat.le_add_right _ _)⟩
theorem GI.gw {n a t : Nat} {I : Int} {G : GS} (h : GI n a t I G) (ha : a ≤ 90000) (ht : t ≤ 9400) : GW G := by
 have hc := zE G.ms
 have h0 := h.i0
 have hs := h.st
 have ho := h.out
 have hna : n * a ≤ 9 * 90000 := Nat.mul_le_mul h.len.2.2 ha
 refine ⟨by have := h.len; omega, fun m hm => ?_, by omega, by omega, fun x hx => (h.msg x hx).im (by omega) (by omega), by omega⟩
 obtain ⟨i, hi⟩ := List.mem_iff_getElem?.1 hm
 exact (h.ms i m hi).mw (by omega) (by omega) (by omega)
theorem GI.done {n a t : Nat} {I : Int} {G : GS} (h : GI n a t I G) {i : Nat} {m : MS} (hm : G.ms[i]? = some m) {r : MS × List Msg} {δ : Nat} (hr : Qbs ((a : Int) + 1) I (17000000 + 6000 * a + 6000) i n (crm m + δ) r) (ht : t + δ ≤ 9400) : ∃ I', GI n (a + 1) (t + δ) I' (G.done i r.1 r.2) := by
 obtain ⟨I', a1, a2, a3, a4, a5⟩ := hr
 have hc := zE G.ms
 have hc2 := Qan r.1 hm
 have h0 := h.i0
 have hi := (List.getElem?_eq_some_iff.1 hm).1
 obtain ⟨d1, d2, d3⟩ := a3.done i G.out
 have hc3 := Qan (Xh i r.1 G.out).1 hm
 have hcr := Qal r.1
 have hcp := zE (G.ms.set i r.1)
 have hm2 : n * (a + 1) = n * a + n := by rw [Nat.mul_add]; omega
 have hs := h.st
 have ho := h.out
 refine ⟨I', ⟨by show (G.ms.set i _).length = n ∧ _; rw [List.length_set]; exact h.len, ⟨by omega, by show I' + yQ (G.ms.set i _) ≤ _; rw [d2] at hc3; omega⟩, fun j mj hj => ?_, ?_, fun x hx => ?_, ?_⟩⟩
 ·have hj : (G.ms.set i (Xh i r.1 G.out).1)[j]? = some mj := hj
  by_cases e : i = j
  ·subst e
   rw [List.getElem?_set_self hi] at hj
   have hj := Option.some.inj hj
   subst hj
   exact d1.mono (by omega) (Int.le_refl _) (by omega)
  ·rw [List.getElem?_set_ne e] at hj
   exact (h.ms j mj hj).mono (by omega) a1 (by omega)
 ·show (G.st ++ XN G.last r.2).length ≤ _ ∧ 0 ≤ G.last + (r.2.length : Int) ∧ G.last + (r.2.length : Int) ≤ _
  rw [List.length_append, Qac, hm2]
  omega
 ·rcases List.mem_append.1 (show x ∈ G.st ++ XN G.last r.2 from hx) with hx | hx
  ·exact (h.msg x hx).mono (by omega) a1
  ·exact (a4 _ (zv hx)).mono (by omega) (Int.le_refl _)
 ·show (Xh i r.1 G.out).2.length ≤ _
  omega
theorem GI.mem {n a t : Nat} {I : Int} {G : GS} (h : GI n a t I G) {i : Nat} (hi : i < n) : ∃ m, G.ms[i]? = some m := ⟨_, List.getElem?_eq_getElem (by rw [h.len.1]; exact hi)⟩
theorem GI.I {n a t : Nat} {I : Int} {G : GS} (h : GI n a t I G) : I ≤ t := by
 have := zE G.ms
 have := h.i0
 omega
theorem GI.tick {n a t : Nat} {I : Int} {G : GS} (h : GI n a t I G) {i : Nat} (hi : i < n) (ha : a ≤ 90000) (ht : t + 1 ≤ 9400) : ∃ I', GI n (a + 1) (t + 1) I' (G.tick i) := by
 have hI := h.I
 obtain ⟨m, hm⟩ := h.mem hi
 rw [zd hm]
 exact h.done hm (δ := 1) ((h.ms i m hm).tick (by omega) (by omega)) ht
theorem GI.take {n a t : Nat} {I : Int} {G : GS} (h : GI n a t I G) (k : Int) : GI n a t I (G.take k) := by
 have h1 : ∀ x ∈ Zn G.st k, x ∈ G.st := fun x hx => by
  unfold Zn at hx
  split at hx
  ·exact List.mem_of_mem_eraseIdx hx
  ·exact hx
 have h2 : (Zn G.st k).length ≤ G.st.length := by
  unfold Zn
  split
  ·exact List.length_eraseIdx_le _ _
  ·exact Nat.le_refl _
 have hs := h.st
 exact ⟨h.len, h.i0, h.ms, ⟨by show (Zn G.st k).length ≤ _; omega, hs.2⟩, fun x hx => h.msg x (h1 x hx), h.out⟩
theorem qV {st : List YM} {k : Int} (h : XR st k = true) : atM st k ∈ st := by
 unfold XR at h
 simp at h
 obtain ⟨n, rfl⟩ := Int.eq_ofNat_of_zero_le h.1
 have hn : n < st.length := by omega
 rw [(Qap (x := st[n]) (by simp)).1]
 exact List.getElem_mem hn
theorem GI.deliver {n a t : Nat} {I : Int} {G : GS} (h : GI n a t I G) (k : Int) (ha : a ≤ 90000) (ht : t ≤ 9400) : ∃ I', GI n (a + 1) t I' (G.deliver k) := by
 have hI := h.I
 unfold GS.deliver
 split
 ·rename_i hb
  split
  ·split
   ·exact ⟨I, (h.take k).later⟩
   ·rename_i m hm
    have hg := h.msg _ (qV hb)
    have hmi := h.ms _ m hm
    have hs := hmi.recv hg (by omega) (by omega) (by omega)
    refine (h.take k).done hm (δ := 0) ?_ (by omega)
    obtain ⟨I', a1, a2, a3, a4, a5⟩ := hs
    exact ⟨I', a1, by omega, a3.mono (by omega) (Int.le_refl _) (Nat.le_refl _), fun g hg => (a4 g hg).mono (by omega) (Int.le_refl _), a5⟩
  ·exact ⟨I, (h.take k).later⟩
 ·exact ⟨I, h.later⟩
theorem GI.prop {n a t : Nat} {I : Int} {G : GS} (h : GI n a t I G) {i : Nat} (hi : i < n) {cmd : Bs} (hc : cmd.length ≤ 100) (ha : a ≤ 90000) (ht : t + 1 ≤ 9400) : ∃ I', GI n (a + 1) (t + 1) I' (G.propose i cmd).2 := by
 have hI := h.I
 obtain ⟨m, hm⟩ := h.mem hi
 rw [zg hm]
 refine h.done hm (δ := 1) ?_ ht
 obtain ⟨I', a1, a2, a3, a4, a5⟩ := (h.ms i m hm).prop hc (by omega) (by omega)
 exact ⟨I', a1, a2, a3.mono (by omega) (Int.le_refl _) (Nat.le_refl _), fun g hg => (a4 g hg).mono (by omega) (Int.le_refl _), a5⟩
theorem GI.set {n a t : Nat} {I : Int} {G : GS} (h : GI n a t I G) {i : Nat} {m m' : MS} (hm : G.ms[i]? = some m) (hm' : MI a I (17000000 + 6000 * a + 6000) i n m') (hc : crm m' ≤ crm m) : GI n (a + 1) t I { G with ms := G.ms.set i m' } := by
 have hl := h.later
 have h0 := h.i0
 have hc2 := Qan m' hm
 have hi := (List.getElem?_eq_some_iff.1 hm).1
 refine ⟨by show (G.ms.set i _).length = n ∧ _; rw [List.length_set]; exact h.len, ⟨h0.1, by show I + yQ (G.ms.set i m') ≤ _; omega⟩, fun j mj hj => ?_, hl.st, hl.msg, hl.out⟩
 have hj : (G.ms.set i m')[j]? = some mj := hj
 by_cases e : i = j
 ·subst e
  rw [List.getElem?_set_self hi] at hj
  have hj := Option.some.inj hj
  subst hj
  exact hm'.mono (by omega) (Int.le_refl _) (by omega)
 ·rw [List.getElem?_set_ne e] at hj
  exact hl.ms j mj hj
theorem GI.comp {n a t : Nat} {I : Int} {G : GS} (h : GI n a t I G) {i : Nat} (hi : i < n) (ha : a ≤ 90000) (ht : t ≤ 9400) : GI n (a + 1) t I (G.compact i).2 := by
 have hI := h.I
 obtain ⟨m, hm⟩ := h.mem hi
 rw [zl hm]
 obtain ⟨b1, b2⟩ := (h.ms i m hm).comp (by omega) (by omega) (by omega)
 exact h.set hm b1 b2
theorem GI.fuel {n a t : Nat} {I : Int} {G : GS} (h : GI n a t I G) {i : Nat} (hi : i < n) {k : Int} (hk : jg k) : GI n (a + 1) t I (G.fuel i k) := by
 obtain ⟨m, hm⟩ := h.mem hi
 rw [Qbk hm]
 obtain ⟨b1, b2⟩ := (h.ms i m hm).fuel hk
 exact h.set hm (b1.mono (Int.le_refl _) (Int.le_refl _) (by omega)) (Int.le_of_eq b2)
theorem GI.crash {n a t : Nat} {I : Int} {G : GS} (h : GI n a t I G) {i : Nat} (hi : i < n) (keep : Int) : GI n (a + 1) t I (G.crash i keep) := by
 obtain ⟨m, hm⟩ := h.mem hi
 have hl := h.len
 have hc := Qal m
 rw [Qam hm, hl.1]
 obtain ⟨b1, b2⟩ := (h.ms i m hm).crash ⟨hi, hl.2.2⟩ keep
 exact h.set hm (b1.mono (Int.le_refl _) (Int.le_refl _) (by omega)) (by omega)
theorem GI.twice {n a t : Nat} {I : Int} {G : GS} (h : GI n a t I G) (k : Int) : GI n (a + 1) t I (G.twice k) := by
 have hl := h.later
 have hm2 : n * (a + 1) = n * a + n := by rw [Nat.mul_add]; omega
 have hs := h.st
 have hn := h.len
 refine ⟨hl.len, hl.i0, hl.ms, ?_, fun x hx => ?_, hl.out⟩
 ·show (twL G.st G.last k).length ≤ _ ∧ 0 ≤ twN G.st G.last k ∧ twN G.st G.last k ≤ _
  unfold twL twN
  rw [hm2]
  split
  ·simp [XN]; omega
  ·omega
 ·have hx : x ∈ twL G.st G.last k := hx
  unfold twL at hx
  split at hx
  ·rename_i hb
   rcases List.mem_append.1 hx with hx | hx
   ·exact hl.msg x hx
   ·have := zv hx
    simp at this
    rw [this]
    exact hl.msg _ (qV hb)
  ·exact hl.msg x hx
theorem GI.outs {n a t : Nat} {I : Int} {G : GS} (h : GI n a t I G) : GI n a t I G.outs := ⟨h.len, h.i0, h.ms, h.st, h.msg, by show ([] : List OC).length ≤ _; simp⟩
theorem LB.new : LB 0 0 LG.new := ⟨by decide, by decide, by decide, by decide, by decide, fun e he => (by cases he), by rw [show unS LG.new.state = [] from QcV]; decide, by decide⟩
theorem GI.new {n : Nat} (hn : 1 ≤ n ∧ n ≤ 9) : GI n 0 0 0 (GS.new n) := by
 have hm : ∀ i m, (GS.new n).ms[i]? = some m → i < n ∧ m = YF i n LG.new DK.new := fun i m h => by
  have hi := (List.getElem?_eq_some_iff.1 h).1
  have hi : i < n := by simpa [GS.new] using hi
  simp [GS.new, hi] at h
  exact ⟨hi, h.symm⟩
 have hz : ∀ m ∈ (GS.new n).ms, crm m = 0 := fun m h => by
  obtain ⟨i, hi⟩ := List.mem_iff_getElem?.1 h
  obtain ⟨h1, rfl⟩ := hm i m hi
  exact (MI.start LB.new SD.new ⟨h1, hn.2⟩).2
 have hs : ∀ l : List MS, (∀ m ∈ l, crm m = 0) → yQ l = 0 := fun l => by
  induction l with
  | nil => intro _; rfl
  | cons x l ih =>
   intro h
   have h1 := ih (fun m hm => h m (by simp [hm]))
   unfold yQ at h1 ⊢
   rw [List.map_cons, List.sum_cons, h1, h x (by simp)]; rfl
 refine ⟨⟨by simp [GS.new], hn⟩, ⟨by omega, by rw [hs _ hz]; omega⟩, fun i m h => ?_, ⟨by simp [GS.new], by simp [GS.new]⟩, fun x hx => by simp [GS.new] at hx, by simp [GS.new]⟩
 obtain ⟨h1, rfl⟩ := hm i m h
 exact (MI.start LB.new (SD.new.mono (show 0 ≤ 17000000 + 6000 * 0 by omega)) ⟨h1, hn.2⟩).1
def GJ (n c d : Nat) (G : GS) : Prop := ∃ a t I, a + c ≤ 90000 ∧ t + d ≤ 9000 ∧ GI n a t I G
theorem GJ.new {n : Nat} (hn : 1 ≤ n ∧ n ≤ 9) : GJ n 90000 9000 (GS.new n) := ⟨0, 0, 0, by omega, by omega, GI.new hn⟩
theorem bud (n : Nat) : Bud n 90000 (GJ n) where
 gw := fun c d G ⟨a, t, I, ha, ht, h⟩ => h.gw (by omega) (by omega)
 ln := fun c d G ⟨a, t, I, ha, ht, h⟩ => h.len.1
 le := fun c d G ⟨a, t, I, ha, ht, h⟩ => ⟨a, t, I, by omega, by omega, h⟩
 le2 := fun c d G ⟨a, t, I, ha, ht, h⟩ => ⟨a, t, I, by omega, by omega, h⟩
 tick := fun c d G i hi ⟨a, t, I, ha, ht, h⟩ => by
  obtain ⟨I', h'⟩ := h.tick hi (by omega) (by omega)
  exact ⟨a + 1, t + 1, I', by omega, by omega, h'⟩
 del := fun c d G k ⟨a, t, I, ha, ht, h⟩ => by
  obtain ⟨I', h'⟩ := h.deliver k (by omega) (by omega)
  exact ⟨a + 1, t, I', by omega, by omega, h'⟩
 prop := fun c d G i cmd hi hc ⟨a, t, I, ha, ht, h⟩ => by
  obtain ⟨I', h'⟩ := h.prop hi hc (by omega) (by omega)
  exact ⟨a + 1, t + 1, I', by omega, by omega, h'⟩
 comp := fun c d G i hi ⟨a, t, I, ha, ht, h⟩ => ⟨a + 1, t, I, by omega, by omega, h.comp hi (by omega) (by omega)⟩
 fuel := fun c d G i k hi hk ⟨a, t, I, ha, ht, h⟩ => ⟨a + 1, t, I, by omega, by omega, h.fuel hi hk⟩
 opens := fun c d G i m k ⟨a, t, I, ha, ht, h⟩ hm => (h.ms i m hm).opens k
 crash := fun c d G i k hi ⟨a, t, I, ha, ht, h⟩ => ⟨a + 1, t, I, by omega, by omega, h.crash hi k⟩
 drop := fun c d G k ⟨a, t, I, ha, ht, h⟩ => ⟨a + 1, t, I, by omega, by omega, (h.take k).later⟩
 twice := fun c d G k ⟨a, t, I, ha, ht, h⟩ => ⟨a + 1, t, I, by omega, by omega, h.twice k⟩
 last := fun c d G ⟨a, t, I, ha, ht, h⟩ => by
  have h1 := h.st
  have h2 : n * a + n * c ≤ n * 90000 := by rw [← Nat.mul_add]; exact Nat.mul_le_mul_left n (by omega)
  omega
 outs := fun c d G ⟨a, t, I, ha, ht, h⟩ => ⟨a, t, I, ha, ht, h.outs⟩
def MS.er (m : MS) : MS := { m with D := DK.new }
def MS.tickS (m : MS) : MS × List Msg := ({ m with x := m.x.tickP.q }, m.x.tickP.out)
def MS.recvS (m : MS) (g : Msg) : MS × List Msg := ({ m with x := (m.x.receiveP g).q }, (m.x.receiveP g).out)
def MS.propS (m : MS) (c : Bs) : (Int × Int) × (MS × List Msg) := if m.x.role = 2 then (((m.x.entryP c).g.last, (m.x.entryP c).g.term), ({ m with x := (m.x.entryP c).q }, (m.x.entryP c).out)) else ((0, 0), (m, []))
def MS.compS (m : MS) : Int × MS := if m.ap < m.x.g.base then (1, m) else (0, { m with x := { m.x with g := m.x.g.comp m.ap (stB m.l) } })
def doneS (i : Int) (m : MS) (o : List OC) : MS × List OC := m.rest.todo.foldl (XI i) (m.rest, o)
def GS.doneS (G : GS) (i : Nat) (m : MS) (l : List Msg) : GS := ⟨G.ms.set i (V.doneS i m G.out).1, G.st ++ XN G.last l, G.last + l.length, (V.doneS i m G.out).2⟩
def GS.tickS (G : GS) (i : Nat) : GS := match G.ms[i]? with
 | none => G
 | some m => G.doneS i m.tickS.1 m.tickS.2
def GS.delS (G : GS) (k : Int) : GS :=
 if XR G.st k = true then
  if 0 ≤ (atM G.st k).2.to then match G.ms[(atM G.st k).2.to.toNat]? with
   | none => G.take k
   | some m => (G.take k).doneS (atM G.st k).2.to.toNat (m.recvS (atM G.st k).2).1 (m.recvS (atM G.st k).2).2
  else G.take k
 else G
def GS.propS (G : GS) (i : Nat) (c : Bs) : (Int × Int) × GS := match G.ms[i]? with
 | none => ((0, 0), G)
 | some m => ((m.propS c).1, G.doneS i (m.propS c).2.1 (m.propS c).2.2)
def GS.compS (G : GS) (i : Nat) : Int × GS := match G.ms[i]? with
 | none => (1, G)
 | some m => (m.compS.1, { G with ms := G.ms.set i m.compS.2 })
def GS.er (G : GS) : GS := { G with ms := G.ms.map MS.er }
def Hl (G : GS) : Prop := ∀ m ∈ G.ms, DKh m.D
theorem MI.up {T I : Int} {N i n : Nat} {m : MS} (h : MI T I N i n m) (hh : DKh m.D) : MU T I N i n m := by
 rcases h.st with u | d
 ·exact u
 ·rw [hh.1] at d; cases d.1
theorem MU.ld {T I : Int} {N i n : Nat} {m : MS} (u : MU T I N i n m) (hh : DKh m.D) : LD N m.x.g m.D := by
 obtain ⟨s1, s2, s3, s4, s5, s6⟩ := u.sd
 exact ⟨s1, hh.2, s2, ⟨s3.1, s3.2.1⟩, s4, s5, s6⟩
theorem Qnx (i : Int) (e : Ent) (r : MS × List OC) (D : DK) : XI i ({ r.1 with D := D }, r.2) e = ({ (XI i r e).1 with D := D }, (XI i r e).2) := by
 unfold XI
 split <;> rfl
theorem Qk2 (i : Int) (D : DK) : ∀ (l : List Ent) (r : MS × List OC), l.foldl (XI i) ({ r.1 with D := D }, r.2) = ({ (l.foldl (XI i) r).1 with D := D }, (l.foldl (XI i) r).2)
 | [], r => rfl
 | e :: l, r => by rw [List.foldl_cons, List.foldl_cons, Qnx, Qk2 i D l]
theorem Qky (i : Int) (m : MS) (o : List OC) (D : DK) : doneS i { m with D := D } o = ({ (doneS i m o).1 with D := D }, (doneS i m o).2) := by
 unfold doneS
 have h1 : ({ m with D := D } : MS).rest = { m.rest with D := D } := by unfold MS.rest; split <;> rfl
 have h2 : ({ m with D := D } : MS).rest.todo = m.rest.todo := by rw [h1]; rfl
 rw [h2, h1]
 exact Qk2 i D _ (m.rest, o)
theorem Qmi (i : Int) (m : MS) (o : List OC) : (doneS i m o).1.D = m.D := by
 unfold doneS
 rw [(QcP i m.rest.todo (m.rest, o)).2.1]
 exact (zh m).2.1
theorem Qfy {G : GS} {i : Nat} {m m' : MS} {l : List Msg} (hm : G.ms[i]? = some m) (hd : m'.dn = false) (hh : DKh m'.D) (hl : Hl G) : (G.done i m' l).er = G.er.doneS i m'.er l ∧ Hl (G.done i m' l) := by
 have e : Xh i m' G.out = doneS i m' G.out := by unfold Xh; rw [if_neg (by rw [hd]; decide)]; rfl
 have e2 := Qky i m' G.out DK.new
 constructor
 ·unfold GS.done GS.doneS GS.er
  rw [e]
  show GS.mk _ _ _ _ = GS.mk _ _ _ _
  rw [show m'.er = { m' with D := DK.new } from rfl, e2, List.map_set]
  rfl
 ·intro x hx
  rcases List.mem_or_eq_of_mem_set (show x ∈ G.ms.set i (Xh i m' G.out).1 from hx) with hx | hx
  ·exact hl x hx
  ·rw [hx, e, Qmi]; exact hh
theorem Qk4 {T I : Int} {N N' i n : Nat} {m : MS} {f : NS → Bool × NS} {y : ND} (h : MI T I N i n m) (u : MU T I N i n m) (hh : DKh m.D) (hf : Hs N' (f (m.x, m.D)) y) : ∃ D', DKh D' ∧ m.act (Xn (m.x, m.D) f) = ({ m with x := y.q, D := D' }, y.out) := by
 obtain ⟨a, b, c⟩ := QkQ u.ub.inn.down (u.ld hh) h.out hf
 exact ⟨_, c.h, by unfold MS.act; rw [a, b]⟩
theorem Qie {T I : Int} {N i n : Nat} {m : MS} (h : MI T I N i n m) (hh : DKh m.D) (hT : T ≤ 1000000000) (hI : I ≤ 9500) : ∃ D', DKh D' ∧ m.tick = ({ m with x := m.x.tickP.q, D := D' }, m.x.tickP.out) := by
 have u := h.up hh
 have hnn := u.ub.inn.nin0 ⟨by omega, by omega, by omega⟩ h.out
 exact Qk4 h u hh (QmJ (by omega) (u.ld hh) hnn)
theorem QiB {T I : Int} {N i n : Nat} {m : MS} (h : MI T I N i n m) (hh : DKh m.D) {g : Msg} (hg : MB T I g) (hT : T ≤ 1000000000) (hI : I ≤ 9500) (hN : 17000000 ≤ N) : ∃ D', DKh D' ∧ m.recv g = ({ m with x := (m.x.receiveP g).q, D := D' }, (m.x.receiveP g).out) := by
 have u := h.up hh
 have hnn := u.ub.inn.nin0 ⟨by omega, by omega, by omega⟩ h.out
 exact Qk4 (f := fun s => Xk s g) h u hh (QiF (k := 0) hN (by omega) (u.ld hh) hnn (hg.im (by omega) (by omega)).1 u.ub.inn.commit.1)
theorem QiN {T I : Int} {N i n : Nat} {m : MS} (h : MI T I N i n m) (hh : DKh m.D) {c : Bs} (hc : c.length ≤ 100) (hT : T ≤ 1000000000) (hI : I ≤ 9500) : ∃ D', DKh D' ∧ m.prop c = ((m.propS c).1, ({ (m.propS c).2.1 with D := D' }, (m.propS c).2.2)) := by
 have u := h.up hh
 by_cases hr : m.x.role = 2
 ·have hnn := u.ub.inn.nin0 ⟨by omega, by omega, by omega⟩ h.out
  have hf := QgQ (cmd := c) (by omega) (u.ld hh) hnn hc
  obtain ⟨a, b, d⟩ := QkQ (f := fun s => QQ s c) u.ub.inn.down (u.ld hh) h.out hf
  have hb2 : (m.x.entryP c).down = false := by
   have h3 : (m.x.entryP c).down = m.x.down := by unfold ND.entryP; rw [Xo]; show (ND.count _).down = _; unfold ND.count; split <;> rfl
   rw [h3]; exact u.ub.inn.down
  have hnd : ¬ Xm (Xn (m.x, m.D) (fun s => QQ s c)).2 = true := by
   have := QgV (D := (Xn (m.x, m.D) (fun s => QQ s c)).2.2) hb2 d
   rw [← b] at this
   exact this
  refine ⟨_, d.h, ?_⟩
  unfold MS.prop Xz MS.propS MS.act
  rw [if_neg (by simpa using hr), if_neg hnd, if_pos hr, a, b]
 ·refine ⟨m.D, hh, ?_⟩
  rw [jD hr, h.act0]
  unfold MS.propS
  rw [if_neg hr]
theorem Qjh {T I : Int} {N i n : Nat} {m : MS} (h : MI T I N i n m) (hh : DKh m.D) : ∃ D', DKh D' ∧ m.comp = (m.compS.1, { m.compS.2 with D := D' }) := by
 have u := h.up hh
 rw [Qdn h u]
 unfold MS.compS
 by_cases h1 : m.ap < m.x.g.base
 ·rw [if_pos h1, if_pos h1]; exact ⟨m.D, hh, rfl⟩
 ·rw [if_neg h1, if_neg h1]
  obtain ⟨s1, s2, s3, s4⟩ := Qex hh (Rec.all (m.x.g.comp m.ap (stB m.l))).bytes
  unfold LG.swapD
  rw [if_pos s1]
  exact ⟨_, s2, rfl⟩
theorem Qee {G : GS} {i : Nat} {m : MS} (hm : G.ms[i]? = some m) : G.er.ms[i]? = some m.er := by unfold GS.er; simp [hm]
theorem Qed {G : GS} {i : Nat} (hm : G.ms[i]? = none) : G.er.ms[i]? = none := by unfold GS.er; simpa using hm
theorem Ql6 {n a t : Nat} {I : Int} {G : GS} (h : GI n a t I G) (hl : Hl G) {i : Nat} (ha : a ≤ 90000) (ht : t + 1 ≤ 9400) : (G.tick i).er = G.er.tickS i ∧ Hl (G.tick i) := by
 have hI := h.I
 cases hm : G.ms[i]? with
 | none => unfold GS.tick GS.tickS; rw [hm, Qed hm]; exact ⟨rfl, hl⟩
 | some m =>
  have hmi := h.ms i m hm
  have hh := hl m (List.mem_of_getElem? hm)
  obtain ⟨D', hD', e⟩ := Qie hmi hh (by omega) (by omega)
  obtain ⟨I', a1, a2, a3, a4, a5⟩ := hmi.tick (by omega) (by omega)
  rw [zd hm]
  rw [e] at a3 ⊢
  obtain ⟨b1, b2⟩ := Qfy (m' := { m with x := m.x.tickP.q, D := D' }) (l := m.x.tickP.out) hm (a3.up hD').dn hD' hl
  refine ⟨?_, b2⟩
  unfold GS.tickS
  rw [Qee hm]
  exact b1
theorem Qij {G : GS} (hl : Hl G) (k : Int) : (G.take k).er = G.er.take k ∧ Hl (G.take k) := ⟨rfl, hl⟩
theorem Qnf {n a t : Nat} {I : Int} {G : GS} (h : GI n a t I G) (hl : Hl G) {k : Int} (ha : a ≤ 90000) (ht : t ≤ 9400) : (G.deliver k).er = G.er.delS k ∧ Hl (G.deliver k) := by
 have hI := h.I
 have est : G.er.st = G.st := rfl
 unfold GS.deliver GS.delS
 rw [est]
 split
 ·rename_i hb
  split
  ·cases hm : G.ms[(atM G.st k).2.to.toNat]? with
   | none => rw [Qed hm]; exact Qij hl k
   | some m =>
    rw [Qee hm]
    have hmi := h.ms _ m hm
    have hh := hl m (List.mem_of_getElem? hm)
    have hg := h.msg _ (qV hb)
    obtain ⟨D', hD', e⟩ := QiB hmi hh hg (by omega) (by omega) (by omega)
    obtain ⟨I', a1, a2, a3, a4, a5⟩ := hmi.recv hg (by omega) (by omega) (by omega)
    dsimp only
    rw [e] at a3 ⊢
    exact Qfy (G := G.take k) (m' := { m with x := (m.x.receiveP (atM G.st k).2).q, D := D' }) hm (a3.up hD').dn hD' hl
  ·exact Qij hl k
 ·exact ⟨rfl, hl⟩
theorem Qma {n a t : Nat} {I : Int} {G : GS} (h : GI n a t I G) (hl : Hl G) {i : Nat} {c : Bs} (hc : c.length ≤ 100) (ha : a ≤ 90000) (ht : t + 1 ≤ 9400) : (G.propose i c).1 = (G.er.propS i c).1 ∧ (G.propose i c).2.er = (G.er.propS i c).2 ∧ Hl (G.propose i c).2 := by
 have hI := h.I
 cases hm : G.ms[i]? with
 | none => unfold GS.propose GS.propS; rw [hm, Qed hm]; exact ⟨rfl, rfl, hl⟩
 | some m =>
  have hmi := h.ms i m hm
  have hh := hl m (List.mem_of_getElem? hm)
  obtain ⟨D', hD', e⟩ := QiN hmi hh hc (by omega) (by omega)
  obtain ⟨I', a1, a2, a3, a4, a5⟩ := hmi.prop hc (by omega) (by omega)
  have ep : m.er.propS c = ((m.propS c).1, ((m.propS c).2.1.er, (m.propS c).2.2)) := by unfold MS.propS; show (if m.x.role = 2 then _ else _) = _; split <;> rfl
  rw [zg hm]
  rw [e] at a3 ⊢
  obtain ⟨b1, b2⟩ := Qfy (m' := { (m.propS c).2.1 with D := D' }) (l := (m.propS c).2.2) hm (a3.up hD').dn hD' hl
  unfold GS.propS
  rw [Qee hm]
  dsimp only
  rw [ep]
  exact ⟨rfl, b1, b2⟩
theorem Qmb {n a t : Nat} {I : Int} {G : GS} (h : GI n a t I G) (hl : Hl G) {i : Nat} : (G.compact i).1 = (G.er.compS i).1 ∧ (G.compact i).2.er = (G.er.compS i).2 ∧ Hl (G.compact i).2 := by
 cases hm : G.ms[i]? with
 | none => unfold GS.compact GS.compS; rw [hm, Qed hm]; exact ⟨rfl, rfl, hl⟩
 | some m =>
  have hmi := h.ms i m hm
  have hh := hl m (List.mem_of_getElem? hm)
  obtain ⟨D', hD', e⟩ := Qjh hmi hh
  have ep : m.er.compS = (m.compS.1, m.compS.2.er) := by unfold MS.compS; show (if m.ap < m.x.g.base then _ else _) = _; split <;> rfl
  rw [zl hm, e]
  unfold GS.compS
  rw [Qee hm]
  dsimp only
  rw [ep]
  refine ⟨rfl, ?_, fun x hx => ?_⟩
  ·unfold GS.er
   show GS.mk _ _ _ _ = GS.mk _ _ _ _
   rw [List.map_set]; rfl
  ·rcases List.mem_or_eq_of_mem_set (show x ∈ G.ms.set i { m.compS.2 with D := D' } from hx) with hx | hx
   ·exact hl x hx
   ·rw [hx]; exact hD'
def SJ11 (n c d : Nat) (G : GS) : Prop := GJ n c d G ∧ Hl G
theorem SJ11.tick {n c d i : Nat} {G : GS} (h : SJ11 n (c + 1) (d + 1) G) (hi : i < n) : SJ11 n c d (G.tick i) ∧ (G.tick i).er = G.er.tickS i := by
 have hb := (bud n).tick c d G i hi h.1
 obtain ⟨⟨a, t, I, ha, ht, hg⟩, hl⟩ := h
 obtain ⟨e1, e2⟩ := Ql6 hg hl (i := i) (by omega) (by omega)
 exact ⟨⟨hb, e2⟩, e1⟩
theorem SJ11.del {n c d : Nat} {k : Int} {G : GS} (h : SJ11 n (c + 1) d G) : SJ11 n c d (G.deliver k) ∧ (G.deliver k).er = G.er.delS k := by
 have hb := (bud n).del c d G k h.1
 obtain ⟨⟨a, t, I, ha, ht, hg⟩, hl⟩ := h
 obtain ⟨e1, e2⟩ := Qnf hg hl (k := k) (by omega) (by omega)
 exact ⟨⟨hb, e2⟩, e1⟩
theorem SJ11.prop {n c d i : Nat} {cmd : Bs} {G : GS} (h : SJ11 n (c + 1) (d + 1) G) (hi : i < n) (hc : cmd.length ≤ 100) : SJ11 n c d (G.propose i cmd).2 ∧ (G.propose i cmd).1 = (G.er.propS i cmd).1 ∧ (G.propose i cmd).2.er = (G.er.propS i cmd).2 := by
 have hb := (bud n).prop c d G i cmd hi hc h.1
 obtain ⟨⟨a, t, I, ha, ht, hg⟩, hl⟩ := h
 obtain ⟨e1, e2, e3⟩ := Qma hg hl (i := i) hc (by omega) (by omega)
 exact ⟨⟨hb, e3⟩, e1, e2⟩
theorem SJ11.comp {n c d i : Nat} {G : GS} (h : SJ11 n (c + 1) d G) (hi : i < n) : SJ11 n c d (G.compact i).2 ∧ (G.compact i).1 = (G.er.compS i).1 ∧ (G.compact i).2.er = (G.er.compS i).2 := by
 have hb := (bud n).comp c d G i hi h.1
 obtain ⟨⟨a, t, I, ha, ht, hg⟩, hl⟩ := h
 obtain ⟨e1, e2, e3⟩ := Qmb hg hl (i := i)
 exact ⟨⟨hb, e3⟩, e1, e2⟩
theorem SJ11.leq {n c c' d d' : Nat} {G : GS} (h : SJ11 n c' d' G) (hc : c ≤ c') (hd : d ≤ d') : SJ11 n c d G := ⟨(bud n).leq hc hd h.1, h.2⟩
theorem SJ11.new {n : Nat} (hn : 1 ≤ n ∧ n ≤ 9) : SJ11 n 90000 9000 (GS.new n) := ⟨GJ.new hn, fun m hm => by
 obtain ⟨i, hi, e⟩ := List.mem_map.1 (show m ∈ (List.range n).map (fun i => YF i n LG.new DK.new) from hm)
 rw [← e]
 exact ⟨rfl, rfl⟩⟩
def YI (es : List Ent) : List Bs := (es.map (·.2)).filter (fun s => decide (¬ s = []))
theorem Qep (a b : List Ent) : YI (a ++ b) = YI a ++ YI b := by simp [YI]
theorem Qb3 (i : Int) : ∀ (es : List Ent) (r : MS × List OC), (es.foldl (XI i) r).1 = { r.1 with ap := r.1.ap + es.length, l := r.1.l ++ YI es }
 | [], r => by simp [YI]
 | e :: es, r => by
  rw [List.foldl_cons, Qb3 i es]
  unfold XI
  by_cases h : e.2 = []
  ·rw [if_pos h, show YI (e :: es) = YI es by simp [YI, h]]
   dsimp only
   rw [List.length_cons, show r.1.ap + 1 + (es.length : Int) = r.1.ap + ((es.length + 1 : Nat) : Int) by omega]
  ·rw [if_neg h, show YI (e :: es) = e.2 :: YI es by simp [YI, h]]
   dsimp only
   rw [List.length_cons, show r.1.ap + 1 + (es.length : Int) = r.1.ap + ((es.length + 1 : Nat) : Int) by omega, List.append_assoc]; rfl
theorem QkJ {g : LG} (e : Ent) (hb : 0 ≤ g.base) : (g.play (.add g.last [e])).all = g.all ++ [e] ∧ (g.play (.add g.last [e])).last = g.last + 1 := by
 have h1 : (g.play (.add g.last [e])).all = g.all ++ [e] := by
  show g.all.take (g.last - g.base).toNat ++ [e] = _
  rw [List.take_of_length_le (by unfold LG.last; omega)]
 refine ⟨h1, ?_⟩
 show g.base + ((g.play (.add g.last [e])).all.length : Int) = g.last + 1
 rw [h1]
 unfold LG.last
 simp; omega
structure GH where
 lg : Int → List Ent
 cl : Int → Nat → List Ent
 el : Int → Nat → Prop
 ak : Nat → Int → Nat → Prop
 vt : Nat → Int → Nat → Prop
 tf : Nat → Int
def tmZ (F : List Ent) (j : Nat) : Int := if j = 0 then 0 else ((F[j - 1]?).map (·.1)).getD 0
def GH.own (Γ : GH) (c : Int) (k : Nat) : Prop := 1 ≤ k ∧ ∃ e, (Γ.lg c)[k - 1]? = some e ∧ e.1 = c
def GH.pre (Γ : GH) (F : List Ent) (c : Int) (k : Nat) : Prop := k ≤ F.length ∧ F.take k = (Γ.lg c).take k
structure Maj (n : Nat) (M : List Nat) : Prop where
 nd : M.Nodup
 lt : ∀ i ∈ M, i < n
 most : n < 2 * M.length
def GH.dead (Γ : GH) (n : Nat) (c : Int) (k : Nat) : Prop := ∃ M, Maj n M ∧ ∀ i ∈ M, c < Γ.tf i ∧ ∀ a, k ≤ a → ¬ Γ.ak i c a
def GH.cm (Γ : GH) (n : Nat) (c : Int) (k : Nat) : Prop := Γ.own c k ∧ ∃ M, Maj n M ∧ ∀ i ∈ M, ∃ a, k ≤ a ∧ Γ.ak i c a
def GH.cmt (Γ : GH) (n : Nat) (p : List Ent) (τ : Int) : Prop := p = [] ∨ ∃ c k, c ≤ τ ∧ Γ.cm n c k ∧ p <+: (Γ.lg c).take k
structure GH.pl (Γ : GH) (F : List Ent) : Prop where
 at_ : ∀ j e, F[j]? = some e → (∃ x, Γ.el e.1 x) ∧ F.take (j + 1) = (Γ.lg e.1).take (j + 1)
 mono : F.Pairwise (fun a b => a.1 ≤ b.1)
theorem Qe3 : ∀ (n : Nat) (l : List Nat), l.Nodup → (∀ i ∈ l, i < n) → l.length ≤ n
 | 0, l, _, h => by
  cases l with
  | nil => exact Nat.le_refl _
  | cons a l => exact absurd (h a (by simp)) (by omega)
 | n + 1, l, hd, h => by
  have h1 := Qe3 n (l.erase n) (hd.erase n) (fun i hi => by
   have h2 := (List.Nodup.mem_erase_iff hd).1 hi
   have h3 := h i h2.2
   have := h2.1
   omega)
  by_cases hn : n ∈ l
  ·rw [List.length_erase_of_mem hn] at h1; omega
  ·rw [List.erase_of_not_mem hn] at h1; omega
theorem Qe8 {n : Nat} {A B : List Nat} (hA : Maj n A) (hB : Maj n B) : ∃ i, i ∈ A ∧ i ∈ B := by
 by_cases h : ∃ i, i ∈ A ∧ i ∈ B
 ·exact h
 ·exfalso
  have hnd : (A ++ B).Nodup := List.nodup_append.2 ⟨hA.nd, hB.nd, fun a ha b hb e => h ⟨a, ha, e ▸ hb⟩⟩
  have hsub : ∀ i ∈ A ++ B, i < n := fun i hi => by
   rcases List.mem_append.1 hi with hi | hi
   ·exact hA.lt i hi
   ·exact hB.lt i hi
  have h1 := Qe3 n _ hnd hsub
  have h2 := hA.most
  have h3 := hB.most
  simp at h1
  omega
structure GHI (n : Nat) (Γ : GH) : Prop where
 one : ∀ t x y, Γ.el t x → Γ.el t y → x = y
 elq : ∀ u x, Γ.el u x → ∃ M, Maj n M ∧ ∀ i ∈ M, Γ.vt i u x
 vt1 : ∀ i t x y, Γ.vt i t x → Γ.vt i t y → x = y
 vtf : ∀ i t x, Γ.vt i t x → t ≤ Γ.tf i
 vts : ∀ i t x, Γ.vt i t x → Γ.vt x t x
 vc : ∀ i u x, Γ.vt i u x → ∀ c k, c < u → Γ.own c k → (∃ a, k ≤ a ∧ Γ.ak i c a) → Γ.pre (Γ.cl u x) c k ∨ Γ.dead n c k
 clp : ∀ u x, Γ.vt x u x → Γ.pl (Γ.cl u x) ∧ ∀ e ∈ Γ.cl u x, e.1 < u
 elc : ∀ u x, Γ.el u x → Γ.vt x u x ∧ Γ.cl u x <+: Γ.lg u ∧ (Γ.cl u x).length < (Γ.lg u).length ∧ ∀ j e, (Γ.cl u x).length ≤ j → (Γ.lg u)[j]? = some e → e.1 = u
 lgp : ∀ u x, Γ.el u x → Γ.pl (Γ.lg u)
 no : ∀ u, (¬ ∃ x, Γ.el u x) → Γ.lg u = []
 lc : ∀ u x, Γ.el u x → ∀ c k, c < u → Γ.own c k → Γ.pre (Γ.cl u x) c k ∨ Γ.dead n c k
 pos : ∀ t x, Γ.el t x → 0 < t
 akl : ∀ i c a, Γ.ak i c a → a ≤ (Γ.lg c).length ∧ c ≤ Γ.tf i ∧ ∃ x, Γ.el c x
 vpos : ∀ i t x, Γ.vt i t x → 0 < t
theorem Qnp {n : Nat} {Γ : GH} {c : Int} {k : Nat} (h : Γ.cm n c k) : ¬ Γ.dead n c k := fun ⟨M, hM, hd⟩ => by
 obtain ⟨_, A, hA, ha⟩ := h
 obtain ⟨i, hi, hj⟩ := Qe8 hA hM
 obtain ⟨a, h1, h2⟩ := ha i hi
 exact (hd i hj).2 a h1 h2
theorem QeZ {n : Nat} {Γ : GH} (h : GHI n Γ) {c : Int} {k : Nat} (ho : Γ.own c k) : (∃ x, Γ.el c x) ∧ k ≤ (Γ.lg c).length := by
 obtain ⟨h1, e, h2, _⟩ := ho
 have hl := (List.getElem?_eq_some_iff.1 h2).1
 refine ⟨?_, by omega⟩
 by_cases hx : ∃ x, Γ.el c x
 ·exact hx
 ·rw [h.no c hx] at hl
  simp at hl
theorem QbY {n : Nat} {Γ : GH} (h : GHI n Γ) {u : Int} {x : Nat} (hu : Γ.el u x) {c : Int} {k : Nat} (hc : c ≤ u) (hk : Γ.cm n c k) : k ≤ (Γ.lg u).length ∧ (Γ.lg u).take k = (Γ.lg c).take k := by
 rcases Int.lt_or_eq_of_le hc with hlt | heq
 ·rcases h.lc u x hu c k hlt hk.1 with h1 | h1
  ·obtain ⟨_, h2, h3, _⟩ := h.elc u x hu
   obtain ⟨r, hr⟩ := h2
   obtain ⟨h4, h5⟩ := h1
   refine ⟨by omega, ?_⟩
   rw [← h5, ← hr, List.take_append_of_le_length h4]
  ·exact absurd h1 (Qnp hk)
 ·subst heq
  exact ⟨(QeZ h hk.1).2, rfl⟩
theorem Qff {n : Nat} {Γ : GH} (h : GHI n Γ) {u : Int} {x : Nat} (hu : Γ.el u x) {p : List Ent} {τ : Int} (hc : τ ≤ u) (hp : Γ.cmt n p τ) : p <+: Γ.lg u := by
 rcases hp with rfl | ⟨c, k, h1, h2, h3⟩
 ·exact List.nil_prefix
 ·obtain ⟨_, h4⟩ := QbY h hu (show c ≤ u by omega) h2
  exact (h4 ▸ h3).trans (List.take_prefix _ _)
theorem yy {n : Nat} {Γ : GH} {p q : List Ent} {τ σ : Int} (h : Γ.cmt n p τ) (hq : q <+: p) (ht : τ ≤ σ) : Γ.cmt n q σ := by
 rcases h with rfl | ⟨c, k, h1, h2, h3⟩
 ·exact .inl (List.prefix_nil.1 hq)
 ·exact .inr ⟨c, k, by omega, h2, hq.trans h3⟩
theorem QiO {α : Type} {a b c : List α} (ha : a <+: c) (hb : b <+: c) : a <+: b ∨ b <+: a := by
 rcases Nat.le_total a.length b.length with h | h
 ·exact .inl (List.prefix_of_prefix_length_le ha hb h)
 ·exact .inr (List.prefix_of_prefix_length_le hb ha h)
theorem Qmn {n : Nat} {Γ : GH} (h : GHI n Γ) {p q : List Ent} {τ σ : Int} (hp : Γ.cmt n p τ) (hq : Γ.cmt n q σ) : p <+: q ∨ q <+: p := by
 rcases hp with rfl | ⟨c, k, h1, h2, h3⟩
 ·exact .inl List.nil_prefix
 ·rcases hq with rfl | ⟨d, l, h4, h5, h6⟩
  ·exact .inr List.nil_prefix
  ·obtain ⟨x, hx⟩ := (QeZ h h2.1).1
   obtain ⟨y, hy⟩ := (QeZ h h5.1).1
   rcases Int.le_total c d with hcd | hcd
   ·obtain ⟨_, e⟩ := QbY h hy hcd h2
    exact QiO ((e ▸ h3).trans (List.take_prefix _ _)) (h6.trans (List.take_prefix _ _))
   ·obtain ⟨_, e⟩ := QbY h hx hcd h5
    exact QiO (h3.trans (List.take_prefix _ _)) ((e ▸ h6).trans (List.take_prefix _ _))
structure GH.le (n : Nat) (A B : GH) : Prop where
 lg : ∀ t, A.lg t <+: B.lg t
 cl : ∀ u x, A.vt x u x → B.cl u x = A.cl u x
 el : ∀ t x, A.el t x → B.el t x
 ak : ∀ i c a, A.ak i c a → B.ak i c a
 akn : ∀ i c a, B.ak i c a → A.ak i c a ∨ A.tf i ≤ c
 vt : ∀ i t x, A.vt i t x → B.vt i t x
 tf : ∀ i, A.tf i ≤ B.tf i
theorem Qfg (n : Nat) (A : GH) : A.le n A := ⟨fun _ => List.prefix_refl _, fun _ _ _ => rfl, fun _ _ h => h, fun _ _ _ h => h, fun _ _ _ h => .inl h, fun _ _ _ h => h, fun _ => Int.le_refl _⟩
theorem le_trans {n : Nat} {A B C : GH} (h : A.le n B) (k : B.le n C) : A.le n C :=
 ⟨fun t => (h.lg t).trans (k.lg t), fun u x hv => (k.cl u x (h.vt _ _ _ hv)).trans (h.cl u x hv), fun t x he => k.el t x (h.el t x he), fun i c a ha => k.ak i c a (h.ak i c a ha), fun i c a ha => by
  rcases k.akn i c a ha with h1 | h1
  ·exact h.akn i c a h1
  ·exact .inr (Int.le_trans (h.tf i) h1), fun i t x hv => k.vt i t x (h.vt i t x hv), fun i => Int.le_trans (h.tf i) (k.tf i)⟩
theorem YG {n : Nat} {A B : GH} (h : A.le n B) {c : Int} {k : Nat} (hd : A.dead n c k) : B.dead n c k := by
 obtain ⟨M, hM, hd⟩ := hd
 refine ⟨M, hM, fun i hi => ⟨Int.lt_of_lt_of_le (hd i hi).1 (h.tf i), fun a ha hb => ?_⟩⟩
 rcases h.akn i c a hb with h1 | h1
 ·exact (hd i hi).2 a ha h1
 ·have := (hd i hi).1
  omega
theorem Qdd {n : Nat} {A B : GH} (h : A.le n B) {t : Int} {k : Nat} (hk : k ≤ (A.lg t).length) : (B.lg t).take k = (A.lg t).take k := by
 obtain ⟨r, hr⟩ := h.lg t
 rw [← hr, List.take_append_of_le_length hk]
theorem Qfh {n : Nat} {A B : GH} (h : A.le n B) (t : Int) : (A.lg t).length ≤ (B.lg t).length := (h.lg t).length_le
theorem Qnd {n : Nat} {A B : GH} (h : A.le n B) {c : Int} {k : Nat} (ho : A.own c k) : B.own c k := by
 obtain ⟨h1, e, h2, h3⟩ := ho
 obtain ⟨r, hr⟩ := h.lg c
 refine ⟨h1, e, ?_, h3⟩
 rw [← hr, List.getElem?_append_left (List.getElem?_eq_some_iff.1 h2).1]
 exact h2
theorem QgG {n : Nat} {A B : GH} (h : A.le n B) {c : Int} {k : Nat} (ho : B.own c k) (hk : k ≤ (A.lg c).length) : A.own c k := by
 obtain ⟨h1, e, h2, h3⟩ := ho
 obtain ⟨r, hr⟩ := h.lg c
 refine ⟨h1, e, ?_, h3⟩
 rw [← hr, List.getElem?_append_left (by omega)] at h2
 exact h2
theorem qB {n : Nat} {A B : GH} (h : A.le n B) {F : List Ent} {c : Int} {k : Nat} (hk : k ≤ (A.lg c).length) (hp : A.pre F c k) : B.pre F c k := ⟨hp.1, by rw [Qdd h hk]; exact hp.2⟩
theorem Zf {n : Nat} {A B : GH} (h : A.le n B) {F : List Ent} (hp : A.pl F) : B.pl F := by
 refine ⟨fun j e hj => ?_, hp.mono⟩
 obtain ⟨⟨x, hx⟩, h1⟩ := hp.at_ j e hj
 refine ⟨⟨x, h.el _ _ hx⟩, ?_⟩
 have hl := (List.getElem?_eq_some_iff.1 hj).1
 have h2 := congrArg List.length h1
 simp only [List.length_take] at h2
 rw [Qdd h (by omega)]
 exact h1
theorem QnS {n : Nat} {A B : GH} (h : A.le n B) {c : Int} {k : Nat} (hc : A.cm n c k) : B.cm n c k := by
 obtain ⟨h1, M, hM, h2⟩ := hc
 exact ⟨Qnd h h1, M, hM, fun i hi => by obtain ⟨a, ha, hb⟩ := h2 i hi; exact ⟨a, ha, h.ak _ _ _ hb⟩⟩
theorem Zp {Γ : GH} {c : Int} {k : Nat} (ho : Γ.own c k) : k ≤ (Γ.lg c).length := by
 obtain ⟨h1, e, h2, _⟩ := ho
 have := (List.getElem?_eq_some_iff.1 h2).1
 omega
theorem Zj {n : Nat} {A B : GH} (h : A.le n B) {p : List Ent} {τ : Int} (hp : A.cmt n p τ) : B.cmt n p τ := by
 rcases hp with rfl | ⟨c, k, h1, h2, h3⟩
 ·exact .inl rfl
 ·refine .inr ⟨c, k, h1, QnS h h2, ?_⟩
  rw [Qdd h (Zp h2.1)]
  exact h3
structure AG (g : LG) (F : List Ent) : Prop where
 b0 : 0 ≤ g.base
 b : g.base.toNat ≤ F.length
 all : g.all = F.drop g.base.toNat
 bt : g.baseT = tmZ F g.base.toNat
structure LogI (n : Nat) (Γ : GH) (i : Nat) (g : LG) (F : List Ent) : Prop where
 ag : AG g F
 pl : Γ.pl F
 tm : ∀ e ∈ F, e.1 ≤ g.term
 nn : ∀ c k, Γ.own c k → (∃ a, k ≤ a ∧ Γ.ak i c a) → Γ.pre F c k ∨ Γ.dead n c k
 vv : ∀ t x, Γ.vt i t x → t < g.term ∨ (t = g.term ∧ g.vote = (x : Int))
 tf : Γ.tf i ≤ g.term
 cb : Γ.cmt n (F.take g.base.toNat) g.term
 st : g.base > 0 → unS g.state = YI (F.take g.base.toNat)
theorem AG.last {g : LG} {F : List Ent} (h : AG g F) : g.last = F.length := by
 have h1 := h.b0
 have h2 := h.b
 unfold LG.last
 rw [h.all]
 simp; omega
theorem AG.at {g : LG} {F : List Ent} (h : AG g F) {j : Nat} (hj : g.base < j) : g.at j = F[j - 1]? := by
 have h1 := h.b0
 have h2 := h.b
 have hl := h.last
 by_cases h3 : (j : Int) ≤ g.last
 ·rw [QcO ⟨hj, h3⟩, h.all, List.getElem?_drop]
  congr 1; omega
 ·rw [jM (by omega), List.getElem?_eq_none (by omega)]
theorem AG.termAt {g : LG} {F : List Ent} (h : AG g F) {j : Nat} (hj : g.base ≤ j ∧ j ≤ F.length) : g.termAt j = some (tmZ F j) := by
 have h1 := h.b0
 unfold LG.termAt
 by_cases h2 : (j : Int) = g.base
 ·rw [if_pos h2, h.bt, show g.base.toNat = j by omega]
 ·rw [if_neg h2, h.at (by omega)]
  unfold tmZ
  rw [if_neg (by omega), List.getElem?_eq_getElem (by omega)]
  rfl
theorem AG.termAt_none {g : LG} {F : List Ent} (h : AG g F) {j : Int} (hj : j < g.base ∨ F.length < j) : g.termAt j = none := by
 have h1 := h.b0
 have h2 := h.b
 have hl := h.last
 unfold LG.termAt
 rw [if_neg (by omega), jM (by omega)]
 rfl
theorem AG.termAt_some {g : LG} {F : List Ent} (h : AG g F) {j t : Int} (hj : g.termAt j = some t) : ∃ k : Nat, j = k ∧ g.base ≤ j ∧ k ≤ F.length ∧ t = tmZ F k := by
 have h1 := h.b0
 have h2 := h.b
 by_cases h3 : j < g.base ∨ F.length < j
 ·rw [h.termAt_none h3] at hj; cases hj
 ·obtain ⟨k, rfl⟩ := Int.eq_ofNat_of_zero_le (show 0 ≤ j by omega)
  have h4 : g.termAt (k : Int) = some (tmZ F k) := h.termAt (by omega)
  have hj' : g.termAt (k : Int) = some t := hj
  rw [h4] at hj'
  exact ⟨k, rfl, by omega, by omega, (Option.some.inj hj').symm⟩
theorem zJ {F : List Ent} {k : Nat} (h0 : 1 ≤ k) (h : k ≤ F.length) : ∃ e, F[k - 1]? = some e ∧ tmZ F k = e.1 := by
 refine ⟨F[k - 1], List.getElem?_eq_getElem (by omega), ?_⟩
 unfold tmZ
 rw [if_neg (by omega), List.getElem?_eq_getElem (by omega)]
 rfl
theorem zc {F G : List Ent} {k j : Nat} (h : F.take k = G.take k) (hj : j ≤ k) : tmZ F j = tmZ G j := by
 unfold tmZ
 by_cases h0 : j = 0
 ·rw [if_pos h0, if_pos h0]
 ·rw [if_neg h0, if_neg h0]
  have h1 := congrArg (fun l => l[j - 1]?) h
  simp only [List.getElem?_take] at h1
  rw [if_pos (by omega), if_pos (by omega)] at h1
  rw [h1]
theorem QhD {Γ : GH} {F G : List Ent} (hF : Γ.pl F) (hG : Γ.pl G) {k : Nat} (h1 : k ≤ F.length) (h2 : k ≤ G.length) (h : tmZ F k = tmZ G k) : F.take k = G.take k := by
 by_cases h0 : k = 0
 ·subst h0; simp
 ·obtain ⟨e, he, e1⟩ := zJ (by omega) h1
  obtain ⟨f, hf, f1⟩ := zJ (by omega) h2
  have a1 := (hF.at_ _ _ he).2
  have a2 := (hG.at_ _ _ hf).2
  rw [show k - 1 + 1 = k by omega] at a1 a2
  rw [a1, a2, show e.1 = f.1 by omega]
theorem QkU {Γ : GH} {F : List Ent} (hF : Γ.pl F) {k : Nat} (h0 : 1 ≤ k) (h1 : k ≤ F.length) : (∃ x, Γ.el (tmZ F k) x) ∧ F.take k = (Γ.lg (tmZ F k)).take k := by
 obtain ⟨e, he, e1⟩ := zJ h0 h1
 have a1 := hF.at_ _ _ he
 rw [show k - 1 + 1 = k by omega, ← e1] at a1
 exact a1
theorem QiU {n : Nat} {Γ : GH} (h : GHI n Γ) {F C : List Ent} {u : Int} (hF : Γ.pl F) (hC : Γ.pl C) (hCu : ∀ e ∈ C, e.1 < u) {c : Int} {k : Nat} (ho : Γ.own c k) (hp : Γ.pre F c k) (hup : tmZ C C.length > tmZ F F.length ∨ (tmZ C C.length = tmZ F F.length ∧ C.length ≥ F.length)) : Γ.pre C c k ∨ Γ.dead n c k := by
 obtain ⟨hk1, e, he, hec⟩ := ho
 have hkl := (List.getElem?_eq_some_iff.1 he).1
 have hpl := hp.1
 -- F's entry at k has the term c
 have hFk : F[k - 1]? = some e := by
  have h1 := congrArg (fun l => l[k - 1]?) hp.2
  simp only [List.getElem?_take] at h1
  rw [if_pos (by omega), if_pos (by omega)] at h1
  rw [h1]; exact he
 obtain ⟨f, hf, f1⟩ := zJ (F := F) (k := F.length) (by omega) (Nat.le_refl _)
 have hcf : c ≤ f.1 := by
  by_cases hkF : k = F.length
  ·rw [hkF] at hFk; rw [hFk] at hf; have := Option.some.inj hf; rw [← this]; omega
  ·have h2 := (List.pairwise_iff_getElem.1 hF.mono) (k - 1) (F.length - 1) (by omega) (by omega) (by omega)
   have h3 := (List.getElem?_eq_some_iff.1 hFk).2
   have h4 := (List.getElem?_eq_some_iff.1 hf).2
   rw [h3, h4] at h2
   omega
 have hC0 : 1 ≤ C.length := by
  by_cases h0 : C.length = 0
  ·exfalso
   have : tmZ C C.length = 0 := by unfold tmZ; rw [if_pos h0]
   rcases hup with h5 | h5
   · -- a term below 0 can't be above
    obtain ⟨⟨x, hx⟩, _⟩ := QkU hF (k := F.length) (by omega) (Nat.le_refl _)
    have := h.pos _ _ hx
    omega
   ·omega
  ·omega
 obtain ⟨g, hg, g1⟩ := zJ (F := C) (k := C.length) hC0 (Nat.le_refl _)
 obtain ⟨⟨y, hy⟩, hCt⟩ := QkU hC hC0 (Nat.le_refl _)
 rw [List.take_length] at hCt
 have hgu : g.1 < u := hCu g (List.mem_of_getElem? hg)
 have hcg : c ≤ g.1 := by omega
 rcases Int.lt_or_eq_of_le hcg with hlt | heq
 ·rw [g1] at hy hCt
  obtain ⟨_, h2, _, h4⟩ := h.elc _ _ hy
  rcases h.lc g.1 y hy c k hlt ⟨hk1, e, he, hec⟩ with h5 | h5
  ·left
   obtain ⟨r, hr⟩ := h2
   -- the last entry stands beyond what the leader stood with
   have hlen : (Γ.cl g.1 y).length < C.length := by
    rcases Nat.lt_or_ge (Γ.cl g.1 y).length C.length with h6 | h6
    ·exact h6
    ·exfalso
     have h7 : (Γ.cl g.1 y)[C.length - 1]? = some g := by
      have h8 : C[C.length - 1]? = ((Γ.lg g.1).take C.length)[C.length - 1]? := by rw [← hCt]
      rw [hg, List.getElem?_take, if_pos (by omega), ← hr, List.getElem?_append_left (by omega)] at h8
      exact h8.symm
     have h9 := (h.clp g.1 y (h.elc _ _ hy).1).2 g (List.mem_of_getElem? h7)
     omega
   have h5l := h5.1
   refine ⟨by omega, ?_⟩
   rw [hCt, List.take_take, Nat.min_eq_left (by omega), ← h5.2, ← hr, List.take_append_of_le_length h5.1]
  ·exact .inr h5
 ·left
  -- both last entries are of the term c
  have hfc : f.1 = c := by omega
  have hlen : C.length ≥ F.length := by omega
  refine ⟨by omega, ?_⟩
  rw [hCt, g1, ← heq, List.take_take, Nat.min_eq_left (by omega)]
structure GH.stp (n i : Nat) (A B : GH) : Prop where
 le : A.le n B
 ak : ∀ j, j ≠ i → ∀ c a, B.ak j c a → A.ak j c a
 vt : ∀ j, j ≠ i → ∀ t x, B.vt j t x → A.vt j t x
 tf : ∀ j, j ≠ i → B.tf j = A.tf j
 lgo : ∀ t j, j ≠ i → A.el t j → B.lg t = A.lg t
 elo : ∀ t j, j ≠ i → B.el t j → A.el t j
theorem XW (n i : Nat) (A : GH) : A.stp n i A := ⟨Qfg n A, fun _ _ _ _ h => h, fun _ _ _ _ h => h, fun _ _ => rfl, fun _ _ _ _ => rfl, fun _ _ _ h => h⟩
theorem Qdv {n i : Nat} {A B C : GH} (h : A.stp n i B) (k : B.stp n i C) : A.stp n i C :=
 ⟨le_trans h.le k.le, fun j hj c a ha => h.ak j hj c a (k.ak j hj c a ha), fun j hj t x hv => h.vt j hj t x (k.vt j hj t x hv), fun j hj => (k.tf j hj).trans (h.tf j hj), fun t j hj he => (k.lgo t j hj (h.le.el t j he)).trans (h.lgo t j hj he), fun t j hj he => h.elo t j hj (k.elo t j hj he)⟩
def GH.tfU (Γ : GH) (i : Nat) (t : Int) : GH := { Γ with tf := fun j => if j = i then t else Γ.tf j }
theorem QcW {n i : Nat} {Γ : GH} {t : Int} (ht : Γ.tf i ≤ t) : Γ.stp n i (Γ.tfU i t) := by
 refine ⟨⟨fun _ => List.prefix_refl _, fun _ _ _ => rfl, fun _ _ h => h, fun _ _ _ h => h, fun _ _ _ h => .inl h, fun _ _ _ h => h, fun j => ?_⟩, fun _ _ _ _ h => h, fun _ _ _ _ h => h, fun j hj => ?_, fun _ _ _ _ => rfl, fun _ _ _ h => h⟩
 ·show Γ.tf j ≤ if j = i then t else Γ.tf j
  split
  ·rename_i h; rw [h]; exact ht
  ·exact Int.le_refl _
 ·show (if j = i then t else Γ.tf j) = Γ.tf j
  rw [if_neg hj]
theorem Qci {Γ : GH} {i : Nat} {t : Int} : (Γ.tfU i t).tf i = t := by show (if i = i then t else _) = t; rw [if_pos rfl]
theorem Qig {n i : Nat} {Γ : GH} {t : Int} (h : GHI n Γ) (ht : Γ.tf i ≤ t) : GHI n (Γ.tfU i t) := by
 have s := (QcW (n := n) ht).le
 exact ⟨h.one, h.elq, h.vt1, fun j u x hv => Int.le_trans (h.vtf j u x hv) (s.tf j), h.vts, fun j u x hv c k hc ho ha => (h.vc j u x hv c k hc ho ha).imp id (YG s), fun u x hv => ⟨Zf s (h.clp u x hv).1, (h.clp u x hv).2⟩, h.elc, fun u x hu => Zf s (h.lgp u x hu), h.no, fun u x hu c k hc ho => (h.lc u x hu c k hc ho).imp id (YG s), h.pos, fun j c a ha => ⟨(h.akl j c a ha).1, Int.le_trans (h.akl j c a ha).2.1 (s.tf j), (h.akl j c a ha).2.2⟩, h.vpos⟩
def GH.akU (Γ : GH) (i : Nat) (c : Int) (a : Nat) : GH := { Γ with ak := fun j d b => Γ.ak j d b ∨ (j = i ∧ d = c ∧ b = a) }
theorem Qdp {n i : Nat} {Γ : GH} {c : Int} {a : Nat} (hc : Γ.tf i = c) : Γ.stp n i (Γ.akU i c a) :=
 ⟨⟨fun _ => List.prefix_refl _, fun _ _ _ => rfl, fun _ _ h => h, fun _ _ _ h => .inl h, fun j d b h => h.imp id (fun ⟨h1, h2, _⟩ => by rw [h1, h2, hc]; exact Int.le_refl _), fun _ _ _ h => h, fun _ => Int.le_refl _⟩, fun j hj d b h => h.elim id (fun h => absurd h.1 hj), fun _ _ _ _ h => h, fun _ _ => rfl, fun _ _ _ _ => rfl, fun _ _ _ h => h⟩
theorem Qjt {n i : Nat} {Γ : GH} {c : Int} {a : Nat} (h : GHI n Γ) (hc : Γ.tf i = c) (ha : a ≤ (Γ.lg c).length) (he : ∃ x, Γ.el c x) : GHI n (Γ.akU i c a) := by
 have s := (Qdp (n := n) (a := a) hc).le
 refine ⟨h.one, h.elq, h.vt1, h.vtf, h.vts, fun j u x hv d k hd ho hk => ?_, fun u x hv => ⟨Zf s (h.clp u x hv).1, (h.clp u x hv).2⟩, h.elc, fun u x hu => Zf s (h.lgp u x hu), h.no, fun u x hu d k hd ho => (h.lc u x hu d k hd ho).imp id (YG s), h.pos, fun j d b hb => ?_, h.vpos⟩
 ·obtain ⟨b, hb1, hb2⟩ := hk
  rcases hb2 with hb2 | ⟨rfl, rfl, rfl⟩
  ·exact (h.vc j u x hv d k hd ho ⟨b, hb1, hb2⟩).imp id (YG s)
  ·have := h.vtf _ _ _ hv
   omega
 ·rcases hb with hb | ⟨rfl, rfl, rfl⟩
  ·exact h.akl j d b hb
  ·exact ⟨ha, by show d ≤ Γ.tf j; omega, he⟩
def GH.exU (Γ : GH) (i : Nat) (t : Int) (e : Ent) : GH := { Γ with lg := fun u => if u = t then Γ.lg u ++ [e] else Γ.lg u }
theorem jI {Γ : GH} {i : Nat} {t : Int} {e : Ent} : (Γ.exU i t e).lg t = Γ.lg t ++ [e] := by show (if t = t then _ else _) = _; rw [if_pos rfl]
theorem jH {Γ : GH} {i : Nat} {t u : Int} {e : Ent} (h : u ≠ t) : (Γ.exU i t e).lg u = Γ.lg u := by show (if u = t then _ else _) = _; rw [if_neg h]
theorem QgN {n i : Nat} {Γ : GH} {t : Int} {e : Ent} (h : GHI n Γ) (he : Γ.el t i) : Γ.stp n i (Γ.exU i t e) := by
 refine ⟨⟨fun u => ?_, fun _ _ _ => rfl, fun _ _ h => h, fun _ _ _ h => h, fun _ _ _ h => .inl h, fun _ _ _ h => h, fun _ => Int.le_refl _⟩, fun _ _ _ _ h => h, fun _ _ _ _ h => h, fun _ _ => rfl, fun u j hj hu => ?_, fun _ _ _ h => h⟩
 ·by_cases hu : u = t
  ·subst hu; rw [jI]; exact List.prefix_append _ _
  ·rw [jH hu]; exact List.prefix_refl _
 ·refine jH (fun e => hj ?_)
  subst e
  exact h.one u j i hu he
theorem QhL {n : Nat} {Γ : GH} (h : GHI n Γ) {t : Int} {i : Nat} (he : Γ.el t i) : ∀ e ∈ Γ.lg t, e.1 ≤ t := fun e hm => by
 obtain ⟨j, hj⟩ := List.mem_iff_getElem?.1 hm
 obtain ⟨h1, ⟨r, hr⟩, h3, h4⟩ := h.elc t i he
 rcases Nat.lt_or_ge j (Γ.cl t i).length with h5 | h5
 ·rw [← hr, List.getElem?_append_left h5] at hj
  have := (h.clp t i h1).2 e (List.mem_of_getElem? hj)
  omega
 ·have := h4 j e h5 hj
  omega
theorem Qc6 {Γ : GH} {F : List Ent} {t : Int} {c : Bs} (h : Γ.pl F) (ht : ∀ e ∈ F, e.1 ≤ t) (hl : Γ.lg t = F ++ [(t, c)]) (he : ∃ x, Γ.el t x) : Γ.pl (F ++ [(t, c)]) := by
 refine ⟨fun j e hj => ?_, ?_⟩
 ·rcases Nat.lt_or_ge j F.length with h1 | h1
  ·rw [List.getElem?_append_left h1] at hj
   rw [List.take_append_of_le_length (by omega)]
   exact h.at_ j e hj
  ·rw [List.getElem?_append_right h1] at hj
   have h0 : j - F.length = 0 := by
    have := (List.getElem?_eq_some_iff.1 hj).1
    simpa using this
   rw [h0] at hj
   have hj := Option.some.inj hj
   subst hj
   exact ⟨he, by rw [hl]⟩
 ·rw [List.pairwise_append]
  exact ⟨h.mono, by simp, fun a ha b hb => by simp at hb; subst hb; exact ht a ha⟩
theorem Qj0 {Γ Δ : GH} {t : Int} {e : Ent} (hl : Δ.lg t = Γ.lg t ++ [e]) {k : Nat} (ho : Δ.own t k) : Γ.own t k ∨ k = (Γ.lg t).length + 1 := by
 obtain ⟨h1, f, h2, h3⟩ := ho
 rw [hl] at h2
 rcases Nat.lt_or_ge (k - 1) (Γ.lg t).length with h4 | h4
 ·rw [List.getElem?_append_left h4] at h2
  exact .inl ⟨h1, f, h2, h3⟩
 ·right
  have := (List.getElem?_eq_some_iff.1 h2).1
  simp at this
  omega
theorem QeY {Γ Δ : GH} {t : Int} (hl : Δ.lg t = Γ.lg t) {k : Nat} (ho : Δ.own t k) : Γ.own t k := by
 obtain ⟨h1, f, h2, h3⟩ := ho
 rw [hl] at h2
 exact ⟨h1, f, h2, h3⟩
theorem Qnj {n i : Nat} {Γ : GH} {t : Int} {cmd : Bs} (h : GHI n Γ) (he : Γ.el t i) : GHI n (Γ.exU i t (t, cmd)) := by
 have s := (QgN (e := (t, cmd)) h he).le
 -- its own entries: the old ones, and one that nobody acknowledged
 have hown : ∀ c k, (Γ.exU i t (t, cmd)).own c k → Γ.own c k ∨ (c = t ∧ k = (Γ.lg t).length + 1) := fun c k ho => by
  by_cases hc : c = t
  ·subst hc
   rcases Qj0 jI ho with h1 | h1
   ·exact .inl h1
   ·exact .inr ⟨rfl, h1⟩
  ·exact .inl (QeY (jH hc) ho)
 refine ⟨h.one, h.elq, h.vt1, h.vtf, h.vts, fun j u x hv c k hc ho ha => ?_, fun u x hv => ⟨Zf s (h.clp u x hv).1, (h.clp u x hv).2⟩, fun u x hu => ?_, fun u x hu => ?_, fun u hu => ?_, fun u x hu c k hc ho => ?_, h.pos, fun j c a ha => ⟨Nat.le_trans (h.akl j c a ha).1 (Qfh s c), (h.akl j c a ha).2⟩, h.vpos⟩
 ·rcases hown c k ho with h1 | ⟨rfl, h1⟩
  ·exact (h.vc j u x hv c k hc h1 ha).imp (qB s (Zp h1)) (YG s)
  ·obtain ⟨a, ha1, ha2⟩ := ha
   have := (h.akl j _ a ha2).1
   omega
 ·obtain ⟨h1, h2, h3, h4⟩ := h.elc u x hu
  refine ⟨h1, h2.trans (s.lg u), Nat.lt_of_lt_of_le h3 (Qfh s u), fun j e hj hje => ?_⟩
  by_cases hut : u = t
  ·subst hut
   rw [jI] at hje
   rcases Nat.lt_or_ge j (Γ.lg u).length with h5 | h5
   ·rw [List.getElem?_append_left h5] at hje
    exact h4 j e hj hje
   ·rw [List.getElem?_append_right h5] at hje
    have h0 : j - (Γ.lg u).length = 0 := by
     have := (List.getElem?_eq_some_iff.1 hje).1
     simpa using this
    rw [h0] at hje
    have := Option.some.inj hje
    rw [← this]
  ·rw [jH hut] at hje
   exact h4 j e hj hje
 ·by_cases hut : u = t
  ·subst hut
   have h1 := Zf s (h.lgp u x hu)
   rw [jI]
   exact Qc6 h1 (QhL h hu) jI ⟨x, hu⟩
  ·rw [jH hut]
   exact Zf s (h.lgp u x hu)
 ·by_cases hut : u = t
  ·subst hut
   exact absurd ⟨i, he⟩ hu
  ·rw [jH hut]; exact h.no u hu
 ·rcases hown c k ho with h1 | ⟨rfl, h1⟩
  ·exact (h.lc u x hu c k hc h1).imp (qB s (Zp h1)) (YG s)
  ·right
   obtain ⟨M, hM, hv⟩ := h.elq u x hu
   refine ⟨M, hM, fun j hj => ⟨?_, fun a ha hb => ?_⟩⟩
   ·have := h.vtf _ _ _ (hv j hj)
    show c < Γ.tf j
    omega
   ·have := (h.akl j c a hb).1
    omega
def GH.sdU (Γ : GH) (i : Nat) (t : Int) (F : List Ent) : GH := { Γ with tf := fun j => if j = i then t else Γ.tf j, vt := fun j u x => Γ.vt j u x ∨ (j = i ∧ u = t ∧ x = i), cl := fun u x => if u = t ∧ x = i then F else Γ.cl u x }
theorem QeF {Γ : GH} {i : Nat} {t : Int} {F : List Ent} : (Γ.sdU i t F).cl t i = F := by show (if t = t ∧ i = i then F else _) = F; rw [if_pos ⟨rfl, rfl⟩]
theorem QeE {Γ : GH} {i : Nat} {t : Int} {F : List Ent} : (Γ.sdU i t F).tf i = t := by show (if i = i then t else _) = t; rw [if_pos rfl]
theorem jx {n i : Nat} {Γ : GH} {t : Int} {F : List Ent} (h : GHI n Γ) (ht : Γ.tf i < t) {u : Int} {x : Nat} (hv : Γ.vt x u x) : (Γ.sdU i t F).cl u x = Γ.cl u x := by
 show (if u = t ∧ x = i then F else Γ.cl u x) = _
 rw [if_neg]
 rintro ⟨rfl, rfl⟩
 have := h.vtf _ _ _ hv
 omega
theorem Qgs {n i : Nat} {Γ : GH} {t : Int} {F : List Ent} (h : GHI n Γ) (ht : Γ.tf i < t) : Γ.stp n i (Γ.sdU i t F) := by
 refine ⟨⟨fun _ => List.prefix_refl _, fun u x hv => jx h ht hv, fun _ _ h => h, fun _ _ _ h => h, fun _ _ _ h => .inl h, fun _ _ _ h => .inl h, fun j => ?_⟩, fun _ _ _ _ h => h, fun j hj u x hv => hv.elim id (fun h => absurd h.1 hj), fun j hj => ?_, fun _ _ _ _ => rfl, fun _ _ _ h => h⟩
 ·show Γ.tf j ≤ if j = i then t else Γ.tf j
  split
  ·rename_i h; rw [h]; omega
  ·exact Int.le_refl _
 ·show (if j = i then t else Γ.tf j) = Γ.tf j
  rw [if_neg hj]
theorem QmU {n i : Nat} {Γ : GH} {t : Int} {F : List Ent} (h : GHI n Γ) (h0 : 0 < t) (ht : Γ.tf i < t) (hF : Γ.pl F) (hl : ∀ e ∈ F, e.1 < t) (hn : ∀ c k, Γ.own c k → (∃ a, k ≤ a ∧ Γ.ak i c a) → Γ.pre F c k ∨ Γ.dead n c k) : GHI n (Γ.sdU i t F) := by
 have s := (Qgs (F := F) h ht).le
 refine ⟨h.one, fun u x hu => ?_, fun j u x y hx hy => ?_, fun j u x hv => ?_, fun j u x hv => ?_, fun j u x hv c k hc ho ha => ?_, fun u x hv => ?_, fun u x hu => ?_, fun u x hu => Zf s (h.lgp u x hu), h.no, fun u x hu c k hc ho => ?_, h.pos, fun j c a ha => ⟨(h.akl j c a ha).1, Int.le_trans (h.akl j c a ha).2.1 (s.tf j), (h.akl j c a ha).2.2⟩, fun j u x hv => hv.elim (h.vpos j u x) (fun e => by rw [e.2.1]; exact h0)⟩
 ·obtain ⟨M, hM, hv⟩ := h.elq u x hu
  exact ⟨M, hM, fun j hj => .inl (hv j hj)⟩
 ·rcases hx with hx | ⟨rfl, rfl, rfl⟩
  ·rcases hy with hy | ⟨rfl, rfl, rfl⟩
   ·exact h.vt1 j u x y hx hy
   ·have := h.vtf _ _ _ hx; omega
  ·rcases hy with hy | ⟨_, _, rfl⟩
   ·have := h.vtf _ _ _ hy; omega
   ·rfl
 ·rcases hv with hv | ⟨rfl, rfl, rfl⟩
  ·exact Int.le_trans (h.vtf j u x hv) (s.tf j)
  ·rw [QeE]; exact Int.le_refl _
 ·rcases hv with hv | ⟨rfl, rfl, rfl⟩
  ·exact .inl (h.vts j u x hv)
  ·exact .inr ⟨rfl, rfl, rfl⟩
 ·rcases hv with hv | ⟨rfl, rfl, rfl⟩
  ·rw [jx h ht (h.vts _ _ _ hv)]
   exact (h.vc j u x hv c k hc ho ha).imp id (YG s)
  ·rw [QeF]
   exact (hn c k ho ha).imp id (YG s)
 ·rcases hv with hv | ⟨_, rfl, rfl⟩
  ·rw [jx h ht hv]
   exact ⟨Zf s (h.clp u x hv).1, (h.clp u x hv).2⟩
  ·rw [QeF]
   exact ⟨Zf s hF, hl⟩
 ·obtain ⟨h1, h2⟩ := h.elc u x hu
  rw [jx h ht h1]
  exact ⟨.inl h1, h2⟩
 ·rw [jx h ht (h.elc u x hu).1]
  exact (h.lc u x hu c k hc ho).imp id (YG s)
def GH.vtU (Γ : GH) (i : Nat) (t : Int) (x : Nat) : GH := { Γ with vt := fun j u y => Γ.vt j u y ∨ (j = i ∧ u = t ∧ y = x) }
theorem Qgh {n i : Nat} {Γ : GH} {t : Int} {x : Nat} : Γ.stp n i (Γ.vtU i t x) :=
 ⟨⟨fun _ => List.prefix_refl _, fun _ _ _ => rfl, fun _ _ h => h, fun _ _ _ h => h, fun _ _ _ h => .inl h, fun _ _ _ h => .inl h, fun _ => Int.le_refl _⟩, fun _ _ _ _ h => h, fun j hj u y hv => hv.elim id (fun h => absurd h.1 hj), fun _ _ => rfl, fun _ _ _ _ => rfl, fun _ _ _ h => h⟩
theorem QmF {n i : Nat} {Γ : GH} {t : Int} {x : Nat} (h : GHI n Γ) (ht : t ≤ Γ.tf i) (hx : Γ.vt x t x) (hix : i ≠ x) (h1 : ∀ y, Γ.vt i t y → y = x) (hvc : ∀ c k, c < t → Γ.own c k → (∃ a, k ≤ a ∧ Γ.ak i c a) → Γ.pre (Γ.cl t x) c k ∨ Γ.dead n c k) : GHI n (Γ.vtU i t x) := by
 have s := (Qgh (n := n) (i := i) (Γ := Γ) (t := t) (x := x)).le
 have self : ∀ u y, (Γ.vtU i t x).vt y u y → Γ.vt y u y := fun u y hv => by
  rcases hv with hv | ⟨rfl, _, h3⟩
  ·exact hv
  ·exact absurd h3 hix
 refine ⟨h.one, fun u y hu => ?_, fun j u y z hy hz => ?_, fun j u y hv => ?_, fun j u y hv => ?_, fun j u y hv c k hc ho ha => ?_, fun u y hv => ⟨Zf s (h.clp u y (self u y hv)).1, (h.clp u y (self u y hv)).2⟩, fun u y hu => ⟨.inl (h.elc u y hu).1, (h.elc u y hu).2⟩, fun u x hu => Zf s (h.lgp u x hu), h.no, h.lc, h.pos, h.akl, fun j u y hv => hv.elim (h.vpos j u y) (fun e => by rw [e.2.1]; exact h.vpos x t x hx)⟩
 ·obtain ⟨M, hM, hv⟩ := h.elq u y hu
  exact ⟨M, hM, fun j hj => .inl (hv j hj)⟩
 ·rcases hy with hy | ⟨rfl, rfl, rfl⟩
  ·rcases hz with hz | ⟨rfl, rfl, rfl⟩
   ·exact h.vt1 j u y z hy hz
   ·exact h1 y hy
  ·rcases hz with hz | ⟨_, _, rfl⟩
   ·exact (h1 z hz).symm
   ·rfl
 ·rcases hv with hv | ⟨rfl, rfl, rfl⟩
  ·exact h.vtf j u y hv
  ·exact ht
 ·rcases hv with hv | ⟨rfl, rfl, rfl⟩
  ·exact .inl (h.vts j u y hv)
  ·exact .inl hx
 ·rcases hv with hv | ⟨rfl, rfl, rfl⟩
  ·exact h.vc j u y hv c k hc ho ha
  ·exact hvc c k hc ho ha
def GH.wnU (Γ : GH) (i : Nat) (t : Int) (e : Ent) : GH := { Γ with el := fun u x => Γ.el u x ∨ (u = t ∧ x = i), lg := fun u => if u = t then Γ.cl t i ++ [e] else Γ.lg u }
theorem Qch {Γ : GH} {i : Nat} {t : Int} {e : Ent} : (Γ.wnU i t e).lg t = Γ.cl t i ++ [e] := by show (if t = t then _ else _) = _; rw [if_pos rfl]
theorem js {Γ : GH} {i : Nat} {t u : Int} {e : Ent} (h : u ≠ t) : (Γ.wnU i t e).lg u = Γ.lg u := by show (if u = t then _ else _) = _; rw [if_neg h]
theorem Qib {n i : Nat} {Γ : GH} {t : Int} (h : GHI n Γ) {M : List Nat} (hM : Maj n M) (hv : ∀ j ∈ M, Γ.vt j t i) (hno : ¬ Γ.el t i) : ¬ ∃ x, Γ.el t x := fun ⟨x, hx⟩ => by
 obtain ⟨A, hA, ha⟩ := h.elq t x hx
 obtain ⟨j, hj1, hj2⟩ := Qe8 hA hM
 have := h.vt1 j t x i (ha j hj1) (hv j hj2)
 subst this
 exact hno hx
theorem Qgg {n i : Nat} {Γ : GH} {t : Int} {e : Ent} (h : GHI n Γ) (hf : ¬ ∃ x, Γ.el t x) : Γ.stp n i (Γ.wnU i t e) := by
 refine ⟨⟨fun u => ?_, fun _ _ _ => rfl, fun _ _ h => .inl h, fun _ _ _ h => h, fun _ _ _ h => .inl h, fun _ _ _ h => h, fun _ => Int.le_refl _⟩, fun _ _ _ _ h => h, fun _ _ _ _ h => h, fun _ _ => rfl, fun u j hj hu => ?_, fun u j hj hu => hu.elim id (fun h => absurd h.2 hj)⟩
 ·by_cases hu : u = t
  ·subst hu; rw [h.no u hf]; exact List.nil_prefix
  ·rw [js hu]; exact List.prefix_refl _
 ·refine js (fun e => hf ?_)
  subst e
  exact ⟨j, hu⟩
theorem QmE {n i : Nat} {Γ : GH} {t : Int} {cmd : Bs} (h : GHI n Γ) (h0 : 0 < t) {M : List Nat} (hM : Maj n M) (hv : ∀ j ∈ M, Γ.vt j t i) (hs : Γ.vt i t i) (hf : ¬ ∃ x, Γ.el t x) : GHI n (Γ.wnU i t (t, cmd)) := by
 have s := (Qgg (i := i) (e := (t, cmd)) h hf).le
 have hcl := h.clp t i hs
 have hnak : ∀ j a, ¬ Γ.ak j t a := fun j a ha => hf (h.akl j t a ha).2.2
 have hown : ∀ c k, (Γ.wnU i t (t, cmd)).own c k → Γ.own c k ∨ c = t := fun c k ho => by
  by_cases hc : c = t
  ·exact .inr hc
  ·exact .inl (QeY (js hc) ho)
 refine ⟨fun u x y hx hy => ?_, fun u x hu => ?_, h.vt1, h.vtf, h.vts, fun j u x hvt c k hc ho ha => ?_, fun u x hvt => ⟨Zf s (h.clp u x hvt).1, (h.clp u x hvt).2⟩, fun u x hu => ?_, fun u x hu => ?_, fun u hu => ?_, fun u x hu c k hc ho => ?_, fun u x hu => ?_, fun j c a ha => ?_, h.vpos⟩
 ·rcases hx with hx | ⟨rfl, rfl⟩
  ·rcases hy with hy | ⟨rfl, rfl⟩
   ·exact h.one u x y hx hy
   ·exact absurd ⟨x, hx⟩ hf
  ·rcases hy with hy | ⟨_, rfl⟩
   ·exact absurd ⟨y, hy⟩ hf
   ·rfl
 ·rcases hu with hu | ⟨rfl, rfl⟩
  ·exact h.elq u x hu
  ·exact ⟨M, hM, hv⟩
 ·rcases hown c k ho with h1 | rfl
  ·exact (h.vc j u x hvt c k hc h1 ha).imp (qB s (Zp h1)) (YG s)
  ·obtain ⟨a, _, ha⟩ := ha
   exact absurd ha (hnak j a)
 ·rcases hu with hu | ⟨rfl, rfl⟩
  ·have hut : u ≠ t := fun e => hf ⟨x, e ▸ hu⟩
   rw [js hut]
   exact h.elc u x hu
  ·rw [Qch]
   refine ⟨hs, List.prefix_append _ _, by simp [GH.wnU], fun j e hj hje => ?_⟩
   have hj : (Γ.cl u x).length ≤ j := hj
   rw [List.getElem?_append_right hj] at hje
   have h0 : j - (Γ.cl u x).length = 0 := by
    have := (List.getElem?_eq_some_iff.1 hje).1
    simpa using this
   rw [h0] at hje
   have := Option.some.inj hje
   rw [← this]
 ·rcases hu with hu | ⟨rfl, rfl⟩
  ·have hut : u ≠ t := fun e => hf ⟨x, e ▸ hu⟩
   rw [js hut]
   exact Zf s (h.lgp u x hu)
  ·rw [Qch]
   exact Qc6 (Zf s hcl.1) (fun e he => by have := hcl.2 e he; omega) Qch ⟨x, .inr ⟨rfl, rfl⟩⟩
 ·by_cases hut : u = t
  ·exact absurd ⟨i, .inr ⟨hut, rfl⟩⟩ hu
  ·rw [js hut]
   exact h.no u (fun ⟨x, hx⟩ => hu ⟨x, .inl hx⟩)
 ·rcases hown c k ho with h1 | rfl
  ·rcases hu with hu | ⟨rfl, rfl⟩
   ·exact (h.lc u x hu c k hc h1).imp (qB s (Zp h1)) (YG s)
   ·by_cases hq : ∃ j, j ∈ M ∧ ∃ a, k ≤ a ∧ Γ.ak j c a
    ·obtain ⟨j, hj, ha⟩ := hq
     exact (h.vc j u x (hv j hj) c k hc h1 ha).imp (qB s (Zp h1)) (YG s)
    ·right
     refine ⟨M, hM, fun j hj => ⟨?_, fun a ha hb => hq ⟨j, hj, a, ha, hb⟩⟩⟩
     have := h.vtf _ _ _ (hv j hj)
     show c < Γ.tf j
     omega
  ·rcases hu with hu | ⟨rfl, rfl⟩
   ·right
    obtain ⟨A, hA, ha⟩ := h.elq u x hu
    refine ⟨A, hA, fun j hj => ⟨?_, fun a _ hb => hnak j a hb⟩⟩
    have := h.vtf _ _ _ (ha j hj)
    show c < Γ.tf j
    omega
   ·omega
 ·rcases hu with hu | ⟨rfl, rfl⟩
  ·exact h.pos u x hu
  ·exact h0
 ·obtain ⟨h1, h2, x, h3⟩ := h.akl j c a ha
  exact ⟨Nat.le_trans h1 (Qfh s c), h2, x, .inl h3⟩
structure NodeI (n : Nat) (Γ : GH) (i : Nat) (x : ND) (F : List Ent) : Prop where
 lo : LogI n Γ i x.g F
 tf : Γ.tf i = x.g.term
 cm : Γ.cmt n (F.take x.commit.toNat) x.g.term
 ld : x.role = 2 → Γ.el x.g.term i ∧ Γ.lg x.g.term = F ∧ Γ.ak i x.g.term F.length ∧ ∀ j, j < n → j ≠ i → x.nxt j ≤ F.length + 1 ∧ (x.mat j = 0 ∨ Γ.ak j x.g.term (x.mat j).toNat)
 cd : x.role = 1 → Γ.cl x.g.term i = F ∧ Γ.vt i x.g.term i ∧ ¬ Γ.el x.g.term i ∧ ∀ v ∈ x.votes, ∃ w : Nat, v = w ∧ Γ.vt w x.g.term i
structure MsgI (n : Nat) (Γ : GH) (m : Msg) : Prop where
 ask : m.kind = 0 → ∃ x : Nat, m.frm = x ∧ Γ.vt x m.term x ∧ m.index = (Γ.cl m.term x).length ∧ m.logTerm = tmZ (Γ.cl m.term x) (Γ.cl m.term x).length
 vote : m.kind = 1 → m.ok = true → ∃ i x : Nat, m.frm = i ∧ m.to = x ∧ Γ.vt i m.term x
 app : m.kind = 2 → (∃ x, Γ.el m.term x) ∧ ∃ k c : Nat, m.index = k ∧ k ≤ (Γ.lg m.term).length ∧ m.logTerm = tmZ (Γ.lg m.term) k ∧ m.es <+: (Γ.lg m.term).drop k ∧ m.commit = c ∧ c ≤ (Γ.lg m.term).length ∧ Γ.cmt n ((Γ.lg m.term).take c) m.term
 snap : m.kind = 4 → (∃ x, Γ.el m.term x) ∧ ∃ k : Nat, m.index = k ∧ k ≤ (Γ.lg m.term).length ∧ m.logTerm = tmZ (Γ.lg m.term) k ∧ Γ.cmt n ((Γ.lg m.term).take k) m.term ∧ unS m.state = YI ((Γ.lg m.term).take k)
 ack : m.kind = 3 → m.ok = true → ∃ i k : Nat, m.frm = i ∧ m.index = k ∧ (k = 0 ∨ Γ.ak i m.term k)
theorem ze {α : Type} {a b : List α} (h : a <+: b) {k : Nat} (hk : k ≤ a.length) : b.take k = a.take k := by
 obtain ⟨r, rfl⟩ := h
 exact List.take_append_of_le_length hk
theorem Qe6 {n : Nat} {A B : GH} (h : A.le n B) {m : Msg} (hm : MsgI n A m) : MsgI n B m where
 ask := fun hk => by
  obtain ⟨x, h1, h2, h3, h4⟩ := hm.ask hk
  exact ⟨x, h1, h.vt _ _ _ h2, by rw [h.cl _ _ h2]; exact h3, by rw [h.cl _ _ h2]; exact h4⟩
 vote := fun hk ho => by
  obtain ⟨i, x, h1, h2, h3⟩ := hm.vote hk ho
  exact ⟨i, x, h1, h2, h.vt _ _ _ h3⟩
 app := fun hk => by
  obtain ⟨⟨x, hx⟩, k, c, h1, h2, h3, h4, h5, h6, h7⟩ := hm.app hk
  have hp := h.lg m.term
  refine ⟨⟨x, h.el _ _ hx⟩, k, c, h1, Nat.le_trans h2 hp.length_le, ?_, ?_, h5, Nat.le_trans h6 hp.length_le, ?_⟩
  ·rw [h3]
   exact zc (k := k) (ze hp h2).symm (Nat.le_refl _)
  ·obtain ⟨r, hr⟩ := hp
   rw [← hr, List.drop_append_of_le_length h2]
   exact h4.trans (List.prefix_append _ _)
  ·rw [ze hp h6]; exact Zj h h7
 snap := fun hk => by
  obtain ⟨⟨x, hx⟩, k, h1, h2, h3, h4, h5⟩ := hm.snap hk
  have hp := h.lg m.term
  exact ⟨⟨x, h.el _ _ hx⟩, k, h1, Nat.le_trans h2 hp.length_le, by rw [h3]; exact zc (k := k) (ze hp h2).symm (Nat.le_refl _), by rw [ze hp h2]; exact Zj h h4, by rw [ze hp h2]; exact h5⟩
 ack := fun hk ho => by
  obtain ⟨i, k, h1, h2, h3⟩ := hm.ack hk ho
  exact ⟨i, k, h1, h2, h3.imp id (h.ak _ _ _)⟩
theorem QaX {n i : Nat} {A B : GH} (hA : GHI n A) (h : A.le n B) {g : LG} {F : List Ent} (hl : LogI n A i g F) (hak : ∀ c a, B.ak i c a → A.ak i c a) (hvt : ∀ t x, B.vt i t x → A.vt i t x) (htf : B.tf i ≤ g.term) : LogI n B i g F :=
 ⟨hl.ag, Zf h hl.pl, hl.tm, fun c k ho ha => by
  obtain ⟨a, h1, h2⟩ := ha
  have h3 := hak c a h2
  have h4 := QgG h ho (by have := (hA.akl i c a h3).1; omega)
  exact (hl.nn c k h4 ⟨a, h1, h3⟩).imp (qB h (Zp h4)) (YG h), fun t x hv => hl.vv t x (hvt t x hv), htf, Zj h hl.cb, hl.st⟩
theorem QgC {n i j : Nat} {A B : GH} (hA : GHI n A) (h : A.stp n i B) (hj : j ≠ i) {g : LG} {F : List Ent} (hl : LogI n A j g F) : LogI n B j g F :=
 QaX hA h.le hl (h.ak j hj) (h.vt j hj) (by rw [h.tf j hj]; exact hl.tf)
theorem Qj7 {n i j : Nat} {A B : GH} (hA : GHI n A) (h : A.stp n i B) (hj : j ≠ i) {x : ND} {F : List Ent} (hx : NodeI n A j x F) : NodeI n B j x F where
 lo := QgC hA h hj hx.lo
 tf := by rw [h.tf j hj]; exact hx.tf
 cm := Zj h.le hx.cm
 ld := fun hr => by
  obtain ⟨h1, h2, h3, h4⟩ := hx.ld hr
  exact ⟨h.le.el _ _ h1, by rw [h.lgo _ j hj h1]; exact h2, h.le.ak _ _ _ h3, fun q hq hqj => ⟨(h4 q hq hqj).1, (h4 q hq hqj).2.imp id (h.le.ak _ _ _)⟩⟩
 cd := fun hr => by
  obtain ⟨h1, h2, h3, h4⟩ := hx.cd hr
  exact ⟨by rw [h.le.cl _ _ h2]; exact h1, h.le.vt _ _ _ h2, fun he => h3 (h.elo _ j hj he), fun v hv => by obtain ⟨w, a, b⟩ := h4 v hv; exact ⟨w, a, h.le.vt _ _ _ b⟩⟩
def Res (n : Nat) (Γ : GH) (i : Nat) (y : ND) : Prop := ∃ Δ F, Γ.stp n i Δ ∧ GHI n Δ ∧ NodeI n Δ i y F ∧ ∀ m ∈ y.out, MsgI n Δ m
def Act2 (n : Nat) (Γ : GH) (i : Nat) (x y : ND) : Prop := ∃ Δ, Γ.stp n i Δ ∧ GHI n Δ ∧ (∃ F, LogI n Δ i x.g F) ∧ (∃ F, LogI n Δ i y.g F) ∧ Res n Δ i y
theorem QaP {n i : Nat} {Γ Δ : GH} {y : ND} (h : Γ.stp n i Δ) (r : Res n Δ i y) : Res n Γ i y := by
 obtain ⟨E, F, h1, h2⟩ := r
 exact ⟨E, F, Qdv h h1, h2⟩
theorem YD {n i : Nat} {Γ : GH} {x y : ND} {F : List Ent} (hG : GHI n Γ) (hx : NodeI n Γ i x F) (hg : y.g = x.g) (r : Res n Γ i y) : Act2 n Γ i x y :=
 ⟨Γ, XW n i Γ, hG, ⟨F, hx.lo⟩, ⟨F, by rw [hg]; exact hx.lo⟩, r⟩
theorem NodeI.cong {n i : Nat} {Γ : GH} {x y : ND} {F : List Ent} (h : NodeI n Γ i x F) (hg : y.g = x.g) (hc : y.commit = x.commit) (h2 : y.role = 2 → x.role = 2 ∧ y.peers = x.peers) (h1 : y.role = 1 → x.role = 1 ∧ y.votes = x.votes) : NodeI n Γ i y F where
 lo := by rw [hg]; exact h.lo
 tf := by rw [hg]; exact h.tf
 cm := by rw [hg, hc]; exact h.cm
 ld := fun hr => by
  obtain ⟨a, b⟩ := h2 hr
  have := h.ld a
  unfold ND.nxt ND.mat at this ⊢
  rw [hg, b]; exact this
 cd := fun hr => by
  obtain ⟨a, b⟩ := h1 hr
  have := h.cd a
  rw [hg, b]; exact this
theorem NodeI.follow {n i : Nat} {Γ : GH} {x y : ND} {F : List Ent} (h : NodeI n Γ i x F) (hg : y.g = x.g) (hc : y.commit = x.commit) (hr : y.role = 0) : NodeI n Γ i y F :=
 h.cong hg hc (fun h => by rw [hr] at h; cases h) (fun h => by rw [hr] at h; cases h)
theorem Qhe {F : List Ent} {x : ND} (h : AG x.g F) {j : Nat} (hj : x.g.base ≤ j ∧ j ≤ F.length) : x.tAt j = tmZ F j := by
 unfold ND.tAt
 rw [h.termAt hj]; rfl
theorem Qev {F : List Ent} {x : ND} (h : AG x.g F) : x.tAt x.g.last = tmZ F F.length := by
 have h1 := h.b0
 have h2 := h.b
 rw [h.last]
 exact Qhe h (by omega)
theorem Qdh {n i : Nat} {Γ : GH} {x : ND} {F : List Ent} {T I : Int} (hx : NodeI n Γ i x F) (ub : UB T I x) (hn : x.n = n) (hr : x.role = 2) {j : Nat} (hj : j < n) (hji : j ≠ i) : MsgI n Γ (x.stamp (x.feedMsg j)) := by
 obtain ⟨h1, h2, h3, h4⟩ := hx.ld hr
 have hag := hx.lo.ag
 have hb0 := hag.b0
 have hb := hag.b
 have hnx := (h4 j hj hji).1
 have hpl := ub.inn.peers hr
 have hn1 : 1 ≤ x.nxt j := by
  unfold ND.nxt
  have hm : x.peers.getD j (0, 0) ∈ x.peers := by rw [List.getD_eq_getElem?_getD, List.getElem?_eq_getElem (by rw [hpl, hn]; exact hj)]; simp
  exact (ub.inn.peer _ hm).1.1
 have hcm := ub.inn.commit
 have hla := hag.last
 by_cases hs : x.nxt j ≤ x.g.base
 ·rw [zC hs]
  refine ⟨fun hk => absurd (show (4 : Int) = 0 from hk) (by decide), fun hk => absurd (show (4 : Int) = 1 from hk) (by decide), fun hk => absurd (show (4 : Int) = 2 from hk) (by decide), fun _ => ⟨⟨i, h1⟩, x.g.base.toNat, by show x.g.base = _; omega, ?_, ?_, ?_, ?_⟩, fun hk => absurd (show (4 : Int) = 3 from hk) (by decide)⟩
  ·show _ ≤ (Γ.lg x.g.term).length
   rw [h2]; exact hb
  ·show x.g.baseT = tmZ (Γ.lg x.g.term) _
   rw [h2]; exact hag.bt
  ·show Γ.cmt n ((Γ.lg x.g.term).take _) x.g.term
   rw [h2]; exact hx.lo.cb
  ·show unS x.g.state = YI ((Γ.lg x.g.term).take _)
   rw [h2]; exact hx.lo.st (by omega)
 ·rw [ji hs]
  refine ⟨fun hk => absurd (show (2 : Int) = 0 from hk) (by decide), fun hk => absurd (show (2 : Int) = 1 from hk) (by decide), fun _ => ⟨⟨i, h1⟩, (x.nxt j - 1).toNat, x.commit.toNat, by show x.nxt j - 1 = _; omega, ?_, ?_, ?_, by show x.commit = _; omega, ?_, ?_⟩, fun hk => absurd (show (2 : Int) = 4 from hk) (by decide), fun hk => absurd (show (2 : Int) = 3 from hk) (by decide)⟩
  ·show _ ≤ (Γ.lg x.g.term).length
   rw [h2]; omega
  ·show x.tAt (x.nxt j - 1) = tmZ (Γ.lg x.g.term) _
   rw [h2]
   have := Qhe (x := x) hag (j := (x.nxt j - 1).toNat) (by omega)
   rw [← this]; congr 1; omega
  ·show (x.g.all.drop (x.nxt j - x.g.base - 1).toNat).take 8 <+: (Γ.lg x.g.term).drop _
   rw [h2, hag.all, List.drop_drop, show x.g.base.toNat + (x.nxt j - x.g.base - 1).toNat = (x.nxt j - 1).toNat by omega]
   exact List.take_prefix _ _
  ·show _ ≤ (Γ.lg x.g.term).length
   rw [h2]; omega
  ·show Γ.cmt n ((Γ.lg x.g.term).take _) x.g.term
   rw [h2]; exact hx.cm
theorem QcH {n i : Nat} {Γ : GH} {x : ND} {F : List Ent} {T I : Int} (hx : NodeI n Γ i x F) (ub : UB T I x) (hid : x.id = i) (hn : x.n = n) (hr : x.role = 2) (ho : x.out = []) : ∀ m ∈ x.feedAll.out, MsgI n Γ m := fun m hm => by
 rw [jk ho] at hm
 obtain ⟨m1, hm1, rfl⟩ := List.mem_map.1 hm
 obtain ⟨j, hj, rfl⟩ := List.mem_map.1 hm1
 have hj2 : j < x.n ∧ j ≠ x.id := by unfold ND.others at hj; rw [List.mem_filter] at hj; simpa using hj
 exact Qdh hx ub hn hr (by omega) (by omega)
theorem QfW {l : List Int} (h : l.Pairwise (fun a b => decide (a ≤ b) = true)) {m : Nat} (hm : m < l.length) : l.length - m ≤ l.countP (fun r => decide (l.getD m 0 ≤ r)) := by
 have hg : l.getD m 0 = l[m] := by simp [List.getD_eq_getElem?_getD, List.getElem?_eq_getElem hm]
 rw [hg]
 rw [List.pairwise_iff_getElem] at h
 have hsp := List.take_append_drop m l
 have : (l.drop m).countP (fun r => decide (l[m] ≤ r)) = (l.drop m).length := by
  rw [List.countP_eq_length]
  intro a ha
  obtain ⟨j, hj, rfl⟩ := List.getElem_of_mem ha
  rw [List.getElem_drop]
  simp
  by_cases hj0 : j = 0
  ·subst hj0; simp
  ·have h2 := h m (m + j) hm (by simp at hj; omega) (by omega)
   simpa using h2
 have h3 : l.countP (fun r => decide (l[m] ≤ r)) = (l.take m).countP (fun r => decide (l[m] ≤ r)) + (l.drop m).countP (fun r => decide (l[m] ≤ r)) := by
  rw [← List.countP_append, hsp]
 rw [h3, this]
 simp
theorem QlO {x : ND} (hid : x.id < x.n) (hl : x.mid ≤ x.g.last) : Maj x.n (x.id :: x.others.filter (fun j => decide (x.mid ≤ x.mat j))) := by
 have h1 := List.mergeSort_perm x.reach (fun a b => decide (a ≤ b))
 have h2 := List.pairwise_mergeSort (le := fun (a b : Int) => decide (a ≤ b)) (fun a b c h1 h2 => by simp at *; omega) (fun a b => by simp; omega) x.reach
 have h3 := h1.length_eq
 rw [QaQ hid] at h3
 have h4 := QfW h2 (m := (x.n - 1) / 2) (by omega)
 have e : (x.reach.mergeSort (fun a b => decide (a ≤ b))).getD ((x.n - 1) / 2) 0 = x.mid := rfl
 rw [e, h3, h1.countP_eq] at h4
 unfold ND.reach at h4
 rw [List.countP_cons_of_pos (by simpa using hl), List.countP_map] at h4
 have hfil : (x.others.filter (fun j => decide (x.mid ≤ x.mat j))).length = x.others.countP ((fun r => decide (x.mid ≤ r)) ∘ x.mat) := by
  rw [← List.countP_eq_length_filter]; rfl
 have hmo : ∀ j ∈ x.others, j < x.n ∧ j ≠ x.id := fun j hj => by unfold ND.others at hj; rw [List.mem_filter] at hj; simpa using hj
 refine ⟨List.nodup_cons.2 ⟨fun h => (hmo _ (List.mem_filter.1 h).1).2 rfl, ?_⟩, fun j hj => ?_, ?_⟩
 ·unfold ND.others
  exact (List.nodup_range.filter _).filter _
 ·rcases List.mem_cons.1 hj with rfl | hj
  ·exact hid
  ·exact (hmo j (List.mem_filter.1 hj).1).1
 ·rw [List.length_cons, hfil]; omega
theorem NodeI.count {n i : Nat} {Γ : GH} {x : ND} {F : List Ent} {T I : Int} (hx : NodeI n Γ i x F) (ub : UB T I x) (hid : x.id = i) (hn : x.n = n) (hr : x.role = 2) : NodeI n Γ i x.count F := by
 unfold ND.count
 split
 ·rename_i hc
  obtain ⟨h1, h2, h3, h4⟩ := hx.ld hr
  have hag := hx.lo.ag
  have hb0 := hag.b0
  have hla := hag.last
  have hcm := ub.inn.commit
  have hml : x.mid ≤ x.g.last := Qe7 ub.inn.idn.1 (ub.inn.pl hr) (by omega)
  have hta : x.tAt x.mid = tmZ F x.mid.toNat := by
   have := Qhe (x := x) hag (j := x.mid.toNat) (by omega)
   rw [← this]; congr 1; omega
  have hM := QlO ub.inn.idn.1 hml
  rw [hn] at hM
  refine ⟨hx.lo, hx.tf, ?_, fun hr => hx.ld hr, fun hr1 => hx.cd hr1⟩
  show Γ.cmt n (F.take x.mid.toNat) x.g.term
  obtain ⟨e, he, e1⟩ := zJ (F := F) (k := x.mid.toNat) (by omega) (by omega)
  refine .inr ⟨x.g.term, x.mid.toNat, Int.le_refl _, ⟨⟨by omega, e, by rw [h2]; exact he, by rw [← e1, ← hta]; exact hc.2⟩, _, hM, fun j hj => ?_⟩, by rw [h2]; exact List.prefix_refl _⟩
  rcases List.mem_cons.1 hj with rfl | hj
  ·exact ⟨F.length, by omega, by rw [hid]; exact h3⟩
  ·obtain ⟨hj1, hj2⟩ := List.mem_filter.1 hj
   have hj3 : j < x.n ∧ j ≠ x.id := by unfold ND.others at hj1; rw [List.mem_filter] at hj1; simpa using hj1
   have hj2 : x.mid ≤ x.mat j := by simpa using hj2
   rcases (h4 j (by omega) (by omega)).2 with h5 | h5
   ·omega
   ·exact ⟨_, by omega, h5⟩
 ·exact hx
theorem Qfu {n i : Nat} {Γ Δ : GH} {z : ND} {F : List Ent} {T I : Int} {cmd : Bs} (hd : GHI n Δ) (hs : Γ.stp n i Δ) (he : Δ.el z.g.term i) (hl : Δ.lg z.g.term = F ++ [(z.g.term, cmd)]) (hlo : LogI n Δ i z.g F) (htf : Δ.tf i = z.g.term) (hcm : Δ.cmt n (F.take z.commit.toNat) z.g.term) (hp : ∀ j, j < n → j ≠ i → z.nxt j ≤ F.length + 1 ∧ (z.mat j = 0 ∨ Δ.ak j z.g.term (z.mat j).toNat)) (ub : UB T I z) (hid : z.id = i) (hn : z.n = n) (hr : z.role = 2) (ho : z.out = []) (hc : cmd.length ≤ 100) : Act2 n Γ i z (z.entryP cmd) := by
 have hag := hlo.ag
 have hb0 := hag.b0
 have hb := hag.b
 have hla := hag.last
 have hcom := ub.inn.commit
 obtain ⟨e1, e2⟩ := QkJ (g := z.g) (z.g.term, cmd) hb0
 obtain ⟨Y, hY⟩ : ∃ Y : ND, Y = { z with g := z.g.play (.add z.g.last [(z.g.term, cmd)]) } := ⟨_, rfl⟩
 have hYg : Y.g = z.g.play (.add z.g.last [(z.g.term, cmd)]) := by rw [hY]
 have hag2 : AG Y.g (F ++ [(z.g.term, cmd)]) := by
  rw [hYg]
  refine ⟨hb0, by show z.g.base.toNat ≤ _; simp; omega, ?_, ?_⟩
  ·rw [e1, hag.all]
   show _ = (F ++ [(z.g.term, cmd)]).drop z.g.base.toNat
   rw [List.drop_append_of_le_length hb]
  ·show z.g.baseT = tmZ (F ++ [(z.g.term, cmd)]) z.g.base.toNat
   rw [hag.bt]
   exact zc (k := z.g.base.toNat) (List.take_append_of_le_length hb).symm (Nat.le_refl _)
 have htake : ∀ k, k ≤ F.length → (F ++ [(z.g.term, cmd)]).take k = F.take k := fun k hk => List.take_append_of_le_length hk
 have hlo2 : LogI n Δ i Y.g (F ++ [(z.g.term, cmd)]) := by
  refine ⟨hag2, Qc6 hlo.pl hlo.tm hl ⟨i, he⟩, fun e hm => ?_, fun c k ho ha => ?_, fun t x hv => ?_, ?_, ?_, fun hb => ?_⟩
  ·rw [hYg]
   rcases List.mem_append.1 hm with hm | hm
   ·exact hlo.tm e hm
   ·simp at hm; subst hm; exact Int.le_refl _
  ·rcases hlo.nn c k ho ha with h1 | h1
   ·exact .inl ⟨by have := h1.1; simp; omega, by rw [htake k h1.1]; exact h1.2⟩
   ·exact .inr h1
  ·rw [hYg]; exact hlo.vv t x hv
  ·rw [hYg]; exact hlo.tf
  ·rw [hYg]
   show Δ.cmt n ((F ++ [(z.g.term, cmd)]).take z.g.base.toNat) z.g.term
   rw [htake _ hb]; exact hlo.cb
  ·rw [hYg] at hb ⊢
   show unS z.g.state = YI ((F ++ [(z.g.term, cmd)]).take z.g.base.toNat)
   rw [htake _ hlo.ag.b]; exact hlo.st hb
 have hYt : Y.g.term = z.g.term := by rw [hYg]; rfl
 have hst := Qdp (n := n) (i := i) (Γ := Δ) (a := (F ++ [(z.g.term, cmd)]).length) htf
 have hd2 := Qjt (a := (F ++ [(z.g.term, cmd)]).length) hd htf (by rw [hl]; exact Nat.le_refl _) ⟨i, he⟩
 obtain ⟨E, hE⟩ : ∃ E, E = Δ.akU i z.g.term (F ++ [(z.g.term, cmd)]).length := ⟨_, rfl⟩
 rw [← hE] at hst hd2
 have hElg : ∀ t, E.lg t = Δ.lg t := fun t => by rw [hE]; rfl
 have hakE : E.ak i z.g.term (F ++ [(z.g.term, cmd)]).length := by rw [hE]; exact .inr ⟨rfl, rfl, rfl⟩
 have hlo3 : LogI n E i Y.g (F ++ [(z.g.term, cmd)]) := by
  refine ⟨hag2, Zf hst.le hlo2.pl, hlo2.tm, fun c k ho ha => ?_, fun t x hv => hlo2.vv t x (by rw [hE] at hv; exact hv), by rw [show E.tf i = Δ.tf i by rw [hE]; rfl]; exact hlo2.tf, Zj hst.le hlo2.cb, hlo2.st⟩
  have ho2 : Δ.own c k := QeY (hElg c).symm.symm ho
  obtain ⟨a, ha1, ha2⟩ := ha
  rw [hE] at ha2
  rcases ha2 with ha2 | ⟨_, rfl, rfl⟩
  ·exact (hlo2.nn c k ho2 ⟨a, ha1, ha2⟩).imp (qB hst.le (Zp ho2)) (YG hst.le)
  ·left
   exact ⟨ha1, by rw [hElg, hl]⟩
 -- the node, with the entry
 have hubY : UB T (I + 1) Y := by
  have h1 := (ub.inn.add (i := z.g.last) (m := [(z.g.term, cmd)]) ⟨ub.inn.commit.2, Int.le_refl _⟩ (fun _ => Eq.refl _) (fun e he => by simp at he; subst he; exact ⟨ub.inn.term, hc⟩)).inn
  rw [← hY] at h1
  have hlb := ub.lb.last
  exact UB.mk0 h1 (by rw [hYg, e2]; omega) (fun p hp => by rw [hY] at hp; have := ub.pp p hp; omega) (by rw [hYg]; exact ub.lb.st)
 have hN : NodeI n E i Y (F ++ [(z.g.term, cmd)]) := by
  refine ⟨hlo3, by rw [hYt, show E.tf i = Δ.tf i by rw [hE]; rfl]; exact htf, ?_, fun _ => ⟨?_, ?_, ?_, fun j hj hji => ?_⟩, fun h => ?_⟩
  ·rw [hYt, show Y.commit = z.commit by rw [hY]]
   rw [htake _ (by omega)]
   exact Zj hst.le hcm
  ·rw [hYt]; exact hst.le.el _ _ he
  ·rw [hYt, hElg]; exact hl
  ·rw [hYt]; exact hakE
  ·have := hp j hj hji
   rw [hYt, show Y.nxt j = z.nxt j by rw [hY]; rfl, show Y.mat j = z.mat j by rw [hY]; rfl]
   exact ⟨by simp; omega, this.2.imp id (hst.le.ak _ _ _)⟩
  ·rw [show Y.role = z.role by rw [hY], hr] at h; cases h
 have hYid : Y.id = i := by rw [hY]; exact hid
 have hYn : Y.n = n := by rw [hY]; exact hn
 have hYr : Y.role = 2 := by rw [hY]; exact hr
 have hYo : Y.out = [] := by rw [hY]; exact ho
 have hNc := hN.count hubY hYid hYn hYr
 have hubc := hubY.count hYr
 have hcr := YO Y
 have ey : z.entryP cmd = Y.count.feedAll := by unfold ND.entryP; rw [hY]
 have hcid : Y.count.id = i := by
  have : Y.count.id = Y.id := by unfold ND.count; split <;> rfl
  rw [this]; exact hYid
 have hms := QcH hNc hubc hcid (by rw [hcr.2.2.2.2.1]; exact hYn) (by rw [hcr.2.2.1]; exact hYr) (by rw [hcr.1]; exact hYo)
 refine ⟨Δ, hs, hd, ⟨F, hlo⟩, ⟨F ++ [(z.g.term, cmd)], ?_⟩, E, F ++ [(z.g.term, cmd)], hst, hd2, ?_, ?_⟩
 ·rw [ey, Zy, ZI]; exact hlo2
 ·rw [ey]
  refine hNc.cong (Zy _) (by rw [Xo]; rfl) (fun h => ⟨by rw [Xo] at h; exact h, by rw [Xo]; rfl⟩) (fun h => ⟨by rw [Xo] at h; exact h, by rw [Xo]; rfl⟩)
 ·rw [ey]; exact hms
theorem QiW {n : Nat} {Γ : GH} {m : Msg} (h0 : ¬ m.kind = 0) (h2 : ¬ m.kind = 2) (h4 : ¬ m.kind = 4) (h1 : ¬ (m.kind = 1 ∧ m.ok = true)) (h3 : ¬ (m.kind = 3 ∧ m.ok = true)) : MsgI n Γ m :=
 ⟨fun h => absurd h h0, fun h k => absurd ⟨h, k⟩ h1, fun h => absurd h h2, fun h => absurd h h4, fun h k => absurd ⟨h, k⟩ h3⟩
theorem Zo {n i : Nat} {Γ : GH} {y : ND} {F : List Ent} (hG : GHI n Γ) (hy : NodeI n Γ i y F) (ho : y.out = []) : Res n Γ i y := ⟨Γ, F, XW n i Γ, hG, hy, fun m hm => by rw [ho] at hm; cases hm⟩
theorem yn {n i : Nat} {Γ Δ : GH} {y : ND} {F : List Ent} {m : Msg} (hs : Γ.stp n i Δ) (hG : GHI n Δ) (hy : NodeI n Δ i y F) (ho : y.out = []) (hm : MsgI n Δ (y.stamp m)) : Res n Γ i (y.send m) :=
 ⟨Δ, F, hs, hG, hy.cong rfl rfl (fun h => ⟨h, rfl⟩) (fun h => ⟨h, rfl⟩), fun m1 hm1 => by rw [jV ho] at hm1; simp at hm1; subst hm1; exact hm⟩
theorem QiA {n i : Nat} {Γ : GH} {y : ND} {F : List Ent} {m : Msg} {k : Int} (hG : GHI n Γ) (hy : NodeI n Γ i y F) (ho : y.out = []) : Res n Γ i (y.answer m false k) :=
 yn (XW n i Γ) hG hy ho (QiW (fun h => absurd (show (3 : Int) = 0 from h) (by decide)) (fun h => absurd (show (3 : Int) = 2 from h) (by decide)) (fun h => absurd (show (3 : Int) = 4 from h) (by decide)) (fun h => absurd (show (3 : Int) = 1 from h.1) (by decide)) (fun h => absurd (show false = true from h.2) (by decide)))
theorem jB {n i : Nat} {Γ : GH} {y : ND} {F : List Ent} {m : Msg} {a : Nat} (hG : GHI n Γ) (hy : NodeI n Γ i y F) (hr : y.role = 0) (hid : y.id = i) (ho : y.out = []) (he : ∃ x, Γ.el y.g.term x) (hp : Γ.pre F y.g.term a) : Res n Γ i (y.answer m true a) := by
 have hlen : a ≤ (Γ.lg y.g.term).length := by
  have h1 := congrArg List.length hp.2
  have h2 := hp.1
  simp only [List.length_take] at h1
  omega
 have hs := Qdp (n := n) (i := i) (Γ := Γ) (a := a) hy.tf
 have hd := Qjt hG hy.tf hlen he
 refine yn hs hd (F := F) ⟨⟨hy.lo.ag, Zf hs.le hy.lo.pl, hy.lo.tm, fun c k hk ha => ?_, hy.lo.vv, hy.lo.tf, Zj hs.le hy.lo.cb, hy.lo.st⟩, hy.tf, Zj hs.le hy.cm, fun h => (by rw [hr] at h; cases h), fun h => (by rw [hr] at h; cases h)⟩ ho ?_
 ·obtain ⟨b, hb1, hb2⟩ := ha
  rcases hb2 with hb2 | ⟨_, rfl, rfl⟩
  ·exact (hy.lo.nn c k hk ⟨b, hb1, hb2⟩).imp (qB hs.le (Zp hk)) (YG hs.le)
  ·left
   refine ⟨Nat.le_trans hb1 hp.1, ?_⟩
   have h1 := congrArg (List.take k) hp.2
   rw [List.take_take, List.take_take, Nat.min_eq_left hb1] at h1
   exact h1
 ·refine ⟨fun h => absurd (show (3 : Int) = 0 from h) (by decide), fun h => absurd (show (3 : Int) = 1 from h) (by decide), fun h => absurd (show (3 : Int) = 2 from h) (by decide), fun h => absurd (show (3 : Int) = 4 from h) (by decide), fun _ _ => ⟨i, a, ?_, rfl, .inr (.inr ⟨rfl, rfl, rfl⟩)⟩⟩
  show (y.id : Int) = i
  rw [hid]
theorem QkG {n i : Nat} {Γ : GH} {x : ND} {F : List Ent} {m : Msg} (hG : GHI n Γ) (hx : NodeI n Γ i x F) (hid : x.id = i) (ho : x.out = []) (hm : MsgI n Γ m) (hk : m.kind = 0) (hf : ¬ m.frm = i) : Act2 n Γ i x (x.askedP m) := by
 unfold ND.askedP
 by_cases h1 : x.grants m = true
 ·rw [if_pos h1]
  unfold ND.grants ND.good at h1
  simp only [Bool.and_eq_true, Bool.or_eq_true, decide_eq_true_eq] at h1
  obtain ⟨⟨⟨ht, hr⟩, hfree⟩, hgood⟩ := h1
  obtain ⟨c, hc1, hc2, hc3, hc4⟩ := hm.ask hk
  have hclp := hG.clp _ _ hc2
  have hta := Qev (x := x) hx.lo.ag
  have hla := hx.lo.ag.last
  rw [ht] at hc2 hc3 hc4 hclp
  have hone : ∀ y, Γ.vt i x.g.term y → y = c := fun y hv => by
   rcases hx.lo.vv _ y hv with h2 | ⟨_, h2⟩
   ·omega
   ·omega
  have hne : i ≠ c := fun e => hf (by rw [hc1, e])
  have hs := Qgh (n := n) (i := i) (Γ := Γ) (t := x.g.term) (x := c)
  have hd := QmF hG (by rw [hx.tf]; exact Int.le_refl _) hc2 hne hone (fun d k hdt hown hak => by
   rcases hx.lo.nn d k hown hak with h2 | h2
   ·refine QiU hG (F := F) (C := Γ.cl x.g.term c) hx.lo.pl hclp.1 hclp.2 hown h2 ?_
    rw [hta, hc4, hc3, hla] at hgood
    omega
   ·exact .inr h2)
  -- the log, with the vote
  have hlo : ∀ Δ : GH, Γ.le n Δ → (∀ d a, Δ.ak i d a → Γ.ak i d a) → (∀ t y, Δ.vt i t y → Γ.vt i t y ∨ (t = x.g.term ∧ y = c)) → Δ.tf i = Γ.tf i → LogI n Δ i { x.g with term := x.g.term, vote := m.frm } F := fun Δ hle hak hvt htf => by
   refine ⟨⟨hx.lo.ag.b0, hx.lo.ag.b, hx.lo.ag.all, hx.lo.ag.bt⟩, Zf hle hx.lo.pl, hx.lo.tm, fun d k hown ha => ?_, fun t y hv => ?_, by rw [htf]; exact hx.lo.tf, Zj hle hx.lo.cb, hx.lo.st⟩
   ·obtain ⟨a, ha1, ha2⟩ := ha
    have h3 := hak d a ha2
    have h4 := QgG hle hown (by have := (hG.akl i d a h3).1; omega)
    exact (hx.lo.nn d k h4 ⟨a, ha1, h3⟩).imp (qB hle (Zp h4)) (YG hle)
   ·rcases hvt t y hv with hv | ⟨rfl, rfl⟩
    ·rcases hx.lo.vv t y hv with h2 | ⟨h2, h3⟩
     ·exact .inl h2
     ·right
      refine ⟨h2, ?_⟩
      show m.frm = (y : Int)
      rw [h2] at hv
      rw [hc1, hone y hv]
    ·exact .inr ⟨rfl, hc1⟩
  refine ⟨Γ, XW n i Γ, hG, ⟨F, hx.lo⟩, ⟨F, hlo Γ (Qfg n Γ) (fun _ _ h => h) (fun _ _ h => .inl h) rfl⟩, ?_⟩
  refine yn hs hd (F := F) (y := { x with g := { x.g with term := x.g.term, vote := m.frm }, patience := 0 }) ⟨hlo _ hs.le (fun _ _ h => h) (fun t y hv => hv.imp id (fun h => ⟨h.2.1, h.2.2⟩)) rfl, hx.tf, Zj hs.le hx.cm, fun h => ?_, fun h => ?_⟩ ho ?_
  ·have : x.role = 2 := h
   omega
  ·have : x.role = 1 := h
   omega
  ·refine ⟨fun h => absurd (show (1 : Int) = 0 from h) (by decide), fun _ _ => ⟨i, c, ?_, hc1, .inr ⟨rfl, rfl, rfl⟩⟩, fun h => absurd (show (1 : Int) = 2 from h) (by decide), fun h => absurd (show (1 : Int) = 4 from h) (by decide), fun h => absurd (show (1 : Int) = 3 from h) (by decide)⟩
   show (x.id : Int) = i
   rw [hid]
 ·rw [if_neg h1]
  exact YD hG hx rfl (yn (XW n i Γ) hG hx ho (QiW (fun h => absurd (show (1 : Int) = 0 from h) (by decide)) (fun h => absurd (show (1 : Int) = 2 from h) (by decide)) (fun h => absurd (show (1 : Int) = 4 from h) (by decide)) (fun h => absurd (show false = true from h.2) (by decide)) (fun h => absurd (show (1 : Int) = 3 from h.1) (by decide))))
theorem Qia {n i : Nat} {Γ : GH} {x : ND} {F : List Ent} {T I : Int} (hG : GHI n Γ) (hx : NodeI n Γ i x F) (ub : UB T I x) (hid : x.id = i) (hn : x.n = n) (hr : x.role = 1) (ho : x.out = []) (h0 : 0 < x.g.term) (hmost : 2 * (x.votes.length : Int) > n) : Act2 n Γ i x x.winP := by
 obtain ⟨h1, h2, h3, h4⟩ := hx.cd hr
 have hvb := ub.inn.votes
 have hM : Maj n (x.votes.map Int.toNat) := by
  refine ⟨?_, fun j hj => ?_, by simp; omega⟩
  ·rw [List.nodup_iff_pairwise_ne, List.pairwise_map]
   refine (List.nodup_iff_pairwise_ne.1 hvb.1).imp_of_mem (fun {a b} ha hb hab e => ?_)
   have := hvb.2 a ha
   have := hvb.2 b hb
   omega
  ·obtain ⟨v, hv, rfl⟩ := List.mem_map.1 hj
   have := hvb.2 v hv
   rw [hn] at this
   omega
 have hv : ∀ j ∈ x.votes.map Int.toNat, Γ.vt j x.g.term i := fun j hj => by
  obtain ⟨v, hv, rfl⟩ := List.mem_map.1 hj
  obtain ⟨w, hw, hvt⟩ := h4 v hv
  rw [hw]
  exact hvt
 have hf := Qib hG hM hv h3
 have hs := Qgg (i := i) (e := (x.g.term, ([] : Bs))) hG hf
 have hd := QmE (cmd := []) hG h0 hM hv h2 hf
 have hub := ub.wins
 have hlo : LogI n (Γ.wnU i x.g.term (x.g.term, [])) i x.g F := QaX hG hs.le hx.lo (fun _ _ h => h) (fun _ _ h => h) hx.lo.tf
 obtain ⟨Δ, a1, a2, a3, a4, a5⟩ := Qfu (Γ := Γ) (z := x.wins) (F := F) (cmd := []) hd hs (.inr ⟨rfl, rfl⟩) (by rw [← h1]; exact Qch) hlo hx.tf (Zj hs.le hx.cm) (fun j hj hji => by
  have hnx : x.wins.nxt j = x.g.last + 1 ∧ x.wins.mat j = 0 := by
   unfold ND.nxt ND.mat
   have e : x.wins.peers = List.replicate x.n (x.g.last + 1, 0) := rfl
   rw [e, List.getD_eq_getElem?_getD, List.getElem?_replicate, if_pos (by omega)]
   exact ⟨rfl, rfl⟩
  rw [hnx.1, hnx.2, hx.lo.ag.last]
  exact ⟨by omega, .inl rfl⟩) hub hid hn rfl ho (by simp)
 exact ⟨Δ, a1, a2, a3, a4, a5⟩
theorem Qjz {n i : Nat} {Γ : GH} {x : ND} {F : List Ent} {T I : Int} {m : Msg} (hG : GHI n Γ) (hx : NodeI n Γ i x F) (ub : UB T I x) (hid : x.id = i) (hn : x.n = n) (ho : x.out = []) (hm : MsgI n Γ m) (hk : m.kind = 1) (hto : m.to = i) (hf : 0 ≤ m.frm ∧ m.frm < x.n) : Act2 n Γ i x (x.votedP m) := by
 unfold ND.votedP
 by_cases h1 : ¬ x.role = 1 ∨ ¬ m.term = x.g.term ∨ m.ok = false
 ·rw [if_pos h1]
  exact YD hG hx rfl (Zo hG hx ho)
 ·rw [if_neg h1]
  have hr : x.role = 1 := by omega
  have ht : m.term = x.g.term := by omega
  have hok : m.ok = true := by
   cases hb : m.ok with
   | true => rfl
   | false => exact absurd (.inr (.inr hb)) h1
  obtain ⟨v, w, hv1, hv2, hv3⟩ := hm.vote hk hok
  have hwi : w = i := by omega
  subst hwi
  rw [ht] at hv3
  have hx2 : NodeI n Γ w { x with votes := QW x.votes m.frm } F := by
   refine ⟨hx.lo, hx.tf, hx.cm, fun h => ?_, fun h => ?_⟩
   ·have : x.role = 2 := h
    omega
   ·obtain ⟨a1, a2, a3, a4⟩ := hx.cd hr
    refine ⟨a1, a2, a3, fun u hu => ?_⟩
    rcases jU hu with hu | hu
    ·exact a4 u hu
    ·exact ⟨v, by rw [hu, hv1], hv3⟩
  have hub2 : UB T I { x with votes := QW x.votes m.frm } := ⟨ub.inn.vote1 hf, ub.lb⟩
  split
  ·rename_i hmo
   have hpos : 0 < x.g.term := hG.vpos _ _ _ (hx.cd hr).2.1
   obtain ⟨Δ, b1, b2, b3, b4, b5⟩ := Qia (x := { x with votes := QW x.votes m.frm }) hG hx2 hub2 hid hn hr ho hpos (by rw [← hn]; exact hmo)
   exact ⟨Δ, b1, b2, b3, b4, b5⟩
  ·exact YD hG hx rfl (Zo hG hx2 ho)
theorem Qgx {Γ : GH} {F : List Ent} (h : Γ.pl F) (k : Nat) : Γ.pl (F.take k) := by
 refine ⟨fun j e hj => ?_, h.mono.sublist (List.take_sublist _ _)⟩
 have hl := (List.getElem?_eq_some_iff.1 hj).1
 simp only [List.length_take] at hl
 rw [List.getElem?_take, if_pos (by omega)] at hj
 rw [List.take_take, Nat.min_eq_left (by omega)]
 exact h.at_ j e hj
theorem Qa2 {g : LG} : ∀ {l : List Ent} {i : Int}, ND.fits g l i = none → ∀ (j : Nat) (e : Ent), l[j]? = some e → (g.at (i + j)).map (·.1) = some e.1
 | [], _, _, j, e, h => by simp at h
 | a :: l, i, h, j, e, hj => by
  by_cases h1 : (g.at i).map (·.1) = some a.1
  ·rw [qM h1] at h
   match j, hj with
   | 0, hj => have := Option.some.inj hj; subst this; simpa using h1
   | j + 1, hj =>
    have := Qa2 h j e hj
    rw [show i + ((j + 1 : Nat) : Int) = i + 1 + j by omega]; exact this
  ·rw [qS h1] at h; cases h
theorem Qa1 {g : LG} : ∀ {l : List Ent} {i j : Int} {l2 : List Ent}, ND.fits g l i = some (j, l2) → ∃ c : Nat, j = i + c ∧ l2 = l.drop c ∧ c < l.length ∧ (∀ (q : Nat) (e : Ent), q < c → l[q]? = some e → (g.at (i + q)).map (·.1) = some e.1) ∧ ∀ e, l[c]? = some e → ¬ (g.at j).map (·.1) = some e.1
 | [], i, j, l2, h => by cases h
 | a :: l, i, j, l2, h => by
  by_cases h1 : (g.at i).map (·.1) = some a.1
  ·rw [qM h1] at h
   obtain ⟨c, h2, h3, h4, h5, h6⟩ := Qa1 h
   refine ⟨c + 1, by omega, by simpa using h3, by simp; omega, fun q e hq he => ?_, fun e he => h6 e (by simpa using he)⟩
   match q, he with
   | 0, he => have := Option.some.inj he; subst this; simpa using h1
   | q + 1, he =>
    have := h5 q e (by omega) he
    rw [show i + ((q + 1 : Nat) : Int) = i + 1 + q by omega]; exact this
  ·rw [qS h1] at h
   cases h
   exact ⟨0, by simp, rfl, by simp, fun q e hq => by omega, fun e he => by have := Option.some.inj he; subst this; exact h1⟩
theorem QlY {n i : Nat} {Γ : GH} {g g' : LG} {F : List Ent} {y : Nat} {p a : Nat} (hG : GHI n Γ) (hl : LogI n Γ i g F) (he : Γ.el g.term y) (hp : p ≤ F.length) (hpa : p < a) (ha : a ≤ (Γ.lg g.term).length) (hpre : F.take p = (Γ.lg g.term).take p) (hdif : ¬ F.take (p + 1) = (Γ.lg g.term).take (p + 1)) (hb : g.base.toNat ≤ p) (hag : AG g' ((Γ.lg g.term).take a)) (hgt : g'.term = g.term) (hgv : g'.vote = g.vote) (hgb : g'.base = g.base) (hgs : g'.state = g.state) (htf : Γ.tf i = g.term) : LogI n Γ i g' ((Γ.lg g.term).take a) := by
 have htk : ∀ k, k ≤ p → ((Γ.lg g.term).take a).take k = F.take k := fun k hk => by
  rw [List.take_take, Nat.min_eq_left (by omega)]
  have := congrArg (List.take k) hpre
  rw [List.take_take, List.take_take, Nat.min_eq_left hk] at this
  exact this.symm
 refine ⟨hag, Qgx (hG.lgp _ _ he) a, fun e hm => by rw [hgt]; exact QhL hG he e (List.mem_of_mem_take hm), fun c k ho ha2 => ?_, fun t x hv => by rw [hgt, hgv]; exact hl.vv t x hv, by rw [hgt]; exact hl.tf, ?_, fun h => ?_⟩
 ·rcases hl.nn c k ho ha2 with h1 | h1
  · -- the leader's log has it too
   have hlead : (Γ.lg g.term).take k = (Γ.lg c).take k ∧ k ≤ (Γ.lg g.term).length ∨ Γ.dead n c k := by
    obtain ⟨b, hb1, hb2⟩ := ha2
    have hct := (hG.akl i c b hb2).2.1
    rcases Int.lt_or_eq_of_le (show c ≤ g.term by omega) with h2 | h2
    ·rcases hG.lc _ y he c k h2 ho with h3 | h3
     ·obtain ⟨_, ⟨r, hr⟩, _⟩ := hG.elc _ y he
      left
      have := h3.1
      exact ⟨by rw [← hr, List.take_append_of_le_length h3.1]; exact h3.2, by rw [← hr]; simp; omega⟩
     ·exact .inr h3
    ·subst h2
     exact .inl ⟨rfl, Zp ho⟩
   rcases hlead with ⟨h2, h3⟩ | h2
   ·left
    have hkp : k ≤ p := by
     rcases Nat.lt_or_ge p k with h4 | h4
     ·exfalso
      apply hdif
      have h5 := h1.2.trans h2.symm
      have h6 := congrArg (List.take (p + 1)) h5
      rw [List.take_take, List.take_take, Nat.min_eq_left (by omega)] at h6
      exact h6
     ·exact h4
    refine ⟨by simp; omega, ?_⟩
    rw [htk k hkp]; exact h1.2
   ·exact .inr h2
  ·exact .inr h1
 ·rw [hgt, hgb, htk _ hb]; exact hl.cb
 ·rw [hgb] at h
  rw [hgs, hgb, htk _ hb]; exact hl.st h
theorem Qmf {n i : Nat} {Γ : GH} {x : ND} {F : List Ent} {T I : Int} {m : Msg} (hG : GHI n Γ) (hx : NodeI n Γ i x F) (ub : UB T I x) (hid : x.id = i) (ho : x.out = []) (hr : x.role = 0) (hm : MsgI n Γ m) (hk : m.kind = 2) (ht : m.term = x.g.term) : Act2 n Γ i x (x.addP m) := by
 obtain ⟨⟨y, hy⟩, k, c, hi1, hi2, hi3, hi4, hi5, hi6, hi7⟩ := hm.app hk
 rw [ht] at hy hi2 hi3 hi4 hi6 hi7
 have hag := hx.lo.ag
 have hb0 := hag.b0
 have hbl := hag.b
 have hla := hag.last
 have hcom := ub.inn.commit
 -- the base is the leader's too
 have hbase : F.take x.g.base.toNat = (Γ.lg x.g.term).take x.g.base.toNat ∧ x.g.base.toNat ≤ (Γ.lg x.g.term).length := by
  have h1 := Qff hG hy (Int.le_refl _) hx.lo.cb
  have h2 := List.prefix_iff_eq_take.1 h1
  have h3 := h1.length_le
  simp only [List.length_take, Nat.min_eq_left hbl] at h2 h3
  exact ⟨h2, h3⟩
 have hlgpl := hG.lgp _ _ hy
 unfold ND.addP
 by_cases h1 : m.index < x.g.base ∧ (m.es.length : Int) < x.g.base - m.index
 ·rw [if_pos h1]
  refine YD hG hx rfl ?_
  have := jB (m := m) (a := x.g.base.toNat) hG hx hr hid ho ⟨y, hy⟩ ⟨hbl, hbase.1⟩
  rw [show ((x.g.base.toNat : Nat) : Int) = x.g.base by omega] at this
  exact this
 ·rw [if_neg h1]
  by_cases h2 : ¬ m.index < x.g.base ∧ ¬ x.g.termAt m.index = some m.logTerm
  ·rw [if_pos h2]
   exact YD hG hx rfl (QiA hG hx ho)
  ·rw [if_neg h2]
   -- where it fits: b, and entries l of the leader's log behind it
   obtain ⟨b, l, hcut, hb1, hb2, hb3, hb4⟩ : ∃ (b : Nat) (l : List Ent), x.cutM m = ((b : Int), l) ∧ x.g.base.toNat ≤ b ∧ b ≤ F.length ∧ F.take b = (Γ.lg x.g.term).take b ∧ l <+: (Γ.lg x.g.term).drop b := by
    unfold ND.cutM
    by_cases h3 : m.index < x.g.base
    ·rw [if_pos h3]
     refine ⟨x.g.base.toNat, m.es.drop (x.g.base - m.index).toNat, by rw [show ((x.g.base.toNat : Nat) : Int) = x.g.base by omega], Nat.le_refl _, hbl, hbase.1, ?_⟩
     obtain ⟨r, hr⟩ := hi4
     rw [show x.g.base.toNat = k + (x.g.base - m.index).toNat by omega, ← List.drop_drop, ← hr, List.drop_append_of_le_length (by omega)]
     exact List.prefix_append _ _
    ·rw [if_neg h3]
     have h4 : x.g.termAt m.index = some m.logTerm := by
      by_cases h4 : x.g.termAt m.index = some m.logTerm
      ·exact h4
      ·exact absurd ⟨h3, h4⟩ h2
     obtain ⟨k', hk1, hk2, hk3, hk4⟩ := hag.termAt_some h4
     have : k' = k := by omega
     subst this
     refine ⟨k', m.es, by rw [hi1], by omega, hk3, ?_, hi4⟩
     exact QhD hx.lo.pl hlgpl hk3 hi2 (by rw [← hk4, hi3])
   rw [hcut]
   have hblg : b ≤ (Γ.lg x.g.term).length := by
    have := congrArg List.length hb3
    simp only [List.length_take] at this
    omega
   have hll : b + l.length ≤ (Γ.lg x.g.term).length := by
    have := hb4.length_le
    simp only [List.length_drop] at this
    omega
   have hlq : ∀ (q : Nat) (e : Ent), l[q]? = some e → (Γ.lg x.g.term)[b + q]? = some e := fun q e he => by
    obtain ⟨r, hr⟩ := hb4
    have h5 : ((Γ.lg x.g.term).drop b)[q]? = some e := by rw [← hr, List.getElem?_append_left (List.getElem?_eq_some_iff.1 he).1]; exact he
    rw [List.getElem?_drop] at h5
    exact h5
   -- what matches is the leader's
   have hmatch : ∀ q, q ≤ l.length → (∀ (p : Nat) (e : Ent), p < q → l[p]? = some e → (x.g.at ((b : Int) + 1 + p)).map (·.1) = some e.1) → b + q ≤ F.length ∧ F.take (b + q) = (Γ.lg x.g.term).take (b + q) := fun q hq hall => by
    by_cases hq0 : q = 0
    ·subst hq0; exact ⟨hb2, hb3⟩
    ·have he := List.getElem?_eq_getElem (l := l) (i := q - 1) (by omega)
     have h5 := hall (q - 1) _ (by omega) he
     rw [show (b : Int) + 1 + ((q - 1 : Nat) : Int) = ((b + q : Nat) : Int) by omega, hag.at (by omega)] at h5
     cases h6 : F[b + q - 1]? with
     | none => rw [h6] at h5; cases h5
     | some f =>
      rw [h6] at h5
      have h5 : f.1 = l[q - 1].1 := by simpa using h5
      have h7 := (List.getElem?_eq_some_iff.1 h6).1
      refine ⟨by omega, QhD hx.lo.pl hlgpl (by omega) (by omega) ?_⟩
      obtain ⟨f', hf', e1⟩ := zJ (F := F) (k := b + q) (by omega) (by omega)
      obtain ⟨f'', hf'', e2⟩ := zJ (F := Γ.lg x.g.term) (k := b + q) (by omega) (by omega)
      rw [h6] at hf'
      have := Option.some.inj hf'
      have h8 := hlq (q - 1) _ he
      rw [show b + (q - 1) = b + q - 1 by omega, hf''] at h8
      have h9 := Option.some.inj h8
      rw [e1, e2, ← this, h5, h9]
   unfold ND.restP
   dsimp only
   cases hfi : ND.fits x.g l ((b : Int) + 1) with
   | none =>
    obtain ⟨q1, q2⟩ := hmatch l.length (Nat.le_refl _) (fun p e _ he => Qa2 hfi p e he)
    dsimp only
    have hcmx : NodeI n Γ i (x.commits m ((b : Int) + l.length)) F := by
     refine ⟨hx.lo, hx.tf, ?_, fun h => ?_, fun h => ?_⟩
     ·show Γ.cmt n (F.take (max x.commit (min m.commit ((b : Int) + l.length))).toNat) x.g.term
      rcases Int.le_total (min m.commit ((b : Int) + l.length)) x.commit with h5 | h5
      ·rw [Int.max_eq_left h5]; exact hx.cm
      ·rw [Int.max_eq_right h5]
       refine yy hi7 ?_ (Int.le_refl _)
       have h6 : (min m.commit ((b : Int) + l.length)).toNat ≤ b + l.length := by omega
       have h7 := congrArg (List.take (min m.commit ((b : Int) + l.length)).toNat) q2
       rw [List.take_take, List.take_take, Nat.min_eq_left h6] at h7
       rw [h7]
       exact List.take_prefix_take_left (by omega)
     ·have : x.role = 2 := h
      omega
     ·have : x.role = 1 := h
      omega
    refine YD hG hx rfl ?_
    have := jB (m := m) (a := b + l.length) hG hcmx hr hid ho ⟨y, hy⟩ ⟨q1, q2⟩
    rw [show ((b + l.length : Nat) : Int) = (b : Int) + l.length by omega] at this
    exact this
   | some p =>
    obtain ⟨j, l2⟩ := p
    obtain ⟨d, hd1, hd2, hd3, hd4, hd5⟩ := Qa1 hfi
    dsimp only
    by_cases h5 : j ≤ x.commit
    ·rw [if_pos h5]
     exact YD hG hx rfl (Zo hG hx ho)
    ·rw [if_neg h5]
     obtain ⟨q1, q2⟩ := hmatch d (by omega) hd4
     have hjd : j - 1 = ((b + d : Nat) : Int) := by omega
     -- the new log is the leader's
     have hF' : F.take (b + d) ++ l2 = (Γ.lg x.g.term).take (b + l.length) := by
      obtain ⟨r, hr⟩ := hb4
      have h6 : l2 = ((Γ.lg x.g.term).drop (b + d)).take (l.length - d) := by
       rw [hd2, ← List.drop_drop, ← hr, List.drop_append_of_le_length (by omega), List.take_append_of_le_length (by simp)]
       rw [List.take_of_length_le (by simp)]
      rw [q2, h6, ← List.take_add]
      congr 1; omega
     have hdif : ¬ F.take (b + d + 1) = (Γ.lg x.g.term).take (b + d + 1) := fun e => by
      have he := List.getElem?_eq_getElem (l := l) (i := d) hd3
      have h7 := hd5 _ he
      apply h7
      have h8 := hlq d _ he
      have h9 := congrArg (fun l => l[b + d]?) e
      simp only [List.getElem?_take] at h9
      rw [if_pos (by omega), if_pos (by omega), h8] at h9
      rw [show j = ((b + d + 1 : Nat) : Int) by omega, hag.at (by omega), show b + d + 1 - 1 = b + d by omega, h9]
      rfl
     have hag2 : AG (x.g.play (.add (j - 1) l2)) ((Γ.lg x.g.term).take (b + l.length)) := by
      rw [← hF']
      refine ⟨hb0, by show x.g.base.toNat ≤ _; simp; omega, ?_, ?_⟩
      ·show x.g.all.take (j - 1 - x.g.base).toNat ++ l2 = (F.take (b + d) ++ l2).drop x.g.base.toNat
       rw [List.drop_append_of_le_length (by simp; omega), hag.all, List.drop_take, show (j - 1 - x.g.base).toNat = b + d - x.g.base.toNat by omega]
      ·show x.g.baseT = tmZ (F.take (b + d) ++ l2) x.g.base.toNat
       rw [hag.bt]
       refine zc (k := x.g.base.toNat) ?_ (Nat.le_refl _)
       rw [List.take_append_of_le_length (by simp; omega), List.take_take, Nat.min_eq_left (by omega)]
     have hlo2 := QlY hG hx.lo hy q1 (show b + d < b + l.length by omega) hll q2 hdif (by omega) hag2 rfl rfl rfl rfl hx.tf
     have hNx : NodeI n Γ i (ND.commits { x with g := x.g.play (.add (j - 1) l2) } m ((b : Int) + l.length)) ((Γ.lg x.g.term).take (b + l.length)) := by
      refine ⟨hlo2, hx.tf, ?_, fun h => ?_, fun h => ?_⟩
      ·show Γ.cmt n (((Γ.lg x.g.term).take (b + l.length)).take (max x.commit (min m.commit ((b : Int) + l.length))).toNat) x.g.term
       rcases Int.le_total (min m.commit ((b : Int) + l.length)) x.commit with h6 | h6
       ·rw [Int.max_eq_left h6, ← hF', List.take_append_of_le_length (by simp; omega), List.take_take, Nat.min_eq_left (by omega)]
        exact hx.cm
       ·rw [Int.max_eq_right h6]
        refine yy hi7 ?_ (Int.le_refl _)
        rw [List.take_take, Nat.min_eq_left (by omega)]
        exact List.take_prefix_take_left (by omega)
      ·have : x.role = 2 := h
       omega
      ·have : x.role = 1 := h
       omega
     refine ⟨Γ, XW n i Γ, hG, ⟨F, hx.lo⟩, ⟨_, hlo2⟩, ?_⟩
     have hpre : Γ.pre ((Γ.lg x.g.term).take (b + l.length)) x.g.term (b + l.length) := ⟨by simp; omega, by rw [List.take_take, Nat.min_self]⟩
     have := jB (m := m) (a := b + l.length) hG hNx hr hid ho ⟨y, hy⟩ hpre
     rw [show ((b + l.length : Nat) : Int) = (b : Int) + l.length by omega] at this
     exact this
theorem Qkp {n i : Nat} {Γ : GH} {x : ND} {F : List Ent} {T I : Int} {m : Msg} (hG : GHI n Γ) (hx : NodeI n Γ i x F) (ub : UB T I x) (hid : x.id = i) (ho : x.out = []) (hr : x.role = 0) (hm : MsgI n Γ m) (hk : m.kind = 4) (ht : m.term = x.g.term) : Act2 n Γ i x (x.snapP m) := by
 obtain ⟨⟨y, hy⟩, k, hi1, hi2, hi3, hi4, hi5⟩ := hm.snap hk
 rw [ht] at hy hi2 hi3 hi4 hi5
 have hag := hx.lo.ag
 have hb0 := hag.b0
 have hbl := hag.b
 have hla := hag.last
 have hcom := ub.inn.commit
 have hlgpl := hG.lgp _ _ hy
 unfold ND.snapP
 by_cases h1 : m.index > x.commit
 ·rw [if_pos h1]
  have hnr : ∀ z : ND, z.role = x.role → (z.role = 2 → False) ∧ (z.role = 1 → False) := fun z hz => ⟨fun h => by omega, fun h => by omega⟩
  obtain ⟨F', hlo2, hF'⟩ : ∃ F', LogI n Γ i (x.g.inst m.index m.logTerm m.state) F' ∧ F'.take k = (Γ.lg x.g.term).take k ∧ k ≤ F'.length := by
   unfold LG.inst
   by_cases h2 : x.g.termAt m.index = some m.logTerm
   ·rw [if_pos h2]
    obtain ⟨k', hk1, hk2, hk3, hk4⟩ := hag.termAt_some h2
    have : k' = k := by omega
    subst this
    have hFk : F.take k' = (Γ.lg x.g.term).take k' := QhD hx.lo.pl hlgpl hk3 hi2 (by rw [← hk4, hi3])
    refine ⟨F, ⟨⟨by show 0 ≤ m.index; omega, by show m.index.toNat ≤ _; omega, ?_, ?_⟩, hx.lo.pl, hx.lo.tm, hx.lo.nn, hx.lo.vv, hx.lo.tf, ?_, fun _ => ?_⟩, hFk, hk3⟩
    ·show x.g.all.drop (m.index - x.g.base).toNat = F.drop m.index.toNat
     rw [hag.all, List.drop_drop]; congr 1; omega
    ·show (x.g.termAt m.index).getD 0 = tmZ F m.index.toNat
     rw [h2, show m.index.toNat = k' by omega, ← hk4]; rfl
    ·show Γ.cmt n (F.take m.index.toNat) x.g.term
     rw [show m.index.toNat = k' by omega, hFk]; exact hi4
    ·show unS m.state = YI (F.take m.index.toNat)
     rw [show m.index.toNat = k' by omega, hFk]; exact hi5
   ·rw [if_neg h2]
    have hlen : ((Γ.lg x.g.term).take k).length = k := by simp; omega
    have htt : ((Γ.lg x.g.term).take k).take k = (Γ.lg x.g.term).take k := by rw [List.take_take, Nat.min_self]
    refine ⟨(Γ.lg x.g.term).take k, ⟨⟨by show 0 ≤ m.index; omega, by show m.index.toNat ≤ _; omega, ?_, ?_⟩, Qgx hlgpl k, fun e hm => QhL hG hy e (List.mem_of_mem_take hm), fun c q ho2 ha => ?_, hx.lo.vv, hx.lo.tf, ?_, fun _ => ?_⟩, htt, by omega⟩
    ·show ([] : List Ent) = ((Γ.lg x.g.term).take k).drop m.index.toNat
     rw [List.drop_eq_nil_of_le (by omega)]
    ·show m.logTerm = tmZ ((Γ.lg x.g.term).take k) m.index.toNat
     rw [show m.index.toNat = k by omega, hi3]
     exact (zc (k := k) htt (Nat.le_refl _)).symm
    ·rcases hx.lo.nn c q ho2 ha with h3 | h3
     ·have hlead : (Γ.lg x.g.term).take q = (Γ.lg c).take q ∧ q ≤ (Γ.lg x.g.term).length ∨ Γ.dead n c q := by
       obtain ⟨b, hb1, hb2⟩ := ha
       have hct := (hG.akl i c b hb2).2.1
       have htf := hx.tf
       rcases Int.lt_or_eq_of_le (show c ≤ x.g.term by omega) with h4 | h4
       ·rcases hG.lc _ y hy c q h4 ho2 with h5 | h5
        ·obtain ⟨_, ⟨r, hr⟩, _⟩ := hG.elc _ y hy
         left
         have := h5.1
         exact ⟨by rw [← hr, List.take_append_of_le_length h5.1]; exact h5.2, by rw [← hr]; simp; omega⟩
        ·exact .inr h5
       ·subst h4
        exact .inl ⟨rfl, Zp ho2⟩
      rcases hlead with ⟨h4, h5⟩ | h4
      ·left
       have hqk : q ≤ k := by
        rcases Nat.lt_or_ge k q with h6 | h6
        ·exfalso
         apply h2
         have h7 := h3.2.trans h4.symm
         have h8 := congrArg (List.take k) h7
         rw [List.take_take, List.take_take, Nat.min_eq_left (by omega)] at h8
         have h9 := h3.1
         have h10 : x.g.termAt (k : Int) = some (tmZ F k) := hag.termAt (by omega)
         rw [hi1, h10, hi3]
         exact congrArg some (zc (k := k) h8 (Nat.le_refl _))
        ·exact h6
       refine ⟨by omega, ?_⟩
       rw [List.take_take, Nat.min_eq_left hqk]
       exact h4
      ·exact .inr h4
     ·exact .inr h3
    ·show Γ.cmt n (((Γ.lg x.g.term).take k).take m.index.toNat) x.g.term
     rw [show m.index.toNat = k by omega, htt]; exact hi4
    ·show unS m.state = YI (((Γ.lg x.g.term).take k).take m.index.toNat)
     rw [show m.index.toNat = k by omega, htt]; exact hi5
  have hterm : (x.g.inst m.index m.logTerm m.state).term = x.g.term := by unfold LG.inst; split <;> rfl
  have hNx : NodeI n Γ i { x with g := x.g.inst m.index m.logTerm m.state, commit := m.index } F' := by
   refine ⟨hlo2, by show Γ.tf i = (x.g.inst _ _ _).term; rw [hterm]; exact hx.tf, ?_, fun h => ?_, fun h => ?_⟩
   ·show Γ.cmt n (F'.take m.index.toNat) (x.g.inst _ _ _).term
    rw [hterm, show m.index.toNat = k by omega, hF'.1]; exact hi4
   ·have : x.role = 2 := h
    omega
   ·have : x.role = 1 := h
    omega
  refine ⟨Γ, XW n i Γ, hG, ⟨F, hx.lo⟩, ⟨F', hlo2⟩, ?_⟩
  have := jB (m := m) (a := k) hG hNx hr hid ho ⟨y, by show Γ.el (x.g.inst _ _ _).term y; rw [hterm]; exact hy⟩ ⟨hF'.2, by show _ = (Γ.lg (x.g.inst _ _ _).term).take k; rw [hterm]; exact hF'.1⟩
  rw [← hi1] at this
  exact this
 ·rw [if_neg h1]
  refine YD hG hx rfl ?_
  have h2 := Qff hG hy (Int.le_refl _) hx.cm
  have h3 := List.prefix_iff_eq_take.1 h2
  simp only [List.length_take, Nat.min_eq_left (show x.commit.toNat ≤ F.length by omega)] at h3
  have := jB (m := m) (a := x.commit.toNat) hG hx hr hid ho ⟨y, hy⟩ ⟨by omega, h3⟩
  rw [show ((x.commit.toNat : Nat) : Int) = x.commit by omega] at this
  exact this
theorem Qni {n i : Nat} {Γ : GH} {x : ND} {F : List Ent} {T I : Int} {m : Msg} (hG : GHI n Γ) (hx : NodeI n Γ i x F) (ub : UB T I x) (hid : x.id = i) (ho : x.out = []) (hm : MsgI n Γ m) (hk : m.kind = 2 ∨ m.kind = 4) (ht : m.term ≤ x.g.term) : Act2 n Γ i x (x.fedP m) := by
 unfold ND.fedP
 by_cases h1 : m.term < x.g.term
 ·rw [if_pos h1]
  exact YD hG hx rfl (QiA hG hx ho)
 ·rw [if_neg h1]
  by_cases h2 : x.role = 2
  ·rw [if_pos h2]
   exact YD hG hx rfl (Zo hG hx ho)
  ·rw [if_neg h2]
   have hf : NodeI n Γ i (x.follows m) F := hx.follow rfl rfl rfl
   split
   ·rename_i h3
    exact Qmf (x := x.follows m) hG hf ub.follows hid ho rfl hm h3 (show m.term = x.g.term by omega)
   ·rename_i h3
    exact Qkp (x := x.follows m) hG hf ub.follows hid ho rfl hm (by omega) (show m.term = x.g.term by omega)
theorem Qkg {n i : Nat} {Γ : GH} {x : ND} {F : List Ent} {T I : Int} {m : Msg} (hG : GHI n Γ) (hx : NodeI n Γ i x F) (ub : UB T I x) (hid : x.id = i) (hn : x.n = n) (ho : x.out = []) (hm : MsgI n Γ m) (hb : MB T I m) (hk : m.kind = 3) (hf : 0 ≤ m.frm ∧ m.frm < x.n) (hne : ¬ m.frm = i) : Act2 n Γ i x (x.heardP m) := by
 unfold ND.heardP Yb
 dsimp only
 by_cases h1 : ¬ x.role = 2 ∨ ¬ m.term = x.g.term
 ·rw [if_pos h1]
  exact YD hG hx rfl (Zo hG hx ho)
 ·rw [if_neg h1]
  have hr : x.role = 2 := by omega
  have ht : m.term = x.g.term := by omega
  obtain ⟨a1, a2, a3, a4⟩ := hx.ld hr
  have hla := hx.lo.ag.last
  have hpl := ub.inn.peers hr
  have hjn : m.frm.toNat < n ∧ m.frm.toNat ≠ i := by omega
  have hpb := ub.inn.peerb hr m.frm.toNat
  have hset : ∀ (p : Int × Int) (q : Nat), q < n → (x.setPeer m.frm.toNat p).nxt q = (if q = m.frm.toNat then p.1 else x.nxt q) ∧ (x.setPeer m.frm.toNat p).mat q = (if q = m.frm.toNat then p.2 else x.mat q) := fun p q hq => by
   unfold ND.setPeer ND.nxt ND.mat
   dsimp only
   by_cases hqj : q = m.frm.toNat
   ·rw [if_pos hqj, if_pos hqj, hqj]
    rw [List.getD_eq_getElem?_getD, List.getElem?_set_self (by omega)]
    exact ⟨rfl, rfl⟩
   ·rw [if_neg hqj, if_neg hqj, List.getD_eq_getElem?_getD, List.getElem?_set_ne (fun e => hqj e.symm), ← List.getD_eq_getElem?_getD]
    exact ⟨rfl, rfl⟩
  have hNs : ∀ p : Int × Int, p.1 ≤ F.length + 1 → (p.2 = 0 ∨ Γ.ak m.frm.toNat x.g.term p.2.toNat) → NodeI n Γ i (x.setPeer m.frm.toNat p) F := fun p hp1 hp2 => by
   refine ⟨hx.lo, hx.tf, hx.cm, fun _ => ⟨a1, a2, a3, fun q hq hqi => ?_⟩, fun h => ?_⟩
   ·obtain ⟨s1, s2⟩ := hset p q hq
    rw [s1, s2]
    split
    ·rename_i hqj
     rw [hqj]; exact ⟨hp1, hp2⟩
    ·exact a4 q hq hqi
   ·have : x.role = 1 := h
    omega
  by_cases h2 : m.ok = false
  ·rw [if_pos h2]
   have hN := hNs (max (min (x.nxt m.frm.toNat - 1) (m.index + 1)) (x.mat m.frm.toNat + 1), x.mat m.frm.toNat) (by have := (a4 _ hjn.1 hjn.2).1; dsimp only; omega) (a4 _ hjn.1 hjn.2).2
   have hu := ub.setPeer m.frm.toNat (p := (max (min (x.nxt m.frm.toNat - 1) (m.index + 1)) (x.mat m.frm.toNat + 1), x.mat m.frm.toNat)) (by have hix := hb.index; have hi0 := ub.inn.commit; have hl0 := ub.lb.last; have hb0 := ub.lb.base; dsimp only; omega)
   exact YD hG hx rfl (yn (XW n i Γ) hG hN ho (Qdh hN hu hn hr hjn.1 hjn.2))
  ·rw [if_neg h2]
   have hok : m.ok = true := by
    cases hb : m.ok with
    | true => rfl
    | false => exact absurd hb h2
   obtain ⟨v, q, hv1, hv2, hv3⟩ := hm.ack hk hok
   rw [ht] at hv3
   have hvj : v = m.frm.toNat := by omega
   have hq : (q : Int) ≤ x.g.last := by
    rcases hv3 with h3 | h3
    ·have := ub.lb.base
     have := ub.inn.commit
     omega
    ·have := (hG.akl _ _ _ h3).1
     rw [a2] at this
     omega
   have hN := hNs (max (x.mat m.frm.toNat) (min m.index x.g.last) + 1, max (x.mat m.frm.toNat) (min m.index x.g.last)) (by dsimp only; omega) (by
    dsimp only
    rw [Int.min_eq_left (by omega)]
    rcases Int.le_total m.index (x.mat m.frm.toNat) with h3 | h3
    ·rw [Int.max_eq_left h3]; exact (a4 _ hjn.1 hjn.2).2
    ·rw [Int.max_eq_right h3, hv2]
     rcases hv3 with h4 | h4
     ·left; rw [h4]; rfl
     ·right; rw [← hvj]; exact h4)
   have hu := ub.setPeer m.frm.toNat (p := (max (x.mat m.frm.toNat) (min m.index x.g.last) + 1, max (x.mat m.frm.toNat) (min m.index x.g.last))) (by have hix := hb.index; have hi0 := ub.inn.commit; have hl0 := ub.lb.last; have hb0 := ub.lb.base; dsimp only; omega)
   have hNc := hN.count hu hid hn hr
   have huc := hu.count hr
   have hcr := YO (x.setPeer m.frm.toNat (max (x.mat m.frm.toNat) (min m.index x.g.last) + 1, max (x.mat m.frm.toNat) (min m.index x.g.last)))
   split
   ·exact YD hG hx (by show (ND.count _).g = _; rw [ZI]; rfl) (yn (XW n i Γ) hG hNc (by rw [hcr.1]; exact ho) (Qdh hNc huc (by rw [hcr.2.2.2.2.1]; exact hn) (by rw [hcr.2.2.1]; exact hr) hjn.1 hjn.2))
   ·exact YD hG hx (by rw [ZI]; rfl) (Zo hG hNc (by rw [hcr.1]; exact ho))
theorem QgI {n i : Nat} {Γ : GH} {x : ND} {F : List Ent} {T I : Int} {m : Msg} (hG : GHI n Γ) (hx : NodeI n Γ i x F) (ub : UB T I x) (hid : x.id = i) (hn : x.n = n) (ho : x.out = []) (hm : MsgI n Γ m) (hb : MB T I m) (hto : m.to = i) (hf : 0 ≤ m.frm ∧ m.frm < x.n) (hne : ¬ m.frm = i) (ht : m.term ≤ x.g.term) : Act2 n Γ i x (x.kindP m) := by
 unfold ND.kindP
 split
 ·rename_i hk; exact QkG hG hx hid ho hm hk hne
 ·split
  ·rename_i hk; exact Qjz hG hx ub hid hn ho hm hk hto hf
  ·split
   ·rename_i hk; exact Qni hG hx ub hid ho hm hk ht
   ·split
    ·rename_i hk; exact Qkg hG hx ub hid hn ho hm hb hk hf hne
    ·exact YD hG hx rfl (Zo hG hx ho)
theorem NodeI.term {n i : Nat} {Γ : GH} {x : ND} {F : List Ent} (hG : GHI n Γ) (hx : NodeI n Γ i x F) {t : Int} (ht : x.g.term < t) : LogI n Γ i { x.g with term := t, vote := -1 } F ∧ Γ.stp n i (Γ.tfU i t) ∧ GHI n (Γ.tfU i t) ∧ NodeI n (Γ.tfU i t) i (ND.newTerm { x with g := { x.g with term := t, vote := -1 } }) F := by
 have htf := hx.tf
 have hlo : LogI n Γ i { x.g with term := t, vote := -1 } F := ⟨⟨hx.lo.ag.b0, hx.lo.ag.b, hx.lo.ag.all, hx.lo.ag.bt⟩, hx.lo.pl, fun e he => by have := hx.lo.tm e he; show e.1 ≤ t; omega, hx.lo.nn, fun u y hv => by left; rcases hx.lo.vv u y hv with h | h <;> (show u < t; omega), by show Γ.tf i ≤ t; omega, yy hx.lo.cb (List.prefix_refl _) (by show x.g.term ≤ t; omega), hx.lo.st⟩
 have hs := QcW (n := n) (i := i) (Γ := Γ) (t := t) (by omega)
 have hd := Qig hG (show Γ.tf i ≤ t by omega)
 exact ⟨hlo, hs, hd, QaX hG hs.le hlo (fun _ _ h => h) (fun _ _ h => h) (by rw [Qci]; exact Int.le_refl _), Qci, yy (Zj hs.le hx.cm) (List.prefix_refl _) (by show x.g.term ≤ t; omega), fun h => absurd (show (0 : Int) = 2 from h) (by decide), fun h => absurd (show (0 : Int) = 1 from h) (by decide)⟩
end V
end Go.Proofs.YtenfjpigffjgmaaGreat
