/- Parts: V21 T9k. -/
import Derived.Test.YtenfjpigffjgmaaGreatWL11Outcomes1
import Derived.MapKept
import Derived.Laws.IdiomRangeMap
import Derived.Laws.MakeOwn
set_option linter.unusedSimpArgs false
set_option linter.unusedVariables false
namespace Go.Proofs.YtenfjpigffjgmaaGreat
open Go.RowKit
open Go.Proofs.Tryz
namespace V
section
variable {c : Cx} {ops : Array Oper} {Q : Exit → Act → World → Prop} {R : Hp} {L : List Asn}
def Qnr (ops : Array Oper) (fl ft : List Nat) (b : Nat) : Bool := fl.all fun i => ft.contains i || YQ ops ops.size b i
def SB (c : Cx) (ops : Array Oper) (Q : Exit → Act → World → Prop) (fl ft : List Nat) (b : Nat) : List Nat → Env → Hp → List Asn → List Asn → Prop
 | [], E, R, L, G => EJ c (Q .normal) E R (L ++ G)
 | i :: is, E, R, L, G => (i ∈ fl ∧ ∃ v E', Qeg c ops R L i E v E' ∧ (i ∈ ft → Qeg c ops R [] i E v E') ∧ SB c ops Q fl ft b is E' R L G) ∨
   (i ∉ fl ∧ ∃ o, ops[i]? = some o ∧ ∀ a w, Fr c.n E a → Sat c.σ R (L ++ G) w →
    if Region.wanted o (yielded ops a.tmps) then o.wp c.P a w (fun a' w' => ∃ u E' R' L' G', (L' = L ∨ (i = b ∧ L' = [])) ∧ R.le R' ∧ a' = a.put o.dst u ∧ Fr c.n E' a' ∧ Sat c.σ R' (L' ++ G') w' ∧ SB c ops Q fl ft b is E' R' L' G') (fun _ _ _ => False)
    else ∃ E' R' L' G', (L' = L ∨ (i = b ∧ L' = [])) ∧ R.le R' ∧ Fr c.n E' (a.put o.dst undef) ∧ Sat c.σ R' (L' ++ G') w ∧ SB c ops Q fl ft b is E' R' L' G')
structure SegC (c : Cx) (ops : Array Oper) (Q : Exit → Act → World → Prop) (L : List Asn) (fl ft : List Nat) (b : Nat) (listed : Array Bool) (a : Act) (w : World) (pend : List (Nat × Value)) (l : List Nat) (r : Option Nat) (E : Env) (R : Hp) (G : List Asn) : Prop where
 pf : ∀ x ∈ pend, x.1 ∈ fl ∧ x.1 < ops.size ∧ qF ops x.1 = true ∧ XP ops x.1 x.1 = false
 pp : ∀ x ∈ pend, ∀ y ∈ pend, x.1 ≠ y.1 → (XP ops x.1 y.1 = false ∨ YQ ops ops.size x.1 y.1 = true) ∧ Ze ops x.1 y.1 = false
 pl : ∀ x ∈ pend, ∀ j ∈ l, Qk3 ops x.1 j
 nd : (pend.map (·.1) ++ l).Nodup
 lb : ∀ j ∈ l, j < ops.size ∧ qF ops j = true ∧ (j ∈ fl → XP ops j j = false)
 sp : QbO ops fl r l = true
 sj : SB c ops Q fl ft b l E R L G
 fr : Fr c.n E (XH ops a pend)
 sat : Sat c.σ R (L ++ G) w
 qk : ∀ x ∈ pend, QK c ops R L x (XH ops a pend)
 q0 : ∀ x ∈ pend, x.1 ∈ ft → QK c ops R [] x (XH ops a pend)
 bk : ∀ x ∈ fl, x ∈ ft ∨ YQ ops ops.size b x = true
 un : ∀ j, j < ops.size → (listed.getD j false = false ↔ j ∈ pend.map (·.1) ∨ j ∈ l)
theorem SegC.float {fl ft : List Nat} {b : Nat} {listed : Array Bool} {a : Act} {w : World} {pend : List (Nat × Value)} {i : Nat} {l : List Nat} {r : Option Nat} {E : Env} {R : Hp} {G : List Asn} (h : SegC c ops Q L fl ft b listed a w pend (i :: l) r E R G) (hi : i ∈ fl) :
  ∃ v E', SegC c ops Q L fl ft b listed a w ((i, v) :: pend) l r E' R G := by
 obtain ⟨h1, h2, h3⟩ := QaJ h.sp
 rw [if_pos hi] at h3
 rcases h.sj with ⟨_, v, E', hsp, hsp0, hsj⟩ | ⟨hn, _⟩
 ·obtain ⟨hlt, hns, hself⟩ := h.lb i (by simp)
  obtain ⟨q0, hf'⟩ := QK.spec hns hsp h.fr
  have hnd := h.nd
  have hne : ∀ x ∈ pend, x.1 ≠ i := fun x hx he => by
   rw [List.nodup_append] at hnd
   exact hnd.2.2 x.1 (List.mem_map.2 ⟨x, hx, rfl⟩) i (by simp) he
  have hvirt : XH ops a ((i, v) :: pend) = (XH ops a pend).put (XC ops i) v := rfl
  refine ⟨v, E', ?_, ?_, ?_, ?_, fun j hj => h.lb j (by simp [hj]), h3, hsj, hf', h.sat, ?_, ?_, h.bk, fun j hj => ?_⟩
  ·intro x hx
   rcases List.mem_cons.1 hx with rfl | hx
   ·exact ⟨hi, hlt, hns, hself hi⟩
   ·exact h.pf x hx
  ·intro x hx y hy hxy
   rcases List.mem_cons.1 hx with rfl | hx
   ·rcases List.mem_cons.1 hy with rfl | hy
    ·exact absurd rfl hxy
    ·have := h.pl y hy i (by simp)
     exact ⟨this.2.2.2, this.2.2.1⟩
   ·rcases List.mem_cons.1 hy with rfl | hy
    ·have := h.pl x hx i (by simp)
     exact ⟨.inl this.1, this.2.1⟩
    ·exact h.pp x hx y hy hxy
  ·intro x hx j hj
   rcases List.mem_cons.1 hx with rfl | hx
   ·exact h2 j hj (.inl hi)
   ·exact h.pl x hx j (by simp [hj])
  ·rw [List.map_cons, List.cons_append]
   rw [List.nodup_append] at hnd
   obtain ⟨n1, n2, n3⟩ := hnd
   obtain ⟨n4, n5⟩ := List.nodup_cons.1 n2
   refine List.nodup_cons.2 ⟨fun hm => ?_, List.nodup_append.2 ⟨n1, n5, fun u hu v hv => n3 u hu v (by simp [hv])⟩⟩
   rcases List.mem_append.1 hm with hm | hm
   ·obtain ⟨x, hx, he⟩ := List.mem_map.1 hm; exact hne x hx he
   ·exact n4 hm
  ·intro x hx
   rw [hvirt]
   rcases List.mem_cons.1 hx with rfl | hx
   ·exact QK.put (hself hi) q0
   ·exact QK.put (h.pl x hx i (by simp)).1 (h.qk x hx)
  ·intro x hx hft
   rw [hvirt]
   rcases List.mem_cons.1 hx with rfl | hx
   ·exact QK.put (hself hi) (QK.spec hns (hsp0 hft) h.fr).1
   ·exact QK.put (h.pl x hx i (by simp)).1 (h.q0 x hx hft)
  ·rw [h.un j hj]
   simp only [List.map_cons, List.mem_cons]
   constructor
   ·rintro (h | h | h) <;> simp [h]
   ·rintro ((h | h) | h) <;> simp [h]
 ·exact absurd hi hn
theorem SegC.sated {fl ft : List Nat} {b : Nat} {listed : Array Bool} {a : Act} {w : World} {R : Hp} {G : List Asn} : ∀ {l : List Nat} {pend : List (Nat × Value)} {r : Option Nat} {E : Env}, SegC c ops Q L fl ft b listed a w pend l r E R G →
  ∃ pend' l' r' E', SegC c ops Q L fl ft b listed a w pend' l' r' E' R G ∧ (l' = [] ∨ ∃ k t, l' = k :: t ∧ k ∉ fl) ∧ pend'.length + l'.length = pend.length + l.length
 | [], pend, r, E, h => ⟨pend, [], r, E, h, .inl rfl, rfl⟩
 | i :: l, pend, r, E, h => by
  by_cases hi : i ∈ fl
  ·obtain ⟨v, E', h'⟩ := h.float hi
   obtain ⟨p2, l2, r2, E2, h2, h3, h4⟩ := SegC.sated h'
   exact ⟨p2, l2, r2, E2, h2, h3, by rw [h4]; simp; omega⟩
  ·exact ⟨pend, i :: l, r, E, h, .inr ⟨i, l, rfl, hi⟩, rfl⟩
theorem QjK {fl ft : List Nat} {b : Nat} (hlow : QbX ops = true) : ∀ (fuel : Nat) (listed : Array Bool) (a : Act) (w : World) (pend : List (Nat × Value)) (l : List Nat) (r : Option Nat) (E : Env) (R : Hp) (L G : List Asn),
  listed.size = ops.size → Closed1 ops listed → SegC c ops Q L fl ft b listed a w pend l r E R G → (l = [] ∨ ∃ k t, l = k :: t ∧ k ∉ fl) → pend.length + l.length ≤ fuel → wpAny c.P .any ops Q fuel listed a w := by
 intro fuel
 induction fuel with
 | zero =>
  intro listed a w pend l r E R L G hs hc h _ hf
  have e1 := List.eq_nil_of_length_eq_zero (l := pend) (by omega)
  have e2 := List.eq_nil_of_length_eq_zero (l := l) (by omega)
  subst e1 e2
  have hr : Region.ready .any ops listed = [] := by
   cases hr : Region.ready .any ops listed with
   | nil => rfl
   | cons j t =>
    have hj : j ∈ Region.ready .any ops listed := by rw [hr]; simp
    obtain ⟨h0, o, ho, _⟩ := mem_ready.1 hj
    have hlt := (Array.getElem?_eq_some_iff.1 ho).1
    have hu : listed.getD j false = false := by
     rw [Array.getD_eq_getD_getElem?] at h0 ⊢
     rw [Array.getElem?_eq_getElem (by omega)] at h0 ⊢
     simpa using h0
    have := (h.un j hlt).1 hu
    simp at this
  exact wpAny_done hr (h.sj _ _ h.fr h.sat) 0
 | succ fuel ih =>
  intro listed a w pend l r E R L G hs hc h hsat hf
  by_cases hall : pend = [] ∧ l = []
  ·obtain ⟨rfl, rfl⟩ := hall
   have hr : Region.ready .any ops listed = [] := by
    cases hr : Region.ready .any ops listed with
    | nil => rfl
    | cons j t =>
     have hj : j ∈ Region.ready .any ops listed := by rw [hr]; simp
     obtain ⟨h0, o, ho, _⟩ := mem_ready.1 hj
     have hlt := (Array.getElem?_eq_some_iff.1 ho).1
     have hu : listed.getD j false = false := by
      rw [Array.getD_eq_getD_getElem?] at h0 ⊢
      rw [Array.getElem?_eq_getElem (by omega)] at h0 ⊢
      simpa using h0
     have := (h.un j hlt).1 hu
     simp at this
   exact wpAny_done hr (h.sj _ _ h.fr h.sat) (fuel + 1)
  have hpu : ∀ y ∈ pend, listed.getD y.1 false = false := fun y hy => (h.un _ (h.pf y hy).2.1).2 (.inl (List.mem_map.2 ⟨y, hy, rfl⟩))
  have hlu : ∀ j ∈ l, listed.getD j false = false := fun j hj => (h.un _ (h.lb j hj).1).2 (.inr hj)
  refine ⟨fun hr => ?_, fun i hi => ?_⟩
  ·exfalso
   have : ∃ j, j < ops.size ∧ listed.getD j false = false := by
    cases hpe : pend with
    | cons y p => exact ⟨y.1, (h.pf y (by rw [hpe]; simp)).2.1, hpu y (by rw [hpe]; simp)⟩
    | nil => cases hle : l with
     | cons k p => exact ⟨k, (h.lb k (by rw [hle]; simp)).1, hlu k (by rw [hle]; simp)⟩
     | nil => exact absurd ⟨hpe, hle⟩ hall
   obtain ⟨j, hj, hu⟩ := this
   obtain ⟨k, hk⟩ := yj hlow hs j hj hu
   rw [hr] at hk; cases hk
  ·obtain ⟨h0, o, ho, hdeps⟩ := mem_ready.1 hi
   have hilt : i < ops.size := (Array.getElem?_eq_some_iff.1 ho).1
   have hu : listed.getD i false = false := by
    rw [Array.getD_eq_getD_getElem?] at h0 ⊢
    rw [Array.getElem?_eq_getElem (by omega)] at h0 ⊢
    simpa using h0
   have hanc : ∀ j, YQ ops ops.size i j = true → listed.getD j false = true := fun j hj => yZ hc _ i j hj fun o' ho' => by rw [ho] at ho'; cases ho'; exact hdeps
   have hs' : (listed.setIfInBounds i true).size = ops.size := by simpa using hs
   have hc' : Closed1 ops (listed.setIfInBounds i true) := hc.set hs hi
   have hgd : ∀ j, (listed.setIfInBounds i true).getD j false = if j = i then true else listed.getD j false := fun j => zt (by omega)
   have hod : o.dst = XC ops i := by simp [XC, ho]
   by_cases hip : i ∈ pend.map (·.1)
   ·obtain ⟨x, hx, rfl⟩ := List.mem_map.1 hip
    obtain ⟨p1, p2, rfl⟩ := List.append_of_mem hx
    have hnd := h.nd
    have hnot : ∀ y ∈ p1 ++ p2, y.1 ≠ x.1 := by
     intro y hy he
     have hpn := (List.nodup_append.1 hnd).1
     simp only [List.map_append, List.map_cons] at hpn
     have hn := List.nodup_append.1 hpn
     rcases List.mem_append.1 hy with h | h
     ·exact hn.2.2 y.1 (List.mem_map.2 ⟨y, h, rfl⟩) x.1 (by simp) he
     ·exact (List.nodup_cons.1 hn.2.1).1 (List.mem_map.2 ⟨y, h, he⟩)
    have hsub : ∀ y ∈ p1 ++ p2, y ∈ p1 ++ x :: p2 := fun y hy => by simp at hy ⊢; rcases hy with h | h <;> simp [h]
    have hlook : ∀ y ∈ p1 ++ x :: p2, XP ops x.1 y.1 = false := by
     intro y hy
     by_cases he : y.1 = x.1
     ·rw [he]; exact (h.pf x hx).2.2.2
     ·rcases (h.pp x hx y hy (Ne.symm he)).1 with h | h
      ·exact h
      ·have := hanc _ h; rw [hpu y hy] at this; cases this
    have hqa : QK c ops R L x a := QK.unvirt hlook (h.qk x hx)
    obtain ⟨o', ho', hsel, hqq⟩ := hqa
    rw [ho] at ho'; cases ho'
    have hvt := qO (ops := ops) (x := x) p1 p2 a fun y hy e he => qd (h.pf y (hsub y hy)).2.1 (h.pp y (hsub y hy) x hx (hnot y hy)).2 e he
    have next : ∀ w', Sat c.σ R (L ++ G) w' → wpAny c.P .any ops Q fuel (listed.setIfInBounds x.1 true) (a.put o.dst x.2) w' := by
     intro w' hw'
     rw [hod]
     refine ih _ _ _ (p1 ++ p2) l r E R L G hs' hc' ⟨fun y hy => h.pf y (hsub y hy), fun y hy z hz => h.pp y (hsub y hy) z (hsub z hz), fun y hy => h.pl y (hsub y hy), ?_, h.lb, h.sp, h.sj, by rw [← hvt]; exact h.fr, hw', fun y hy => by rw [← hvt]; exact h.qk y (hsub y hy), fun y hy hft => by rw [← hvt]; exact h.q0 y (hsub y hy) hft, h.bk, fun j hj => ?_⟩ hsat (by simp at hf ⊢; omega)
     ·have hp : (p1.map (·.1) ++ (p2.map (·.1) ++ l)).Nodup := by
       simp only [List.map_append, List.map_cons, List.append_assoc, List.cons_append] at hnd
       have hn := List.nodup_append.1 hnd
       exact List.nodup_append.2 ⟨hn.1, (List.nodup_cons.1 hn.2.1).2, fun u hu v hv => hn.2.2 u hu v (by simp at hv ⊢; exact .inr hv)⟩
      simpa [List.map_append, List.append_assoc] using hp
     ·rw [hgd]
      by_cases hji : j = x.1
      ·rw [if_pos hji]
       simp only [Bool.true_eq_false, false_iff, not_or]
       subst hji
       refine ⟨fun h => ?_, fun hm => ?_⟩
       ·obtain ⟨y, hy, he⟩ := List.mem_map.1 h; exact hnot y hy he
       ·exact (List.nodup_append.1 hnd).2.2 x.1 (List.mem_map.2 ⟨x, hx, rfl⟩) x.1 hm rfl
      ·rw [if_neg hji, h.un j hj]
       simp only [List.map_append, List.map_cons, List.mem_append, List.mem_cons]
       constructor
       ·rintro ((h | h | h) | h) <;> first | exact absurd h hji | simp [h]
       ·rintro ((h | h) | h) <;> simp [h]
    unfold wpOp
    rw [ho]
    simp only
    cases hwt : Region.wanted o (yielded ops a.tmps) with
    | true =>
     rw [if_pos rfl]
     refine .inl (Oper.wp_of_quiet (C := Sat c.σ R (L ++ G)) (K := fun a' => a' = a.put o.dst x.2) h.sat (fun a' w' hw' ha' => by subst ha'; exact next w' hw') ⟨x.2, fun w' hw' => ?_, rfl⟩)
     rcases hqq R (Hp.le_refl R) G w' hw' with h | h
     ·exact h.2
     ·rw [hwt] at h; cases h.1
    | false =>
     rw [if_neg (by decide)]
     rcases hqq R (Hp.le_refl R) G w h.sat with h1 | h1
     ·rw [hwt] at h1; cases h1.1
     ·have := next w h.sat; rw [h1.2] at this; exact this
   ·have hmem : i ∈ l := ((h.un i hilt).1 hu).resolve_left hip
    rcases hsat with rfl | ⟨k, t, rfl, hk⟩
    ·cases hmem
    obtain ⟨s1, s2, s3⟩ := QaJ h.sp
    rw [if_neg hk] at s3
    have hik : i = k := by
     rcases List.mem_cons.1 hmem with e | hm
     ·exact e
     ·exfalso
      obtain ⟨j, hj, ha⟩ := QbN s3 hm
      have := hanc j ha
      rw [hlu j (by rcases hj with rfl | hj <;> simp [*])] at this; cases this
    subst hik
    rcases h.sj with ⟨hn, _⟩ | ⟨_, o', ho', hstep⟩
    ·exact absurd hn hk
    rw [ho] at ho'; cases ho'
    have hlk : ∀ y ∈ pend, ∀ d, XC ops y.1 = some d → d ∉ o.looksAt ops := by
     intro y hy
     refine yL ho ?_
     rcases (h.pl y hy i (by simp)).2.2.2 with h | h
     ·exact h
     ·have := hanc _ h; rw [hpu y hy] at this; cases this
    have hsel := qs ho (h.lb i (by simp)).2.1
    have hst := hstep _ w h.fr h.sat
    rw [yB hlk] at hst
    have hvp : ∀ u, XH ops (a.put o.dst u) pend = (XH ops a pend).put o.dst u := fun u => zq pend a fun y hy e he => by
     rw [hod] at he
     exact qd (h.pf y hy).2.1 (h.pl y hy i (by simp)).2.1 e he
    have next : ∀ u w' E' R2 L2 G', (L2 = L ∨ (i = b ∧ L2 = [])) → R.le R2 → Fr c.n E' ((XH ops a pend).put o.dst u) → Sat c.σ R2 (L2 ++ G') w' → SB c ops Q fl ft b t E' R2 L2 G' →
      wpAny c.P .any ops Q fuel (listed.setIfInBounds i true) (a.put o.dst u) w' := by
     intro u w' E' R2 L2 G' hL2 hle hE' hw' hX'
     have hq2 : ∀ y ∈ pend, QK c ops R L2 y (XH ops a pend) := fun y hy => by
      rcases hL2 with rfl | ⟨hib, rfl⟩
      ·exact h.qk y hy
      ·rcases h.bk y.1 (h.pf y hy).1 with hft | ha
       ·exact h.q0 y hy hft
       ·have := hanc y.1 (by rw [hib]; exact ha)
        rw [hpu y hy] at this; cases this
     have hnd := h.nd
     have h2 : SegC c ops Q L2 fl ft b (listed.setIfInBounds i true) (a.put o.dst u) w' pend t (some i) E' R2 G' := by
      refine ⟨h.pf, h.pp, fun y hy j hj => h.pl y hy j (by simp [hj]), ?_, fun j hj => h.lb j (by simp [hj]), s3, hX', by rw [hvp]; exact hE', hw', fun y hy => ?_, fun y hy hft => ?_, h.bk, fun j hj => ?_⟩
      ·have hn := List.nodup_append.1 hnd
       exact List.nodup_append.2 ⟨hn.1, (List.nodup_cons.1 hn.2.1).2, fun u hu v hv => hn.2.2 u hu v (by simp [hv])⟩
      ·rw [hvp, hod]
       exact QK.put (h.pl y hy i (by simp)).1 ((hq2 y hy).mono hle)
      ·rw [hvp, hod]
       exact QK.put (h.pl y hy i (by simp)).1 ((h.q0 y hy hft).mono hle)
      ·rw [hgd]
       by_cases hji : j = i
       ·rw [if_pos hji]
        simp only [Bool.true_eq_false, false_iff, not_or]
        subst hji
        exact ⟨hip, fun hm => (List.nodup_cons.1 (List.nodup_append.1 hnd).2.1).1 hm⟩
       ·rw [if_neg hji, h.un j hj]
        simp only [List.mem_cons]
        constructor
        ·rintro (h | h | h) <;> first | exact absurd h hji | simp [h]
        ·rintro (h | h) <;> simp [h]
     obtain ⟨p3, l3, r3, E3, h3, h4, h5⟩ := h2.sated
     exact ih _ _ _ p3 l3 r3 E3 R2 L2 G' hs' hc' h3 h4 (by rw [h5]; simp at hf; omega)
    unfold wpOp
    rw [ho]
    simp only
    cases hwt : Region.wanted o (yielded ops a.tmps) with
    | true =>
     rw [hwt, if_pos rfl] at hst
     rw [if_pos rfl]
     refine .inl ?_
     unfold Oper.wp at hst ⊢
     rw [yH hsel hlk] at hst
     refine Qdt hst ?_ ?_
     ·rintro u w' ⟨u', E', R2, L2, G', hL2, hle, he, h1, h2, h3⟩
      exact next u w' E' R2 L2 G' hL2 hle h1 h2 h3
     ·rintro q w' ⟨u', E', R2, L2, G', hL2, hle, he, h1, h2, h3⟩
      have := h1.dfs
      cases hd2 : o.dst <;> simp [Act.put, hd2] at this
    | false =>
     rw [hwt, if_neg (by decide)] at hst
     rw [if_neg (by decide)]
     obtain ⟨E', R2, L2, G', hL2, hle, h1, h2, h3⟩ := hst
     exact next undef w E' R2 L2 G' hL2 hle h1 h2 h3
end
section
variable {c : Cx} {l : List Oper} {Q : Exit → Act → World → Prop} {E : Env} {R : Hp} {L : List Asn}
theorem Qnq {id : Nat} (fl ft : List Nat) (b : Nat) (is : List Nat) (G0 : List Asn) {L0 : List Asn} (hL : Sub L0 (L ++ G0)) (hm : c.P.follows .mixedOrders = true) (hB : QmT l.toArray fl is = true) (hbk : Qnr l.toArray fl ft b = true)
  (h : SB c l.toArray Q fl ft b is E R L G0) : CJ c (.region id l.toArray true) Q E R L0 := by
 have hB' := hB
 simp only [QmT, Bool.and_eq_true, List.all_eq_true, Bool.not_eq_true', decide_eq_true_eq] at hB'
 obtain ⟨⟨⟨⟨⟨hlow, hcover⟩, hnd⟩, hlt⟩, hself⟩, hP⟩ := hB'
 intro a w hf hs
 refine wp_region_any hm ?_
 have hrep : ∀ j, (Array.replicate l.toArray.size false).getD j false = false := fun j => by
  rw [Array.getD_eq_getD_getElem?, Array.getElem?_replicate]; split <;> rfl
 have hI : SegC c l.toArray Q L fl ft b (Array.replicate l.toArray.size false) a w.drew [] is none E R G0 := by
  refine ⟨fun x hx => (by cases hx), fun x hx => (by cases hx), fun x hx => (by cases hx), by simpa using hnd, fun j hj => ?_, hP, h, hf, (hs.sub hL).drew, fun x hx => (by cases hx), fun x hx => (by cases hx), fun x hx => ?_, fun j hj => ?_⟩
  ·have := hlt j hj
   exact ⟨Nat.lt_of_lt_of_le (Nat.lt_succ_self _) (Nat.le_of_ble_eq_true this.1), this.2, fun hfl => hself j hfl⟩
  ·unfold Qnr at hbk
   rw [List.all_eq_true] at hbk
   simpa using hbk x hx
  ·rw [hrep]
   have := hcover j (by simpa using hj)
   simp only [List.contains_iff_mem] at this
   simp [this]
 obtain ⟨p3, l3, r3, E3, h3, h4, h5⟩ := hI.sated
 refine QjK hlow _ _ _ _ p3 l3 r3 E3 R L G0 (by simp) (fun i o _ hl => (by rw [hrep] at hl; cases hl)) h3 h4 ?_
 rw [h5]
 simp only [List.length_nil, Nat.zero_add]
 exact yM _ _ hnd fun x hx => Nat.lt_of_lt_of_le (Nat.lt_succ_self _) (Nat.le_of_ble_eq_true (hlt x hx).1)
variable {fl ft is : List Nat} {b : Nat} {G : List Asn}
theorem QaK {i d : Nat} {o : Oper} {v : Value} (hi : i ∈ fl) (hp : i ∉ ft) (ho : yh l i = some o) (hd : o.dst = some d) (hn : Nat.blt d c.n = true) (hw : Wn c l.toArray E o true) (y : ∀ R', R.le R' → ∀ G, Yld c E R' (L ++ G) o v)
  (h : SB c l.toArray Q fl ft b is ((d, v) :: E) R L G) : SB c l.toArray Q fl ft b (i :: is) E R L G :=
 .inl ⟨hi, v, _, ⟨o, d, by rw [yr] at ho; simpa using ho, hd, hn, rfl, .inl ⟨hw, y⟩⟩, fun h => absurd h hp, h⟩
theorem ZT {i d : Nat} {o : Oper} {v : Value} (hi : i ∈ fl) (ho : yh l i = some o) (hd : o.dst = some d) (hn : Nat.blt d c.n = true) (hw : Wn c l.toArray E o true) (y : ∀ R' G, Yld c E R' G o v)
  (h : SB c l.toArray Q fl ft b is ((d, v) :: E) R L G) : SB c l.toArray Q fl ft b (i :: is) E R L G :=
 .inl ⟨hi, v, _, ⟨o, d, by rw [yr] at ho; simpa using ho, hd, hn, rfl, .inl ⟨hw, fun R' _ G => y R' _⟩⟩, fun _ => ⟨o, d, by rw [yr] at ho; simpa using ho, hd, hn, rfl, .inl ⟨hw, fun R' _ G => y R' _⟩⟩, h⟩
theorem QmV (h : EJ c (Q .normal) E R (L ++ G)) : SB c l.toArray Q fl ft b [] E R L G := h
def BK (c : Cx) (ops : Array Oper) (R : Hp) (L : List Asn) (Q : Exit → Act → World → Prop) (fl ft : List Nat) (b i : Nat) (is : List Nat) (a : Act) (w : World) : Prop :=
 ∃ E' R' L' G', (L' = L ∨ (i = b ∧ L' = [])) ∧ R.le R' ∧ Fr c.n E' a ∧ Sat c.σ R' (L' ++ G') w ∧ SB c ops Q fl ft b is E' R' L' G'
theorem QeG {i : Nat} {o : Oper} (hi : i ∉ fl) (ho : yh l i = some o)
  (h : RJ c l.toArray (Exit.then (BK c l.toArray R L Q fl ft b i is) (fun _ _ _ => False)) [o] E R (L ++ G)) : SB c l.toArray Q fl ft b (i :: is) E R L G := by
 refine .inr ⟨hi, o, by rw [yr] at ho; simpa using ho, fun a w hf hs => ?_⟩
 have := Qax (Q' := fun _ _ _ => False) (h a w hf hs) (K' := BK c l.toArray R L Q fl ft b i is) (fun _ _ h => h)
 split
 ·rename_i hw
  rw [if_pos hw] at this
  exact Oper.wp_mono (fun a' w' ⟨⟨u, hu⟩, E', R', L', G', h0, h1, h2, h3, h4⟩ => ⟨u, E', R', L', G', h0, h1, hu, h2, h3, h4⟩) (Qeo this fun a' w' ⟨E', R', L', G', _, _, h1, _⟩ => h1.dfs)
 ·rename_i hw
  rw [if_neg hw] at this
  obtain ⟨E', R', L', G', h0, h1, h2, h3, h4⟩ := this
  exact ⟨E', R', L', G', h0, h1, h2, h3, h4⟩
theorem QkR {R1 : Hp} {Qx : Exit → Act → World → Prop} {ops : Array Oper} {M G' : List Asn} {i : Nat} (hR : R.le R1) (hS : Sub M (L ++ G')) (h : SB c ops Q fl ft b is E R1 L G') :
  RJ c ops (Exit.then (BK c ops R L Q fl ft b i is) Qx) [] E R1 M :=
 Qe fun a w hf hs => ⟨E, R1, L, G', .inl rfl, hR, hf, hs.sub hS, h⟩
theorem QmZ {R1 : Hp} {Qx : Exit → Act → World → Prop} {ops : Array Oper} {M : List Asn} (hR : R.le R1) (h : SB c ops Q fl ft b is E R1 [] M) :
  RJ c ops (Exit.then (BK c ops R L Q fl ft b b is) Qx) [] E R1 M :=
 Qe fun a w hf hs => ⟨E, R1, [], M, .inr ⟨rfl, rfl⟩, hR, hf, hs, h⟩
end
set_option maxRecDepth 100000
set_option maxHeartbeats 4000000
def XM (l : List Int) : List Value := l.map (Value.int .u64 ·)
theorem jQ (l : List Int) : (XM l).length = l.length := by simp [XM]
theorem Qbh : ∀ (l : List Value) (n : Nat), nth l n = l[n]?
 | [], n => by simp [nth]
 | x :: l, 0 => by simp [nth]
 | x :: l, n + 1 => by simp [nth, Qbh l n]
theorem jt (l : List Int) (k : Nat) (z : Int) (hz : z = k) (hk : k < l.length) : nth (XM l) (z.toNat * 1) = some (.int .u64 (l.getD k 0)) := by
 subst hz
 rw [Qbh, XM, List.getElem?_map, show ((k : Nat) : Int).toNat * 1 = k by simp, List.getElem?_eq_getElem hk]
 simp [List.getD_eq_getElem?_getD, List.getElem?_eq_getElem hk]
theorem Qgj (l : List Int) (k : Nat) (z x : Int) (hz : z = k) : ZN (XM l) (z.toNat * 1) (.int .u64 x) = XM (l.set k x) := by
 subst hz
 rw [yJ, show ((k : Nat) : Int).toNat * 1 = k by simp, XM, XM, List.map_set]
def zr (l : List Int) (j : Nat) : List Int := (l.set j (l.getD (j - 1) 0)).set (j - 1) (l.getD j 0)
theorem QfV (l : List Int) {j : Nat} (h : j < l.length) : (zr l j).Perm l := by
 have h1 : l.getD (j - 1) 0 = l[j - 1]'(by omega) := by simp [List.getD_eq_getElem?_getD, List.getElem?_eq_getElem (show j - 1 < l.length by omega)]
 have h2 : l.getD j 0 = l[j] := by simp [List.getD_eq_getElem?_getD, List.getElem?_eq_getElem h]
 unfold zr
 rw [h1, h2]
 exact List.set_set_perm h (by omega)
theorem Qhf (l : List Int) {j : Nat} (h : j < l.length) (x : Nat) : (zr l j).getD x 0 = if x = j - 1 then l.getD j 0 else if x = j then l.getD (j - 1) 0 else l.getD x 0 := by
 unfold zr
 simp only [List.getD_eq_getElem?_getD, List.getElem?_set, List.length_set]
 by_cases h1 : x = j - 1
 ·subst h1; simp [show j - 1 < l.length by omega]
 ·by_cases h2 : x = j
  ·subst h2; simp [show ¬ x - 1 = x by omega, h]
   intro h3; omega
  ·simp [h1, h2, show ¬ j - 1 = x by omega, show ¬ j = x by omega]
def QfL (l : List Int) (i j : Nat) : Prop := ∀ p q, p < q → q ≤ i → q ≠ j → l.getD p 0 ≤ l.getD q 0
def Srt (l : List Int) (i : Nat) : Prop := ∀ p q, p < q → q < i → l.getD p 0 ≤ l.getD q 0
theorem QiQ {l : List Int} {i : Nat} (h : Srt l i) : QfL l i i := fun p q h1 h2 h3 => h p q h1 (by omega)
theorem Qj1 {l : List Int} {i j : Nat} (h : QfL l i j) (hj : 0 < j) (hi : j ≤ i) (hl : i < l.length) (hlt : l.getD j 0 < l.getD (j - 1) 0) : QfL (zr l j) i (j - 1) := fun p q h1 h2 h3 => by
 have g := Qhf l (show j < l.length by omega)
 rw [g p, g q]
 by_cases q1 : q = j
 ·subst q1
  rw [if_neg h3, if_pos rfl]
  by_cases p1 : p = q - 1
  ·rw [if_pos p1]; omega
  ·rw [if_neg p1, if_neg (by omega)]
   exact h p (q - 1) (by omega) (by omega) (by omega)
 ·rw [if_neg h3, if_neg q1]
  by_cases p1 : p = j - 1
  ·rw [if_pos p1]
   exact h j q (by omega) h2 q1
  ·rw [if_neg p1]
   by_cases p2 : p = j
   ·rw [if_pos p2]; subst p2
    exact h (p - 1) q (by omega) h2 q1
   ·rw [if_neg p2]; exact h p q h1 h2 q1
theorem Qgy {l : List Int} {i j : Nat} (h : QfL l i j) (he : j = 0 ∨ ¬ l.getD j 0 < l.getD (j - 1) 0) : Srt l (i + 1) := fun p q h1 h2 => by
 by_cases hq : q = j
 ·subst hq
  rcases he with he | he
  ·omega
  ·by_cases hp : p = q - 1
   ·subst hp; omega
   ·have := h p (q - 1) (by omega) (by omega) (by omega); omega
 ·exact h p q h1 (by omega) hq
theorem QnQ {R : Hp} (a : Int) : QTri prog 144 [.int .u64 a] R [] (.bool false) := by
 refine Tri.q2 ?_
 refine Qn func144 rfl ntmps144 rfl (fun σ F Q hret hend hpan => ?_)
 try simp only [cB]
 refine Qd fun K1 hK1 => Qc (Ps (Qe (hK1 _ _ _ (Qd fun K2 hK2 => Qc ?_))))
 refine Pm (Pm ?_)
 refine Pa (XU rfl rfl) (Ps (Qe (hK2 _ _ _ (Qi (hret _ _ _ ?_)))))
 refine Ea results144 (.cons (Qh rfl) .nil) [] le_ ?_
 exact ⟨by simp [QF], rfl⟩
theorem Qnc {R : Hp} (a b : Int) : QTri prog 130 [.int .u64 a, .int .u64 b] R [] (.bool (decide (a < b))) := by
 refine Tri.q2 ?_
 refine Qn func130 rfl ntmps130 rfl (fun σ F Q hret hend hpan => ?_)
 try simp only [cB]
 refine Qd fun K1 hK1 => Qc (Ps (Qe (hK1 _ _ _ (Qd fun K2 hK2 => Qc ?_))))
 refine Pm ?_
 refine Pa (Ca call144 (QnQ _)) (Pm (Pk (Pk (Pk ?_))))
 refine Pa (Qo rfl rfl) (Pm ?_)
 refine Pb (Qg rfl) ?_
 refine Pb (Qg rfl) ?_
 refine Pb (QO rfl rfl) ?_
 refine Pa (Qo rfl rfl) (Ps (Qe (hK2 _ _ _ (Qi (hret _ _ _ ?_)))))
 refine Ea results130 (.cons (Qh rfl) .nil) [] le_ ?_
 exact ⟨rfl, rfl⟩
theorem Qi4 {R : Hp} (v : Value) (l0 : List Int) (hvo : v.oneCell' = true) (hn : l0.length ≤ 12) : Tri prog 124 [v, .int .i64 0, .int .i64 (l0.length : Int)] R [slc 36 1 v l0.length (XM l0)]
  (fun x R' L' => ∃ l, l.Perm l0 ∧ Srt l l.length ∧ L' = [slc 36 1 v l0.length (XM l)]) := by
 refine Qn func124 rfl ntmps124 rfl (fun σ F Q hret hend hpan => ?_)
 try simp only [cB]
 refine Qd fun K1 hK1 => Qc (Pm ?_)
 refine Pa (Qt rfl rfl om_) (Ps (Qe (hK1 _ _ _ (Qp ?_))))
 have hll := jQ l0
 refine Ql (E' := (fun (x1 : Nat × List Int) => [(0, v), (1, .int .i64 0), (2, .int .i64 (l0.length : Int)), (6, .int .i64 (x1.1 : Int))]) (1, l0)) (eC rfl (eC rfl (eC rfl (eC rfl eN)))) ?_
 refine Xi (M := (fun (x1 : Nat × List Int) => slc 36 1 v l0.length (XM x1.2) :: F) (1, l0)) sb_ ?_
 refine QY (fun (x1 : Nat × List Int) => [(0, v), (1, .int .i64 0), (2, .int .i64 (l0.length : Int)), (6, .int .i64 (x1.1 : Int))]) (fun (x1 : Nat × List Int) => R) (fun (x1 : Nat × List Int) => slc 36 1 v l0.length (XM x1.2) :: F) (fun (x1 : Nat × List Int) => 1 ≤ x1.1 ∧ x1.1 ≤ l0.length + 1 ∧ x1.2.Perm l0 ∧ Srt x1.2 x1.1) (fun (x1 : Nat × List Int) => l0.length + 1 - x1.1) (1, l0) (⟨by simp, by simp, .refl _, fun p q h1 h2 => by simp at h2; omega⟩) ?_
 rintro ⟨i, l⟩ ⟨hi1, hi2, hp, ho⟩
 try dsimp only
 dsimp only at hi1 hi2 hp ho
 refine Qd fun K2 hK2 => Qd fun K3 hK3 => Qc (Pm (Pm ?_))
 refine Pa (QO rfl rfl) (Qe (hK3 _ _ _ ?_))
 refine Qm rfl (fun hc12 => ?_) (fun hc12 => ?_)
 try simp only [dx] at hc12
 refine Qj (hK2 _ _ _ (Qd fun K5 hK5 => Qp (Qd fun K6 hK6 => Qc (Pm (Ps (Qe (hK6 _ _ _ (Qp ?_))))))))
 refine Ql (E' := (fun (x2 : Nat × List Int) => [(0, v), (1, .int .i64 0), (2, .int .i64 (l0.length : Int)), (6, .int .i64 (i : Int)), (7, .int .i64 (x2.1 : Int))]) (i, l)) (eC rfl (eC rfl (eC rfl (eC rfl (eC rfl eN))))) ?_
 refine Xi (M := (fun (x2 : Nat × List Int) => slc 36 1 v l0.length (XM x2.2) :: F) (i, l)) sb_ ?_
 refine QY (fun (x2 : Nat × List Int) => [(0, v), (1, .int .i64 0), (2, .int .i64 (l0.length : Int)), (6, .int .i64 (i : Int)), (7, .int .i64 (x2.1 : Int))]) (fun (x2 : Nat × List Int) => R) (fun (x2 : Nat × List Int) => slc 36 1 v l0.length (XM x2.2) :: F) (fun (x2 : Nat × List Int) => x2.1 ≤ i ∧ x2.2.Perm l0 ∧ QfL x2.2 i x2.1) (fun (x2 : Nat × List Int) => x2.1) (i, l) (⟨by simp, hp, QiQ ho⟩) ?_
 rintro ⟨j, l2⟩ ⟨hj, hp2, ho2⟩
 try dsimp only
 dsimp only at hj hp2 ho2
 refine Qd fun K7 hK7 => Qd fun K8 hK8 => ?_
 have hi3 : i < l0.length := by (try simp at hc12); omega
 have hl2 := hp2.length_eq
 have hjl : j < l2.length := by omega
 refine Xr (by kernel_rfl) (by kernel_rfl) ?_
 refine Qa (Qg rfl) ?_
 refine Qa (Qg rfl) ?_
 refine Qa (Xs rfl rfl) ?_
 refine Qa (Qg rfl) ?_
 refine YU 19 rfl (fun hg19 => ?_) (fun hg19 => ?_)
 have hj0 : 0 < j := by (try simp at hg19); omega
 refine Qb (Qg rfl) ?_
 refine Qb (Qg rfl) ?_
 refine Qb (XA underlying75 sizeOf36 rfl rfl fd_ om_) ?_
 refine Qb ((XD o36 rfl fd_ (jt l2 j _ rfl hjl))) ?_
 refine Qb (Qg rfl) ?_
 refine Qb (Qg rfl) ?_
 refine Qb ((Yld.to (u := .int .i64 ((j - 1 : Nat) : Int)) (YN rfl rfl (by omega)) (by congr 1; omega))) ?_
 refine Qb (XA underlying75 sizeOf36 rfl rfl fd_ om_) ?_
 refine Qb ((XD o36 rfl fd_ (jt l2 (j - 1) _ rfl (by omega)))) ?_
 refine Qb (Ca call130 (Qnc _ _)) ?_
 refine Qa (Qr rfl rfl) ?_
 refine Xb ?_
 refine hK8 _ _ _ ?_
 refine Ql (eL 0 rfl (eL 1 rfl (eL 2 rfl (eL 6 rfl (eL 7 rfl (eL 30 rfl eN)))))) ?_
 refine Qm rfl (fun hc30 => ?_) (fun hc30 => ?_)
 first | have hlt : l2.getD j 0 < l2.getD (j - 1) 0 := by simpa using hc30 | skip
 refine Qj (hK7 _ _ _ (Qd fun K10 hK10 => Qp ?_))
 refine Qnq (L := [slc 36 1 v l0.length (XM l2)]) [0, 1, 2, 3, 4, 5, 6, 7, 8, 9, 10, 11, 12, 13, 14] [0, 1, 2, 3, 4, 5, 6, 7, 10, 11] 15 [0, 1, 2, 3, 4, 5, 6, 7, 8, 9, 10, 11, 12, 13, 14, 15, 16, 17] _ sb_ (by kernel_rfl) (by kernel_rfl) (by kernel_rfl) ?_
 refine ZT (by decide) rfl rfl rfl (wn0 rfl) (fun R1 G => (Qg rfl)) ?_
 refine ZT (by decide) rfl rfl rfl (wn0 rfl) (fun R1 G => (Qg rfl)) ?_
 refine ZT (by decide) rfl rfl rfl (wn0 rfl) (fun R1 G => (Qg rfl)) ?_
 refine ZT (by decide) rfl rfl rfl (wn0 rfl) (fun R1 G => (Qg rfl)) ?_
 refine ZT (by decide) rfl rfl rfl (wn0 rfl) (fun R1 G => (Yld.to (u := .int .i64 ((j - 1 : Nat) : Int)) (YN rfl rfl (by omega)) (by congr 1; omega))) ?_
 refine ZT (by decide) rfl rfl rfl (wn0 rfl) (fun R1 G => (Qg rfl)) ?_
 refine ZT (by decide) rfl rfl rfl (wn0 rfl) (fun R1 G => (Qg rfl)) ?_
 refine ZT (by decide) rfl rfl rfl (wn0 rfl) (fun R1 G => (Yld.to (u := .int .i64 ((j - 1 : Nat) : Int)) (YN rfl rfl (by omega)) (by congr 1; omega))) ?_
 refine QaK (by decide) (by decide) rfl rfl rfl (wn0 rfl) (fun R1 hR1 G => (XA underlying75 sizeOf36 rfl rfl fd_ om_)) ?_
 refine QaK (by decide) (by decide) rfl rfl rfl (wn0 rfl) (fun R1 hR1 G => (XD o36 rfl fd_ (jt l2 (j - 1) _ rfl (by omega)))) ?_
 refine ZT (by decide) rfl rfl rfl (wn0 rfl) (fun R1 G => (Qg rfl)) ?_
 refine ZT (by decide) rfl rfl rfl (wn0 rfl) (fun R1 G => (Qg rfl)) ?_
 refine QaK (by decide) (by decide) rfl rfl rfl (wn0 rfl) (fun R1 hR1 G => (XA underlying75 sizeOf36 rfl rfl fd_ om_)) ?_
 refine QaK (by decide) (by decide) rfl rfl rfl (wn0 rfl) (fun R1 hR1 G => (XD o36 rfl fd_ (jt l2 j _ rfl hjl))) ?_
 refine QaK (by decide) (by decide) rfl rfl rfl (wn0 rfl) (fun R1 hR1 G => (XA underlying75 sizeOf36 rfl rfl fd_ om_)) ?_
 refine QeG (by decide) rfl ?_
 try simp only [cC]
 refine ZF (ys := XM (l2.set j (l2.getD (j - 1) 0))) o36 (wn0 rfl) rfl rfl rfl fd_ (by rw [jQ]; simp; omega) (Qgj _ _ _ _ rfl) (by omega) ?_
 refine QmZ le_ ?_
 refine QeG (by decide) rfl ?_
 try simp only [cC]
 refine Pa (XA underlying75 sizeOf36 rfl rfl fd_ om_) ?_
 refine QkR le_ (Sub.refl _) ?_
 refine QeG (by decide) rfl ?_
 try simp only [cC]
 refine ZF (ys := XM (zr l2 j)) o36 (wn0 rfl) rfl rfl rfl fd_ (by rw [jQ]; simp; omega) (Qgj _ _ _ _ rfl) (by omega) ?_
 refine QkR le_ (Sub.refl _) ?_
 refine QmV ?_
 try simp only [cC]
 refine hK10 _ _ _ (Qc (Pm ?_))
 refine Pa ((Yld.to (u := .int .i64 ((j - 1 : Nat) : Int)) (YN rfl rfl (by omega)) (by congr 1; omega))) ?_
 refine Ps (Qe ?_)
 refine Xl (q' := QS _ _ _ _ _ _ _) rfl ?_
 refine QC ((j - 1, zr l2 j)) (⟨by dsimp only; omega, (QfV l2 hjl).trans hp2, Qj1 ho2 hj0 hj (by omega) hlt⟩) (by dsimp only; omega) (eC rfl (eC rfl (eC rfl (eC rfl (eC rfl eN))))) rfl sb_
 first | have he2 : j = 0 ∨ ¬ l2.getD j 0 < l2.getD (j - 1) 0 := .inr (by simpa using hc30) | skip
 refine QL (hK5 _ _ _ (Qc (Pm ?_)))
 refine Pa (Qt rfl rfl om_) (Ps (Qe ?_))
 refine Xl (q' := QS _ _ _ _ _ _ _) rfl ?_
 refine QC ((i + 1, l2)) (⟨by dsimp only; omega, by dsimp only; omega, hp2, Qgy ho2 he2⟩) (by dsimp only; omega) (eC rfl (eC rfl (eC rfl (eC rfl eN)))) rfl sb_
 have he2 : j = 0 ∨ ¬ l2.getD j 0 < l2.getD (j - 1) 0 := .inl (by (try simp at hg19); omega)
 refine Qk ?_
 refine Qk ?_
 refine Qk ?_
 refine Qk ?_
 refine Qk ?_
 refine Qk ?_
 refine Qk ?_
 refine Qk ?_
 refine Qk ?_
 refine Qk ?_
 refine Qa (Qo rfl rfl) ?_
 refine Xb ?_
 refine hK8 _ _ _ ?_
 refine Ql (eL 0 rfl (eL 1 rfl (eL 2 rfl (eL 6 rfl (eL 7 rfl (eL 30 rfl eN)))))) ?_
 refine Qs rfl (QL (hK5 _ _ _ (Qc (Pm ?_))))
 refine Pa (Qt rfl rfl om_) (Ps (Qe ?_))
 refine Xl (q' := QS _ _ _ _ _ _ _) rfl ?_
 refine QC ((i + 1, l2)) (⟨by dsimp only; omega, by dsimp only; omega, hp2, Qgy ho2 he2⟩) (by dsimp only; omega) (eC rfl (eC rfl (eC rfl (eC rfl eN)))) rfl sb_
 try simp only [dx] at hc12
 refine QL (hend _ _ _ ?_)
 apply QD results124 .nil _ [slc 36 1 v l0.length (XM l)] (Hp.le_refl _) rfl
 case hp => exact ⟨l, hp, fun p q h1 h2 => ho p q h1 (by (try simp at hc12); have := hp.length_eq; omega), rfl⟩
 case hS => exact sb_
theorem QnG {R : Hp} (v : Value) (l0 : List Int) (k : Int) (hvo : v.oneCell' = true) (hn : l0.length ≤ 12) : Tri prog 120 [v, .int .i64 0, .int .i64 (l0.length : Int), .int .i64 k] R [slc 36 1 v l0.length (XM l0)]
  (fun x R' L' => ∃ l, l.Perm l0 ∧ Srt l l.length ∧ L' = [slc 36 1 v l0.length (XM l)]) := by
 refine Qn func120 rfl ntmps120 rfl (fun σ F Q hret hend hpan => ?_)
 try simp only [cB]
 refine Qd fun K1 hK1 => Qc (Ps (Qe (hK1 _ _ _ (Qd fun K2 hK2 => Qc ?_))))
 refine Ps (Qe (hK2 _ _ _ (Qp ?_)))
 refine Ql (E' := (fun (x1 : Nat) => [(0, v), (1, .int .i64 0), (2, .int .i64 (l0.length : Int))]) 0) (eC rfl (eC rfl (eC rfl eN))) ?_
 refine Xi (M := (fun (x1 : Nat) => slc 36 1 v l0.length (XM l0) :: F) 0) sb_ ?_
 refine QY (fun (x1 : Nat) => [(0, v), (1, .int .i64 0), (2, .int .i64 (l0.length : Int))]) (fun (x1 : Nat) => R) (fun (x1 : Nat) => slc 36 1 v l0.length (XM l0) :: F) (fun (x1 : Nat) => True) (fun (x1 : Nat) => x1) 0 (trivial) ?_
 rintro x hI2
 try dsimp only
 refine Qp (Qd fun K3 hK3 => Qc (Pm (Pm ?_)))
 refine Pa (YN rfl rfl om_) (Ps (Qe (hK3 _ _ _ (Qd fun K4 hK4 => Qd fun K5 hK5 => Qc ?_))))
 refine Pm ?_
 refine Pa ((Yld.to (u := .bool true) (zG rfl rfl) (by rw [decide_eq_true (by omega)]))) ?_
 refine Qe (hK5 _ _ _ (Qv rfl (Qd fun K6 hK6 => Qc (Pm (Pm (Pm ?_))))))
 refine Ra call124 (Qi4 v l0 hvo hn) ?_
 rintro r R2 L' hR2 ⟨l, hp, hs, rfl⟩
 try simp only [cB]
 refine Qe (hK6 _ _ _ ?_)
 refine Ql eN ?_
 refine Qi (hret _ _ _ ?_)
 apply XL results120 .nil _ [slc 36 1 v l0.length (XM l)] hR2 rfl
 case hp => exact ⟨l, hp, hs, rfl⟩
 case hS => exact sb_
theorem Qns {R : Hp} (n : Nat) (hn : n < 18446744073709551616) : QTri prog 121 [.int .u64 (n : Int)] R [] (.int .i64 (YA n : Int)) := by
 refine Tri.q2 ?_
 refine Qn func121 rfl ntmps121 rfl (fun σ F Q hret hend hpan => ?_)
 try simp only [cB]
 refine Qd fun K1 hK1 => Qc (Ps (Qe (hK1 _ _ _ (Qd fun K2 hK2 => Qs rfl (Qj (hK2 _ _ _ (Qd fun K3 hK3 => Qc ?_)))))))
 refine Pm ?_
 refine Pa (Ca call134 (QgF n hn)) (Ps (Qe (hK3 _ _ _ (Qi (hret _ _ _ ?_)))))
 refine Ea results121 (.cons (Qh rfl) .nil) [] le_ ?_
 exact ⟨rfl, rfl⟩
theorem QmP {R : Hp} (v : Value) (l0 : List Int) (hvo : v.oneCell' = true) (hn : l0.length ≤ 12) : Tri prog 110 [v] R [slc 36 1 v l0.length (XM l0)]
  (fun x R' L' => ∃ l, l.Perm l0 ∧ Srt l l.length ∧ L' = [slc 36 1 v l0.length (XM l)]) := by
 refine Qn func110 rfl ntmps110 rfl (fun σ F Q hret hend hpan => ?_)
 try simp only [cB]
 refine Qd fun K1 hK1 => Qc (Pm ?_)
 refine Pa (YE underlying75 rfl fd_) (Ps (Qe (hK1 _ _ _ (Qc (Pm (Pm (Pm ?_)))))))
 refine Pa ((Xp underlying3 underlying147 rfl (by (simp only [IntKind.min, IntKind.max, IntKind.signed, IntKind.bits, Bool.false_eq_true, ite_false, ite_true]; omega)))) ?_
 refine Pa (Ca call121 (Qns l0.length (by omega))) ?_
 refine Ra call120 (QnG v l0 _ hvo hn) ?_
 rintro r R2 L' hR2 ⟨l, hp, hs, rfl⟩
 try simp only [cB]
 refine Qe (hend _ _ _ ?_)
 apply QD results110 .nil _ [slc 36 1 v l0.length (XM l)] hR2 rfl
 case hp => exact ⟨l, hp, hs, rfl⟩
 case hS => exact sb_
structure ND where
 id : Nat
 n : Nat
 g : LG
 role : Int
 leader : Int
 commit : Int
 patience : Int
 votes : List Int
 peers : List (Int × Int)
 out : List Msg
 down : Bool
abbrev NS := ND × DK
def ND.start (id n : Nat) (g : LG) : ND := ⟨id, n, g, 0, -1, g.base, 0, [], [], [], false⟩
def ND.send (x : ND) (m : Msg) : ND := { x with out := x.out ++ [{ m with frm := x.id, term := x.g.term }] }
def ND.tAt (x : ND) (i : Int) : Int := (x.g.termAt i).getD 0
def ND.others (x : ND) : List Nat := (List.range x.n).filter (fun i => i != x.id)
def ND.nxt (x : ND) (to : Nat) : Int := (x.peers.getD to (0, 0)).1
def ND.mat (x : ND) (to : Nat) : Int := (x.peers.getD to (0, 0)).2
def ND.feedMsg (x : ND) (to : Nat) : Msg :=
 if x.nxt to ≤ x.g.base then { Msg.zero with kind := 4, to := to, index := x.g.base, logTerm := x.g.baseT, state := x.g.state }
 else { Msg.zero with kind := 2, to := to, index := x.nxt to - 1, logTerm := x.tAt (x.nxt to - 1), commit := x.commit, es := (x.g.all.drop (x.nxt to - x.g.base - 1).toNat).take 8 }
def ND.feed (x : ND) (to : Nat) : ND := x.send (x.feedMsg to)
def ND.feedAll (x : ND) : ND := x.others.foldl ND.feed x
def ND.reach (x : ND) : List Int := x.g.last :: x.others.map x.mat
def ND.mid (x : ND) : Int := (x.reach.mergeSort (fun a b => decide (a ≤ b))).getD ((x.n - 1) / 2) 0
def ND.count (x : ND) : ND := if x.mid > x.commit ∧ x.tAt x.mid = x.g.term then { x with commit := x.mid } else x
def QU (r : Bool × NS) (k : NS → Bool × NS) : Bool × NS := if r.1 = true then k r.2 else r
def QP (s : NS) (r : Int × LG × DK) : Bool × NS := if r.1 = 0 then (true, ({ s.1 with g := r.2.1 }, r.2.2)) else (false, ({ s.1 with g := r.2.1, down := true }, r.2.2))
def QQ (s : NS) (cmd : Bs) : Bool × NS := QU (QP s (s.1.g.addD s.2 s.1.g.last [(s.1.g.term, cmd)])) fun s => (true, (s.1.count.feedAll, s.2))
def ND.wins (x : ND) : ND := { x with role := 2, leader := x.id, patience := 0, peers := List.replicate x.n (x.g.last + 1, 0) }
def Zs (s : NS) : Bool × NS := QQ (s.1.wins, s.2) []
def ND.stands (x : ND) : ND := { x with role := 1, leader := -1, patience := 0, votes := [(x.id : Int)] }
def ND.askMsg (x : ND) (to : Nat) : Msg := { Msg.zero with kind := 0, to := to, index := x.g.last, logTerm := x.tAt x.g.last }
def ND.ask (x : ND) (to : Nat) : ND := x.send (x.askMsg to)
def ND.askAll (x : ND) : ND := x.others.foldl ND.ask x
def Yh (s : NS) : Bool × NS := QU (QP s (s.1.g.setTermD s.2 (s.1.g.term + 1) s.1.id)) fun s =>
 if s.1.n = 1 then Zs (s.1.stands, s.2) else (true, (s.1.stands.askAll, s.2))
def Zi (id : Nat) (t : Int) : Int := 10 + (7 * (id : Int) + 3 * t) % 11
def tickN (s : NS) : Bool × NS :=
 if s.1.role = 2 then if s.1.patience + 1 ≥ 3 then (true, ({ s.1 with patience := 0 }.feedAll, s.2)) else (true, ({ s.1 with patience := s.1.patience + 1 }, s.2))
 else if s.1.patience + 1 ≥ Zi s.1.id s.1.g.term then Yh ({ s.1 with patience := s.1.patience + 1 }, s.2) else (true, ({ s.1 with patience := s.1.patience + 1 }, s.2))
def ND.good (x : ND) (m : Msg) : Bool := decide (m.logTerm > x.tAt x.g.last) || (decide (m.logTerm = x.tAt x.g.last) && decide (m.index ≥ x.g.last))
def ND.grants (x : ND) (m : Msg) : Bool := decide (m.term = x.g.term) && decide (x.role = 0) && (decide (x.g.vote = -1) || decide (x.g.vote = m.frm)) && x.good m
def ND.voteMsg (m : Msg) (ok : Bool) : Msg := { Msg.zero with kind := 1, to := m.frm, ok := ok }
def Zd (s : NS) (m : Msg) : Bool × NS :=
 if s.1.grants m = true then QU (QP s (s.1.g.setTermD s.2 s.1.g.term m.frm)) fun s => (true, ({ s.1 with patience := 0 }.send (ND.voteMsg m true), s.2))
 else (true, (s.1.send (ND.voteMsg m false), s.2))
def QW (l : List Int) (i : Int) : List Int := if i ∈ l then l else l ++ [i]
def Yg (s : NS) (m : Msg) : Bool × NS :=
 if ¬ s.1.role = 1 ∨ ¬ m.term = s.1.g.term ∨ m.ok = false then (true, s)
 else if 2 * ((QW s.1.votes m.frm).length : Int) > s.1.n then Zs ({ s.1 with votes := QW s.1.votes m.frm }, s.2)
 else (true, ({ s.1 with votes := QW s.1.votes m.frm }, s.2))
def ND.answer (x : ND) (m : Msg) (ok : Bool) (index : Int) : ND := x.send { Msg.zero with kind := 3, to := m.frm, ok := ok, index := index }
def ND.fits (g : LG) : List Ent → Int → Option (Int × List Ent)
 | [], _ => none
 | e :: l, i => if (g.at i).map (·.1) = some e.1 then ND.fits g l (i + 1) else some (i, e :: l)
def ND.cutM (x : ND) (m : Msg) : Int × List Ent := if m.index < x.g.base then (x.g.base, m.es.drop (x.g.base - m.index).toNat) else (m.index, m.es)
def ND.commits (x : ND) (m : Msg) (last : Int) : ND := { x with commit := max x.commit (min m.commit last) }
def Zr (s : NS) (m : Msg) : Bool × NS :=
 if m.index < s.1.g.base ∧ (m.es.length : Int) < s.1.g.base - m.index then (true, (s.1.answer m true s.1.g.base, s.2))
 else if ¬ m.index < s.1.g.base ∧ ¬ s.1.g.termAt m.index = some m.logTerm then (true, (s.1.answer m false (min s.1.g.last (max m.index 1 - 1)), s.2))
 else
  let c := s.1.cutM m
  let last := c.1 + c.2.length
  match ND.fits s.1.g c.2 (c.1 + 1) with
  | none => (true, ((s.1.commits m last).answer m true last, s.2))
  | some (i, l) => if i ≤ s.1.commit then (true, s)
   else QU (QP s (s.1.g.addD s.2 (i - 1) l)) fun s => (true, ((s.1.commits m last).answer m true last, s.2))
def ND.follows (x : ND) (m : Msg) : ND := { x with role := 0, leader := m.frm, patience := 0 }
def yC (s : NS) (m : Msg) : Bool × NS :=
 if m.index > s.1.commit then QU (QP s (s.1.g.instD s.2 m.index m.logTerm m.state)) fun s => (true, ({ s.1 with commit := m.index }.answer m true m.index, s.2))
 else (true, (s.1.answer m true s.1.commit, s.2))
def YP (s : NS) (m : Msg) : Bool × NS :=
 if m.term < s.1.g.term then (true, (s.1.answer m false 0, s.2)) else if s.1.role = 2 then (true, s)
 else if m.kind = 2 then Zr (s.1.follows m, s.2) m else yC (s.1.follows m, s.2) m
def ND.setPeer (x : ND) (to : Nat) (p : Int × Int) : ND := { x with peers := x.peers.set to p }
def Yb (s : NS) (m : Msg) : Bool × NS :=
 if ¬ s.1.role = 2 ∨ ¬ m.term = s.1.g.term then (true, s)
 else
  let to := m.frm.toNat
  if m.ok = false then (true, ((s.1.setPeer to (max (min (s.1.nxt to - 1) (m.index + 1)) (s.1.mat to + 1), s.1.mat to)).feed to, s.2))
  else
   let k := max (s.1.mat to) (min m.index s.1.g.last)
   let x := (s.1.setPeer to (k + 1, k)).count
   if k + 1 ≤ x.g.last then (true, (x.feed to, s.2)) else (true, (x, s.2))
def ND.newTerm (x : ND) : ND := { x with role := 0, leader := -1 }
def Yc (s : NS) (m : Msg) : Bool × NS :=
 if m.kind = 0 then Zd s m else if m.kind = 1 then Yg s m else if m.kind = 2 ∨ m.kind = 4 then YP s m else if m.kind = 3 then Yb s m else (true, s)
def Xk (s : NS) (m : Msg) : Bool × NS :=
 if ¬ m.to = s.1.id ∨ m.frm = s.1.id ∨ m.frm < 0 ∨ m.frm ≥ s.1.n then (true, s)
 else if m.term > s.1.g.term then QU (QP s (s.1.g.setTermD s.2 m.term (-1))) fun s => Yc (s.1.newTerm, s.2) m
 else Yc s m
def Xm (s : NS) : Bool := s.1.down || (s.1.g.down || s.2.down)
def Xn (s : NS) (f : NS → Bool × NS) : List Msg × NS :=
 if Xm s = true then ([], s) else if (f ({ s.1 with out := [] }, s.2)).1 = true then ((f ({ s.1 with out := [] }, s.2)).2.1.out, (f ({ s.1 with out := [] }, s.2)).2) else ([], (f ({ s.1 with out := [] }, s.2)).2)
def mapG (es : Array MapEntry) (clock : Nat) (ik : IntKind) (f : Int → Option Value) (n : Nat) : Prop :=
 MapKept.Stamped es clock ∧ (∀ x ∈ es.toList, ∃ a, x.key = .int ik a) ∧ (∀ a v, f a = some v ↔ ∃ x ∈ es.toList, x.key = .int ik a ∧ x.val = v) ∧ es.size = n
def Ya (b : Nat) (ik : IntKind) (f : Int → Option Value) (n : Nat) : Asn := fun h => ∃ es clock, h b = some (.map es clock) ∧ mapG es clock ik f n
def Qe0 (b : Nat) (o : Obj) : Asn := fun h => h b = some o
def ZC (f : Int → Option Value) (a : Int) (v : Value) : Int → Option Value := fun k => if k = a then some v else f k
theorem QhK (clock : Nat) (ik : IntKind) : mapG #[] clock ik (fun _ => none) 0 := ⟨MapKept.stamped_empty clock, by simp, by simp, rfl⟩
theorem mapG.isKey {es : Array MapEntry} {clock : Nat} {ik : IntKind} {f : Int → Option Value} {n : Nat} (h : mapG es clock ik f n) : ∀ x ∈ es.toList, MapKept.IsKey (.int ik) x.key := fun x hx => by
 obtain ⟨a, e⟩ := h.2.1 x hx; rw [e]; exact rfl
theorem mapG.push {es : Array MapEntry} {clock : Nat} {ik : IntKind} {f : Int → Option Value} {n : Nat} (h : mapG es clock ik f n) {a : Int} {v : Value} (hn : ∀ x ∈ es.toList, x.key ≠ .int ik a) : mapG (es.push { key := .int ik a, val := v, born := clock }) (clock + 1) ik (ZC f a v) (n + 1) ∧ f a = none := by
 obtain ⟨h1, h2, h3, h4⟩ := h
 have hfa : f a = none := by
  cases hf : f a with
  | none => rfl
  | some u => obtain ⟨x, hx, e, _⟩ := (h3 a u).1 hf; exact absurd e (hn x hx)
 refine ⟨⟨MapKept.stamped_push h1 hn, ?_, ?_, by simp [h4]⟩, hfa⟩
 ·intro x hx
  simp only [Array.toList_push, List.mem_append, List.mem_singleton] at hx
  rcases hx with hx | rfl
  ·exact h2 x hx
  ·exact ⟨a, rfl⟩
 ·intro k u
  unfold ZC
  simp only [Array.toList_push, List.mem_append, List.mem_singleton]
  by_cases hk : k = a
  ·subst hk
   rw [if_pos rfl]
   constructor
   ·intro e; cases e; exact ⟨_, .inr rfl, rfl, rfl⟩
   ·rintro ⟨x, hx | rfl, e1, e2⟩
    ·exact absurd e1 (hn x hx)
    ·rw [← e2]
  ·rw [if_neg hk, h3]
   constructor
   ·rintro ⟨x, hx, e1, e2⟩; exact ⟨x, .inl hx, e1, e2⟩
   ·rintro ⟨x, hx | rfl, e1, e2⟩
    ·exact ⟨x, hx, e1, e2⟩
    ·cases e1; exact absurd rfl hk
theorem mapG.modify {es : Array MapEntry} {clock : Nat} {ik : IntKind} {f : Int → Option Value} {n : Nat} (h : mapG es clock ik f n) {a : Int} {v : Value} {j : Nat} {e : MapEntry} (hj : es[j]? = some e) (he : e.key = .int ik a) :
  mapG (es.modify j fun e => { e with key := .int ik a, val := v }) clock ik (ZC f a v) n ∧ f a = some e.val := by
 obtain ⟨h1, h2, h3, h4⟩ := h
 have hmem : e ∈ es.toList := by rw [← Array.getElem?_toList] at hj; exact List.mem_of_getElem? hj
 have hkey : ∀ e', es[j]? = some e' → ({ e' with key := .int ik a, val := v } : MapEntry).key = e'.key := fun e' he' => by rw [hj] at he'; cases he'; exact he.symm
 have hget : ∀ i, (es.modify j fun e => { e with key := .int ik a, val := v })[i]? = if j = i then (es[i]?).map (fun e => { e with key := .int ik a, val := v }) else es[i]? := fun i => by rw [Array.getElem?_modify]
 have hnd : ∀ (i : Nat) (x : MapEntry), es[i]? = some x → x.key = .int ik a → i = j := fun i x hx hk => by
  have h5 := h1.2.2
  have hi : (es.toList.map (·.key))[i]? = some (.int ik a) := by simp [hx, hk]
  have hj' : (es.toList.map (·.key))[j]? = some (.int ik a) := by simp [hj, he]
  have a1 := (List.getElem?_eq_some_iff.1 hi).1
  have a2 := (List.getElem?_eq_some_iff.1 hj').1
  rw [List.getElem?_eq_getElem a1] at hi
  rw [List.getElem?_eq_getElem a2] at hj'
  exact (List.getElem_inj h5).1 ((Option.some.inj hi).trans (Option.some.inj hj').symm)
 refine ⟨⟨MapKept.stamped_modify h1 _ _ (fun _ _ => rfl) (fun e' _ he' => hkey e' he'), ?_, ?_, by simp [h4]⟩, (h3 a e.val).2 ⟨e, hmem, he, rfl⟩⟩
 ·intro x hx
  obtain ⟨i, hi, rfl⟩ := List.getElem_of_mem hx
  have hi2 := hget i
  rw [← Array.getElem?_toList, List.getElem?_eq_getElem hi] at hi2
  by_cases hij : j = i
  ·subst hij; rw [if_pos rfl, hj] at hi2; simp only [Option.map_some, Option.some.injEq] at hi2; rw [hi2]; exact ⟨a, rfl⟩
  ·rw [if_neg hij] at hi2
   have hm' := hi2.symm
   rw [← Array.getElem?_toList] at hm'
   exact h2 _ (List.mem_of_getElem? hm')
 ·intro k u
  have hm : ∀ x, x ∈ (es.modify j fun e => { e with key := .int ik a, val := v }).toList ↔ ∃ i, (es.modify j fun e => { e with key := .int ik a, val := v })[i]? = some x := fun x => by
   rw [List.mem_iff_getElem?]
   constructor
   ·rintro ⟨i, hi⟩; exact ⟨i, by rw [← Array.getElem?_toList]; exact hi⟩
   ·rintro ⟨i, hi⟩; exact ⟨i, by rw [Array.getElem?_toList]; exact hi⟩
  have hm0 : ∀ x, x ∈ es.toList ↔ ∃ i, es[i]? = some x := fun x => by
   rw [List.mem_iff_getElem?]
   constructor
   ·rintro ⟨i, hi⟩; exact ⟨i, by rw [← Array.getElem?_toList]; exact hi⟩
   ·rintro ⟨i, hi⟩; exact ⟨i, by rw [Array.getElem?_toList]; exact hi⟩
  unfold ZC
  by_cases hk : k = a
  ·subst hk
   rw [if_pos rfl]
   constructor
   ·intro e0; cases e0
    exact ⟨{ e with key := .int ik k, val := v }, (hm _).2 ⟨j, by rw [hget, if_pos rfl, hj]; rfl⟩, rfl, rfl⟩
   ·rintro ⟨x, hx, e1, e2⟩
    obtain ⟨i, hi⟩ := (hm x).1 hx
    rw [hget] at hi
    by_cases hij : j = i
    ·subst hij; rw [if_pos rfl, hj] at hi; simp only [Option.map_some, Option.some.injEq] at hi; rw [← e2, ← hi]
    ·rw [if_neg hij] at hi; exact absurd (hnd i x hi e1).symm hij
  ·rw [if_neg hk, h3]
   constructor
   ·rintro ⟨x, hx, e1, e2⟩
    obtain ⟨i, hi⟩ := (hm0 x).1 hx
    refine ⟨x, (hm x).2 ⟨i, ?_⟩, e1, e2⟩
    rw [hget, if_neg]
    ·exact hi
    ·rintro rfl; rw [hj] at hi; cases hi; rw [he] at e1; cases e1; exact hk rfl
   ·rintro ⟨x, hx, e1, e2⟩
    obtain ⟨i, hi⟩ := (hm x).1 hx
    rw [hget] at hi
    by_cases hij : j = i
    ·subst hij; rw [if_pos rfl, hj] at hi; simp only [Option.map_some, Option.some.injEq] at hi; rw [← hi] at e1; cases e1; exact absurd rfl hk
    ·rw [if_neg hij] at hi; exact ⟨x, (hm0 x).2 ⟨i, hi⟩, e1, e2⟩
theorem Sat.map_cases {σ : World} {R : Hp} {L : List Asn} {w : World} {b : Nat} {ik : IntKind} {f : Int → Option Value} {n : Nat} (s : Sat σ R (Ya b ik f n :: L) w) : ∃ es clock, mapG es clock ik f n ∧ Sat σ R (Qe0 b (.map es clock) :: L) w := by
 obtain ⟨g, a, d, h1, h2, c1, c2, c3, ⟨es, clock, hb, hg⟩, c5⟩ := s.own
 exact ⟨es, clock, hg, s.os, s.tape, s.output, s.ro, g, a, d, h1, h2, c1, c2, c3, hb, c5⟩
theorem Sat.map_back {σ : World} {R : Hp} {L : List Asn} {w : World} {b clock : Nat} {es : Array MapEntry} {ik : IntKind} {f : Int → Option Value} {n : Nat} (s : Sat σ R (Qe0 b (.map es clock) :: L) w) (h : mapG es clock ik f n) : Sat σ R (Ya b ik f n :: L) w :=
 s.turn fun h0 hb => ⟨es, clock, hb, h⟩
theorem Qab {σ : World} {R : Hp} {L : List Asn} {w : World} {b : Nat} {o : Obj} (s : Sat σ R (Qe0 b o :: L) w) : w.heap[b]? = some o := YZ s
theorem Sat.obj_set {σ : World} {R : Hp} {L : List Asn} {w : World} {b : Nat} {o : Obj} (o' : Obj) (s : Sat σ R (Qe0 b o :: L) w) : Sat σ R (Qe0 b o' :: L) { w with heap := w.heap.setIfInBounds b o' } := by
 obtain ⟨e1, e2⟩ := MapKept.heap_set (o' := o') (Qab s)
 exact Sat.put (o := o) s rfl rfl rfl (fun k hk _ => e2 k hk) e1
section
variable {c : Cx} {ops : Array Oper} {Q : Exit → Act → World → Prop} {E : Env} {R : Hp} {L M : List Asn} {rest : List Oper} {d : Option Tmp} {ty : TypeId} {p : String} {af : Array Edge} {g : Option (Nat × Bool)}
theorem yS {dd : Nat} {t : TypeId} {ik : IntKind} (hw : Wn c ops E ⟨some dd, .makeMap t none, ty, p, af, g⟩ true) (hn : Nat.blt dd c.n = true)
  (h : ∀ b, RJ c ops Q rest ((dd, .map (some b)) :: E) R (Ya b ik (fun _ => none) 0 :: L)) : RJ c ops Q (⟨some dd, .makeMap t none, ty, p, af, g⟩ :: rest) E R L := by
 refine QaO (v := fun b => .map (some b)) (L' := fun b => Ya b ik (fun _ => none) 0 :: L) hw rfl hn (fun a w hf hs => ⟨w.heap.size, w.alloc (.map #[] 0), ?_, ?_⟩) h
 ·simp [execOp, Instr.makeMap]
 ·exact Sat.map_back (es := #[]) (clock := 0) (hs.alloc _) (QhK 0 ik)
theorem Qat {P : Program} {σ : World} {w : World} {t kt et : TypeId} {ik : IntKind} (hm : P.underlying t = some (.map kt et)) (hd : P.underlying kt = some (.int ik)) {b : Nat} {f : Int → Option Value} {n : Nat} (s : Sat σ R (Ya b ik f n :: L) w) (a : Int) (v : Value) :
  ∃ w', (Instr.mapUpdate t (.map (some b)) (.int ik a) v).run P w = .ok () w' ∧ Sat σ R (Ya b ik (ZC f a v) (if (f a).isSome then n else n + 1) :: L) w' := by
 obtain ⟨es, clock, hg, s2⟩ := s.map_cases
 have hb := Qab s2
 have hk : MapKept.IsKey (.int ik) (.int ik a) := rfl
 rcases MapKept.findNow_spec hk es.toList 0 hg.isKey with ⟨h1, h2⟩ | ⟨j, e, h1, h2, h3⟩
 ·obtain ⟨hp, hfa⟩ := hg.push (v := v) h2
  refine ⟨{ w with heap := w.heap.setIfInBounds b (.map (es.push { key := .int ik a, val := v, born := clock }) (clock + 1)) }, ?_, ?_⟩
  rotate_left
  ·rw [hfa]; exact Sat.map_back (s2.obj_set (.map (es.push { key := .int ik a, val := v, born := clock }) (clock + 1))) hp
  ·simp [Instr.mapUpdate, run_underlying hm, MapKept.run_getObj_map hb, MapKept.run_checkKey hd hk, MapKept.run_findKey hd h1, MapKept.run_setObj_map _ hb, Result.andThen]
 ·have hj : es[j]? = some e := by simpa using h2
  obtain ⟨hp, hfa⟩ := hg.modify (v := v) hj h3
  refine ⟨{ w with heap := w.heap.setIfInBounds b (.map (es.modify j fun e => { e with key := .int ik a, val := v }) clock) }, ?_, ?_⟩
  rotate_left
  ·rw [hfa]; exact Sat.map_back (s2.obj_set (.map (es.modify j fun e => { e with key := .int ik a, val := v }) clock)) hp
  ·simp [Instr.mapUpdate, run_underlying hm, MapKept.run_getObj_map hb, MapKept.run_checkKey hd hk, MapKept.run_findKey hd h1, hj, h3, MapKept.run_keyThatStays hk, MapKept.run_setObj_map _ hb, Result.andThen]
theorem ya {t kt et : TypeId} {ik : IntKind} {m x y : Operand} {b : Nat} {f : Int → Option Value} {n : Nat} {a : Int} {v : Value} (hm : c.P.underlying t = some (.map kt et)) (hd : c.P.underlying kt = some (.int ik))
  (hw : Wn c ops E ⟨none, .mapUpdate t m x y, ty, p, af, g⟩ true) (e1 : ev E m = some (.map (some b))) (e2 : ev E x = some (.int ik a)) (e3 : ev E y = some v) (fd : Find (Ya b ik f n) L M)
  (h : RJ c ops Q rest E R (Ya b ik (ZC f a v) (if (f a).isSome then n else n + 1) :: M)) : RJ c ops Q (⟨none, .mapUpdate t m x y, ty, p, af, g⟩ :: rest) E R L := by
 refine jA hw rfl (fun ac w hf hs => ?_) h
 obtain ⟨w', h1, h2⟩ := Qat hm hd (hs.find fd) a v
 exact ⟨w', by simp [execOp, hf.ev e1, hf.ev e2, hf.ev e3, h1], h2⟩
theorem ym {t kt et : TypeId} {ik : IntKind} {m x : Operand} {b : Nat} {f : Int → Option Value} {n : Nat} {a : Int} {z : Value} {ok : Bool} (hm : c.P.underlying t = some (.map kt et)) (hd : c.P.underlying kt = some (.int ik)) (hz : ∀ w, (zeroValue et).run c.P w = .ok z w)
  (e1 : ev E m = some (.map (some b))) (e2 : ev E x = some (.int ik a)) (fd : Find (Ya b ik f n) L M) :
  Yld c E R L ⟨d, .lookup t m x ok, ty, p, af, g⟩ (if ok then .tuple #[(f a).getD z, .bool (f a).isSome] else (f a).getD z) := fun ac w hf hs => by
 obtain ⟨es, clock, hg, s2⟩ := (hs.find fd).map_cases
 have hb := Qab s2
 have hk : MapKept.IsKey (.int ik) (.int ik a) := rfl
 have r : (Instr.lookup t (.map (some b)) (.int ik a) ok).run c.P w = .ok (if ok then .tuple #[(f a).getD z, .bool (f a).isSome] else (f a).getD z) w := by
  rcases MapKept.findNow_spec hk es.toList 0 hg.isKey with ⟨h1, h2⟩ | ⟨j, e, h1, h2, h3⟩
  ·have hfa := (hg.push (v := z) h2).2
   rw [hfa]
   simp [Instr.lookup, run_underlying hm, MapKept.run_getObj_map hb, MapKept.run_checkKey hd hk, MapKept.run_findKey hd h1, hz, Result.andThen]
  ·have hj : es[j]? = some e := by simpa using h2
   have hfa := (hg.modify (v := z) hj h3).2
   rw [hfa]
   simp [Instr.lookup, run_underlying hm, MapKept.run_getObj_map hb, MapKept.run_checkKey hd hk, MapKept.run_findKey hd h1, Result.andThen]
 simp [execOp, hf.ev e1, hf.ev e2, r, Oper.quietUpon]
theorem Qh8 {x : Operand} {t kt et : TypeId} {ik : IntKind} {b : Nat} {f : Int → Option Value} {n : Nat} (hm : c.P.underlying t = some (.map kt et)) (e1 : ev E x = some (.map (some b))) (fd : Find (Ya b ik f n) L M) :
  Yld c E R L ⟨d, .call { callee := .builtin .len, args := #[x], argTypes := #[t] }, ty, p, af, g⟩ (.int .i64 n) := fun ac w hf hs => by
 obtain ⟨es, clock, hg, s2⟩ := (hs.find fd).map_cases
 have hb := Qab s2
 have r : (Builtin.len_ #[t] ty #[.map (some b)]).run c.P w = .ok (goInt n) w := by
  rw [← hg.2.2.2]
  simp [Builtin.len_, run_underlying hm, MapKept.run_getObj_map hb]
 simp [execOp, resolve, invoke, builtin, hf.ev e1, r, Oper.quietUpon, goInt]
end
structure NB where
 x : Nat
 l : Nat
 d : Nat
structure NV where
 u : Value
 va : Value
 vm : Value
 vp : Value
 vo : Value
 css : List (List Value)
def ndC (b : NB) (v : NV) (x : ND) : List Value := [.int .i64 (x.id : Int), .int .i64 (x.n : Int), .pointer (some ⟨b.l, 0, none⟩), .int .i64 x.role, .int .i64 x.leader, .int .u64 x.commit, .int .i64 x.patience, v.vm, v.vp, v.vo, .bool x.down]
@[reducible] def ndB (b : NB) (v : NV) (x : ND) : Asn := blk b.x (ndC b v x) 109
def Qcp (p : Int × Int) : List Value := [.int .u64 p.1, .int .u64 p.2]
def Xv (l : List (Int × Int)) : List Value := (l.map Qcp).flatten
def qc (l : List Int) : Int → Option Value := fun k => if k ∈ l then some (.bool true) else none
def mpA (vm : Value) (votes : List Int) : Asn := match vm with
 | .map (some m) => Ya m .i64 (qc votes) votes.length
 | _ => fun _ => True
@[reducible] def lgN (b : NB) (v : NV) (x : ND) : Asn := lgB b.l (some ⟨b.d, 0, none⟩) v.va x.g
@[reducible] def prA (v : NV) (x : ND) : Asn := slc 161 2 v.vp x.peers.length (Xv x.peers)
@[reducible] def XQ (v : NV) (x : ND) : Asn := slc 117 10 v.vo x.out.length v.css.flatten
@[reducible] def ndI (b : NB) (v : NV) (x : ND) (D : DK) : List Asn := [ndB b v x, lgN b v x, dkB b.d v.u D, dkS v.u D, prA v x, mpA v.vm x.votes]
@[reducible] def ndL (b : NB) (v : NV) (x : ND) (D : DK) : List Asn := [ndB b v x, lgN b v x, dkB b.d v.u D, dkS v.u D, prA v x, mpA v.vm x.votes, XQ v x]
structure NOk (R : Hp) (v : NV) (x : ND) : Prop where
 va : FrX entE R x.g.all v.va
 out : Els msgE R x.out v.css
 vm : v.vm.oneCell' = true
 vp : v.vp.oneCell' = true
 vo : v.vo.oneCell' = true
 map : x.role = 1 → ∃ m, v.vm = .map (some m)
theorem NOk.mono {R R' : Hp} (hR : R.le R') {v : NV} {x : ND} (h : NOk R v x) : NOk R' v x := ⟨h.va.mono hR, h.out.mono hR, h.vm, h.vp, h.vo, h.map⟩
structure NIn (k : Nat) (x : ND) : Prop where
 idn : x.id < x.n ∧ x.n ≤ 9
 term : 0 ≤ x.g.term ∧ x.g.term ≤ 2305843009213693952 + k
 vote : -1 ≤ x.g.vote ∧ x.g.vote < 9
 base : 0 ≤ x.g.base ∧ x.g.base ≤ 100000000000000
 baseT : 0 ≤ x.g.baseT ∧ x.g.baseT ≤ 2305843009213693952 + k
 state : x.g.state.length ≤ 1000000
 alln : x.g.all.length ≤ 80000 + 20 * k
 all : ∀ e ∈ x.g.all, (0 ≤ e.1 ∧ e.1 ≤ 2305843009213693952 + k) ∧ e.2.length ≤ 100
 commit : 0 ≤ x.commit ∧ x.commit ≤ 150000000000000
 patience : 0 ≤ x.patience ∧ x.patience ≤ 1000000000000 + k
 peers : x.role = 2 → x.peers.length = x.n
 peer : ∀ p ∈ x.peers, (1 ≤ p.1 ∧ p.1 ≤ 200000000000000) ∧ (0 ≤ p.2 ∧ p.2 ≤ 150000000000000)
 votes : x.votes.Nodup ∧ ∀ i ∈ x.votes, 0 ≤ i ∧ i < (x.n : Int)
 out : x.out.length ≤ 20 * k
theorem NIn.le {k j : Nat} {x : ND} (h : NIn k x) (hk : k ≤ j) : NIn j x :=
 ⟨h.idn, ⟨h.term.1, by have := h.term.2; omega⟩, h.vote, h.base, ⟨h.baseT.1, by have := h.baseT.2; omega⟩, h.state, by have := h.alln; omega, fun e he => ⟨⟨(h.all e he).1.1, by have := (h.all e he).1.2; omega⟩, (h.all e he).2⟩, h.commit, ⟨h.patience.1, by have := h.patience.2; omega⟩, h.peers, h.peer, h.votes, by have := h.out; omega⟩
theorem NIn.g {k : Nat} {x : ND} (h : NIn k x) (hk : k ≤ 100) : x.g.ok := by
 have h1 := h.term
 have h2 := h.vote
 have h3 := h.base
 have h4 := h.baseT
 have h5 := h.alln
 exact ⟨by unfold QM; omega, by omega, by omega, by unfold QM; omega, h.state, by omega, fun e he => by have := h.all e he; unfold QM; omega⟩
theorem QbS {R : Hp} (b : NB) (v : NV) (x : ND) : QTri prog 38 [.pointer (some ⟨b.x, 0, none⟩)] R [ndB b v x] (.int .i64 x.role) := by
 refine Tri.q ?_
 unfold ndB ndC
 refine Qn func38 rfl ntmps38 rfl (fun σ F Q hret hend hpan => ?_)
 try simp only [cB]
 refine Qd fun K1 hK1 => Qc (Ps (Qe (hK1 _ _ _ (Qd fun K2 hK2 => Qd fun K3 hK3 => Qc ?_))))
 refine Pm ?_
 refine Pa (XV underlying56 rfl rfl) (Qe (hK3 _ _ _ (Qs rfl (Qj (hK2 _ _ _ (Qd fun K4 hK4 => Qc ?_))))))
 refine Pm ?_
 refine Pa (Qf rfl) ?_
 refine Pa (Ga underlying109 sizeOf3) ?_
 refine Pa (La o3) (Ps (Qe (hK4 _ _ _ (Qi (hret _ _ _ ?_)))))
 refine Ea results38 (.cons (Qh rfl) .nil) [ndB b v x] le_ ?_
 exact ⟨rfl, rfl, rfl⟩
theorem QhH {R : Hp} (b : NB) (v : NV) (x : ND) : QTri prog 58 [.pointer (some ⟨b.x, 0, none⟩)] R [ndB b v x] (.int .i64 x.leader) := by
 refine Tri.q ?_
 unfold ndB ndC
 refine Qn func58 rfl ntmps58 rfl (fun σ F Q hret hend hpan => ?_)
 try simp only [cB]
 refine Qd fun K1 hK1 => Qc (Ps (Qe (hK1 _ _ _ (Qd fun K2 hK2 => Qd fun K3 hK3 => Qc ?_))))
 refine Pm ?_
 refine Pa (XV underlying56 rfl rfl) (Qe (hK3 _ _ _ (Qs rfl (Qj (hK2 _ _ _ (Qd fun K4 hK4 => Qc ?_))))))
 refine Pm ?_
 refine Pa (Qf rfl) ?_
 refine Pa (Ga underlying109 sizeOf3) ?_
 refine Pa (La o3) (Ps (Qe (hK4 _ _ _ (Qi (hret _ _ _ ?_)))))
 refine Ea results58 (.cons (Qh rfl) .nil) [ndB b v x] le_ ?_
 exact ⟨rfl, rfl, rfl⟩
theorem QhI {R : Hp} (b : NB) (v : NV) (x : ND) : QTri prog 39 [.pointer (some ⟨b.x, 0, none⟩)] R [ndB b v x] (.int .u64 x.commit) := by
 refine Tri.q ?_
 unfold ndB ndC
 refine Qn func39 rfl ntmps39 rfl (fun σ F Q hret hend hpan => ?_)
 try simp only [cB]
 refine Qd fun K1 hK1 => Qc (Ps (Qe (hK1 _ _ _ (Qd fun K2 hK2 => Qd fun K3 hK3 => Qc ?_))))
 refine Pm ?_
 refine Pa (XV underlying56 rfl rfl) (Qe (hK3 _ _ _ (Qs rfl (Qj (hK2 _ _ _ (Qd fun K4 hK4 => Qc ?_))))))
 refine Pm ?_
 refine Pa (Qf rfl) ?_
 refine Pa (Ga underlying109 sizeOf36) ?_
 refine Pa (La o36) (Ps (Qe (hK4 _ _ _ (Qi (hret _ _ _ ?_)))))
 refine Ea results39 (.cons (Qh rfl) .nil) [ndB b v x] le_ ?_
 exact ⟨rfl, rfl, rfl⟩
theorem Qc9 {R : Hp} (b : NB) (v : NV) (x : ND) : QTri prog 23 [.pointer (some ⟨b.x, 0, none⟩)] R [ndB b v x] (.pointer (some ⟨b.l, 0, none⟩)) := by
 refine Tri.q ?_
 unfold ndB ndC
 refine Qn func23 rfl ntmps23 rfl (fun σ F Q hret hend hpan => ?_)
 try simp only [cB]
 refine Qd fun K1 hK1 => Qc (Ps (Qe (hK1 _ _ _ (Qd fun K2 hK2 => Qd fun K3 hK3 => Qc ?_))))
 refine Pm ?_
 refine Pa (XV underlying56 rfl rfl) (Qe (hK3 _ _ _ (Qs rfl (Qj (hK2 _ _ _ (Qd fun K4 hK4 => Qc ?_))))))
 refine Pm ?_
 refine Pa (Qf rfl) ?_
 refine Pa (Ga underlying109 sizeOf55) ?_
 refine Pa (La o55) (Ps (Qe (hK4 _ _ _ (Qi (hret _ _ _ ?_)))))
 refine Ea results23 (.cons (Qh rfl) .nil) [ndB b v x] le_ ?_
 exact ⟨rfl, rfl, rfl⟩
theorem qL {R : Hp} (b : NB) (v : NV) (x : ND) (D : DK) : QTri prog 37 [.pointer (some ⟨b.x, 0, none⟩)] R [ndB b v x, lgN b v x, dkB b.d v.u D] (.bool (Xm (x, D))) := by
 have hd := yv (R := R) b.l b.d v.va v.u x.g D
 refine Tri.q ?_
 unfold ndB ndC
 refine Qn func37 rfl ntmps37 rfl (fun σ F Q hret hend hpan => ?_)
 try simp only [cB]
 refine Qd fun K1 hK1 => Qc (Ps (Qe (hK1 _ _ _ (Qd fun K2 hK2 => Qc ?_))))
 refine Pm ?_
 refine Pa (XV underlying56 rfl rfl) (Pm ?_)
 refine Pb (Qg rfl) ?_
 refine Pb (Qf rfl) ?_
 refine Pb (Ga underlying109 sizeOf4) ?_
 refine Pb (La o4) ?_
 refine Pa (Qo rfl rfl) (Pm ?_)
 refine QE 11 rfl (fun hg11 => ?_) (fun hg11 => ?_)
 try simp only [dx] at hg11
 refine Pk (Pk (Pk (Pk (Pk ?_))))
 refine Pa (Qr rfl rfl) (Ps (Qe (hK2 _ _ _ (Qi (hret _ _ _ ?_)))))
 refine Ea results37 (.cons (Qh rfl) .nil) [ndB b v x, lgN b v x, dkB b.d v.u D] le_ ?_
 refine ⟨?_, rfl, rfl⟩; unfold Xm; simp_all [QF]
 try simp only [dx] at hg11
 refine Pb (Qg rfl) ?_
 refine Pb (Qf rfl) ?_
 refine Pb (Ga underlying109 sizeOf55) ?_
 refine Pb (La o55) ?_
 refine Pb (Ca call59 (hd)) ?_
 refine Pa (Qo rfl rfl) (Ps (Qe (hK2 _ _ _ ?_)))
 refine Ql (eL 2 rfl eN) ?_
 refine Qi (hret _ _ _ ?_)
 refine Ea results37 (.cons (Qh rfl) .nil) [ndB b v x, lgN b v x, dkB b.d v.u D] le_ ?_
 refine ⟨?_, rfl, rfl⟩; unfold Xm; simp_all [QF]
theorem yV {R : Hp} (b : NB) (v : NV) (x : ND) (hg : x.g.ok) (hv : FrX entE R x.g.all v.va) (i : Int) (hi : QM i) : QTri prog 91 [.pointer (some ⟨b.x, 0, none⟩), .int .u64 i] R [ndB b v x, lgN b v x] (.int .u64 (x.tAt i)) := by
 have ht := yW (R := R) b.l (some ⟨b.d, 0, none⟩) v.va x.g hg hv i hi
 refine Tri.q ?_
 unfold ndB ndC
 refine Qn func91 rfl ntmps91 rfl (fun σ F Q hret hend hpan => ?_)
 try simp only [cB]
 refine Qd fun K1 hK1 => Qc (Ps (Qe (hK1 _ _ _ (Qd fun K2 hK2 => Qc ?_))))
 refine Pm ?_
 refine Pa (Qf rfl) ?_
 refine Pa (Ga underlying109 sizeOf55) ?_
 refine Pa (La o55) (Pm ?_)
 refine Pa (Ca call100 (ht)) ?_
 refine Xg 13 rfl (v' := QF [.int .u64 ((x.g.termAt i).getD 0), .bool (x.g.termAt i).isSome]) (Qbg _) ?_
 refine Pm ?_
 refine Pa (Qq rfl rfl) ?_
 refine Pa (Qq rfl rfl) (Ps (Ps (Qe (hK2 _ _ _ (Qd fun K3 hK3 => Qc ?_)))))
 refine Pm (Ps (Qe (hK3 _ _ _ (Qi (hret _ _ _ ?_)))))
 refine Ea results91 (.cons (Qh rfl) .nil) [ndB b v x, lgN b v x] le_ ?_
 exact ⟨rfl, rfl, rfl⟩
theorem QgE {R : Hp} (b : NB) (v : NV) (x : ND) (k : Nat) (hk : k ≤ 100) (hx : NIn k x) : QTri prog 71 [.pointer (some ⟨b.x, 0, none⟩)] R [ndB b v x, lgN b v x] (.int .i64 (Zi x.id x.g.term)) := by
 have h1 := hx.term
 have h2 := hx.idn
 have hm : 0 ≤ (7 * (x.id : Int) + 3 * x.g.term) % 11 ∧ (7 * (x.id : Int) + 3 * x.g.term) % 11 < 11 := ⟨Int.emod_nonneg _ (by decide), Int.emod_lt_of_pos _ (by decide)⟩
 have ht := YV (R := R) b.l (some ⟨b.d, 0, none⟩) v.va x.g
 refine Tri.q ?_
 unfold ndB ndC
 refine Qn func71 rfl ntmps71 rfl (fun σ F Q hret hend hpan => ?_)
 try simp only [cB]
 refine Qd fun K1 hK1 => Qc (Ps (Qe (hK1 _ _ _ (Qd fun K2 hK2 => ?_))))
 refine Xr (by kernel_rfl) (by kernel_rfl) ?_
 refine Qa (Qg rfl) ?_
 refine Qa (Qf rfl) ?_
 refine Qa (Ga underlying109 sizeOf3) ?_
 refine Qa (La o3) ?_
 refine Qa ((Xp underlying3 underlying36 rfl (by (simp only [IntKind.min, IntKind.max, IntKind.signed, IntKind.bits, Bool.false_eq_true, ite_false, ite_true]; omega)))) ?_
 refine Qa ((Yld.to (u := .int .u64 (7 * (x.id : Int))) (Qd9 rfl rfl) (by rw [zb (by (simp only [IntKind.min, IntKind.max, IntKind.signed, IntKind.bits, Bool.false_eq_true, ite_false, ite_true]; omega))]))) ?_
 refine Qa (Qg rfl) ?_
 refine Qa (Qf rfl) ?_
 refine Qa (Ga underlying109 sizeOf55) ?_
 refine Qa (La o55) ?_
 refine Qa (Ca call24 (ht)) ?_
 refine Qa ((Yld.to (u := .int .u64 (3 * x.g.term)) (Qd9 rfl rfl) (by rw [zb (by (simp only [IntKind.min, IntKind.max, IntKind.signed, IntKind.bits, Bool.false_eq_true, ite_false, ite_true]; omega))]))) ?_
 refine Qa ((Zq rfl rfl (by omega))) ?_
 refine Qa ((Yld.to (u := .int .u64 ((7 * (x.id : Int) + 3 * x.g.term) % 11)) (zF rfl rfl (by decide)) (by rw [Int.tmod_eq_emod_of_nonneg (by omega)]))) ?_
 refine Qa ((Xp underlying36 underlying3 rfl (by (simp only [IntKind.min, IntKind.max, IntKind.signed, IntKind.bits, Bool.false_eq_true, ite_false, ite_true]; omega)))) ?_
 refine Qa ((Qt rfl rfl (by omega))) ?_
 refine Qa (Xj rfl) ?_
 refine Xb ?_
 refine hK2 _ _ _ ?_
 refine Ql (eL 2 rfl eN) ?_
 refine Qi (hret _ _ _ ?_)
 refine Ea results71 (.cons (Qh rfl) .nil) [ndB b v x, lgN b v x] le_ ?_
 exact ⟨rfl, rfl, rfl⟩
def NV.sent (v : NV) (vo : Value) (css : List (List Value)) : NV := { v with vo := vo, css := css }
theorem QbV {m : Msg} {ve : Value} (h : ve.oneCell' = true) : ∀ u ∈ QT m ve, u.oneCell' = true := fun u hu => by
 simp only [QT, List.mem_cons, List.not_mem_nil, or_false] at hu
 rcases hu with rfl | rfl | rfl | rfl | rfl | rfl | rfl | rfl | rfl | rfl <;> first | rfl | assumption
theorem Qkx {R : Hp} {l : List Msg} {css : List (List Value)} (h : Els msgE R l css) : css.flatten.length = l.length * 10 := h.flat
theorem QnV (css : List (List Value)) (c : List Value) : css.flatten ++ c = (css ++ [c]).flatten := by simp
theorem QaI {R : Hp} (b : NB) (v : NV) (x : ND) (m : Msg) (ve : Value) (ho : Els msgE R x.out v.css) (hvo : v.vo.oneCell' = true) (hl : x.out.length ≤ 100000) (hve : FrX entE R m.es ve) :
  Tri prog 90 [.pointer (some ⟨b.x, 0, none⟩), .agg ⟨QT m ve⟩] R [ndB b v x, lgN b v x, XQ v x]
   (fun r R' L' => ∃ vo css, Els msgE R' (x.send m).out css ∧ vo.oneCell' = true ∧ L' = [ndB b (v.sent vo css) (x.send m), lgN b (v.sent vo css) (x.send m), XQ (v.sent vo css) (x.send m)]) := by
 have hveo := hve.one
 have hfl := Qkx ho
 refine Qn func90 rfl ntmps90 rfl (fun σ F Q hret hend hpan => ?_)
 try simp only [cB]
 unfold ndB ndC lgN lgB lgC at *
 unfold XQ
 refine Qd fun K1 hK1 => Qc ?_
 refine Xa (wn0 rfl) rfl rfl rfl (fun b3 => ?_)
 refine Qe (hK1 _ _ _ (Qd fun K2 hK2 => ?_))
 refine Xd (L := [blk b.x (ndC b v x) 109, lgN b v x]) [0, 1, 2, 3, 4, 5, 6, 7, 8, 9] [] [10, 11, 12] _ sb_ (by kernel_rfl) (by kernel_rfl) (by kernel_rfl) rfl ?_
 refine Wa rfl (fun R1 hR1 G => (Qg rfl)) ?_
 refine Wa rfl (fun R1 hR1 G => (Qf rfl)) ?_
 refine Wa rfl (fun R1 hR1 G => (Ga underlying109 sizeOf3)) ?_
 refine Wa rfl (fun R1 hR1 G => (La o3)) ?_
 refine Wa rfl (fun R1 hR1 G => (Qg rfl)) ?_
 refine Wa rfl (fun R1 hR1 G => (Qf rfl)) ?_
 refine Wa rfl (fun R1 hR1 G => (Ga underlying109 sizeOf55)) ?_
 refine Wa rfl (fun R1 hR1 G => (La o55)) ?_
 refine Wa rfl (fun R1 hR1 G => (Ca call24 (YV b.l (some ⟨b.d, 0, none⟩) v.va x.g))) ?_
 refine Wa rfl (fun R1 hR1 G => (Ga underlying117 sizeOf3)) ?_
 refine Xc ?_
 refine Xe ?_
 try simp only [cC]
 refine Sa o3 ?_
 refine Pa (Ga underlying117 sizeOf36) ?_
 refine Sa o36 ?_
 refine Qe (hK2 _ _ _ ?_)
 refine Xd (L := [blk b3 (QT { m with frm := x.id, term := x.g.term } ve) 117, blk b.x (ndC b v x) 109]) [0, 1, 2, 3, 4, 5] [6, 7] [8, 9, 10] _ sb_ (by kernel_rfl) (by kernel_rfl) (by kernel_rfl) rfl ?_
 refine Wa rfl (fun R1 hR1 G => (Qg rfl)) ?_
 refine Wa rfl (fun R1 hR1 G => (Qg rfl)) ?_
 refine Wa rfl (fun R1 hR1 G => (Qf rfl)) ?_
 refine Wa rfl (fun R1 hR1 G => (Ga underlying109 sizeOf98)) ?_
 refine Wa rfl (fun R1 hR1 G => (La o98)) ?_
 refine Wa rfl (fun R1 hR1 G => (Lm (vs := QT { m with frm := x.id, term := x.g.term } ve) XO)) ?_
 refine Xc ?_
 refine QH rfl ?_
 try simp only [cC]
 refine Qz (sz := 10) (wn0 rfl) rfl underlying98 sizeOf117 zeroValue117 rfl rfl rfl (by decide) (by decide) (fun b21 => ?_)
 refine QI le_ sb_ ?_
 refine QH rfl ?_
 try simp only [cC]
 refine XF (sz := 10) (by_ := 104) ⟨underlying98, _, _, rfl, rfl, rfl, rfl, rfl⟩ (wn0 rfl) rfl rfl rfl fd_ (YT (xs := QT { m with frm := x.id, term := x.g.term } ve) underlying98 fd_ (QbV hveo)) rfl om_ (by simp only [maxLen]; omega) (fun v22 ho22 hh22 => ?_)
 rw [QnV]
 refine QI le_ sb_ ?_
 refine Xe ?_
 try simp only [cC]
 refine Pa (Qf rfl) ?_
 refine Pa (Ga underlying109 sizeOf98) ?_
 refine Sa o98 ?_
 refine Qe (hend _ _ _ ?_)
 have hok : Els msgE R (x.send m).out (v.css ++ [QT { m with frm := x.id, term := x.g.term } ve]) := ho.snoc (y := { m with frm := x.id, term := x.g.term }) ⟨ve, rfl, hve⟩
 have hlen : (x.send m).out.length = x.out.length + 1 := by simp [ND.send]
 apply QD results90 .nil _ [ndB b (v.sent v22 (v.css ++ [QT { m with frm := x.id, term := x.g.term } ve])) (x.send m), lgN b (v.sent v22 (v.css ++ [QT { m with frm := x.id, term := x.g.term } ve])) (x.send m), slc 117 10 v22 (x.out.length + 1) (v.css ++ [QT { m with frm := x.id, term := x.g.term } ve]).flatten] (by first | exact Hp.le_refl _ | assumption) rfl
 case hp => exact ⟨v22, _, hok, by assumption, by rw [← hlen]; rfl⟩
 case hS => exact sb_
theorem yz {R : Hp} (b : NB) (v : NV) (x : ND) (m : Msg) (ve : Value) (ok : Bool) (i : Int) (ho : Els msgE R x.out v.css) (hvo : v.vo.oneCell' = true) (hl : x.out.length ≤ 100000) (hve : ve.oneCell' = true) :
  Tri prog 97 [.pointer (some ⟨b.x, 0, none⟩), .agg ⟨QT m ve⟩, .bool ok, .int .u64 i] R [ndB b v x, lgN b v x, XQ v x]
   (fun r R' L' => ∃ vo css, Els msgE R' (x.answer m ok i).out css ∧ vo.oneCell' = true ∧ L' = [ndB b (v.sent vo css) (x.answer m ok i), lgN b (v.sent vo css) (x.answer m ok i), XQ (v.sent vo css) (x.answer m ok i)]) := by
 refine Qn func97 rfl ntmps97 rfl (fun σ F Q hret hend hpan => ?_)
 try simp only [cB]
 refine Qd fun K1 hK1 => Qc ?_
 refine Xa (wn0 rfl) rfl rfl rfl (fun b5 => ?_)
 refine Qe (hK1 _ _ _ (Qc (Pm ?_)))
 refine Pa (Ga underlying117 sizeOf3) ?_
 refine Pa (La o3) (Pm (Pm ?_))
 refine Pa (QV (cells := [_, _, _, _, _, _, _, _, _, _]) [(0, 1), (1, 1), (2, 1), (3, 1), (4, 1), (5, 1), (6, 1), (7, 1), (8, 1), (9, 1)] underlying117 zeroValue117 (fun _ => rfl) rfl rfl) ?_
 refine Ra call90 (QaI b v x { Msg.zero with kind := 3, to := m.frm, ok := ok, index := i } (.slice none 0 0) ho hvo hl FrX.nil) ?_
 rintro r R2 L' hR2 ⟨vo, css, hels, hvo2, rfl⟩
 try simp only [cB]
 refine Qe (hend _ _ _ ?_)
 apply QD results97 .nil _ [ndB b (v.sent vo css) (x.answer m ok i), lgN b (v.sent vo css) (x.answer m ok i), XQ (v.sent vo css) (x.answer m ok i)] hR2 rfl
 case hp => exact ⟨vo, css, hels, hvo2, rfl⟩
 case hS => exact sb_
theorem yp (l : List (Int × Int)) (k : Nat) (z : Int) (hz : z = k) (hk : k < l.length) : nth (Xv l) (z.toNat * 2 + 0) = some (.int .u64 (l.getD k (0, 0)).1) ∧ nth (Xv l) (z.toNat * 2 + 1) = some (.int .u64 (l.getD k (0, 0)).2) := by
 subst hz
 have hc : (l.map Qcp)[k]? = some (Qcp (l.getD k (0, 0))) := by rw [List.getElem?_map, List.getElem?_eq_getElem hk]; simp [List.getD_eq_getElem?_getD, List.getElem?_eq_getElem hk]
 have h4 : ∀ c ∈ l.map Qcp, c.length = 2 := fun c hc => by obtain ⟨p, _, rfl⟩ := List.mem_map.1 hc; rfl
 rw [show ((k : Nat) : Int).toNat = k by simp]
 exact ⟨by rw [Qbh]; exact Qb5 h4 hc rfl, by rw [Qbh]; exact Qb5 h4 hc rfl⟩
theorem zW (l : List (Int × Int)) : (Xv l).length = l.length * 2 := by
 unfold Xv
 rw [Qb4 (n := 2) (fun c hc => by obtain ⟨p, _, rfl⟩ := List.mem_map.1 hc; rfl), List.length_map]
theorem LG.at_k (g : LG) (k : Nat) : g.at (g.base + 1 + k) = g.all[k]? := by
 by_cases hk : k < g.all.length
 ·rw [List.getElem?_eq_getElem hk]; exact g.at_i (List.getElem?_eq_getElem hk)
 ·rw [List.getElem?_eq_none (by omega)]
  unfold LG.at LG.last
  rw [if_neg (by omega)]
theorem Qak (o : Option Ent) : ∃ (e : Ent) (ok : Bool), Qkw o = QF [.agg ⟨Yu e⟩, .bool ok] ∧ (ok = true → o = some e) ∧ (ok = false → o = none) := by
 cases o with
 | none => exact ⟨(0, []), false, rfl, by simp, by simp⟩
 | some e => exact ⟨e, true, rfl, by simp, by simp⟩
theorem zC {x : ND} {to : Nat} (h : x.nxt to ≤ x.g.base) : x.feedMsg to = { Msg.zero with kind := 4, to := to, index := x.g.base, logTerm := x.g.baseT, state := x.g.state } := by unfold ND.feedMsg; rw [if_pos h]
theorem ji {x : ND} {to : Nat} (h : ¬ x.nxt to ≤ x.g.base) : x.feedMsg to = { Msg.zero with kind := 2, to := to, index := x.nxt to - 1, logTerm := x.tAt (x.nxt to - 1), commit := x.commit, es := (x.g.all.drop (x.nxt to - x.g.base - 1).toNat).take 8 } := by unfold ND.feedMsg; rw [if_neg h]
theorem Qfq {R : Hp} (b : NB) (v : NV) (x : ND) (k : Nat) (hk : k ≤ 90) (hx : NIn k x) (hv : NOk R v x) (to : Nat) (hto : to < x.peers.length) :
  Tri prog 70 [.pointer (some ⟨b.x, 0, none⟩), .int .i64 (to : Int)] R [ndB b v x, lgN b v x, prA v x, XQ v x]
   (fun r R' L' => ∃ vo css, Els msgE R' (x.feed to).out css ∧ vo.oneCell' = true ∧ L' = [ndB b (v.sent vo css) (x.feed to), lgN b (v.sent vo css) (x.feed to), prA (v.sent vo css) (x.feed to), XQ (v.sent vo css) (x.feed to)]) := by
 have hg := hx.g (by omega)
 have hva := hv.va
 have ho := hx.out
 have hpm : x.peers.getD to (0, 0) ∈ x.peers := by rw [List.getD_eq_getElem?_getD, List.getElem?_eq_getElem hto]; simp
 obtain ⟨hp1, hp2⟩ := hx.peer _ hpm
 replace hp1 : 1 ≤ x.nxt to ∧ x.nxt to ≤ 200000000000000 := hp1
 have hnx : nth (Xv x.peers) (((to : Nat) : Int).toNat * 2 + 0) = some (.int .u64 (x.nxt to)) := (yp x.peers to _ rfl hto).1
 have hb := hx.base
 refine Qn func70 rfl ntmps70 rfl (fun σ F Q hret hend hpan => ?_)
 try simp only [cB]
 unfold ndB ndC
 refine Qd fun K1 hK1 => Qc (Pm ?_)
 refine Pa (Qf rfl) ?_
 refine Pa (Ga underlying109 sizeOf107) ?_
 refine Pa (La Qc8) (Pm ?_)
 refine Pa (XA underlying107 sizeOf161 rfl rfl fd_ om_) ?_
 refine Pa ((Zw (k := 0) underlying161 rfl (m := 1) (by decide) sizeOf36 rfl fd_ (by omega))) ?_
 refine Pa ((XD o36 rfl fd_ hnx)) (Ps (Qe (hK1 _ _ _ (Qd fun K2 hK2 => Qc ?_))))
 refine Pm ?_
 refine Pa (Qf rfl) ?_
 refine Pa (Ga underlying109 sizeOf55) ?_
 refine Pa (La o55) ?_
 refine Pa (Ca call25 (yw b.l (some ⟨b.d, 0, none⟩) v.va x.g)) (Pm ?_)
 refine Pa (Qq rfl rfl) ?_
 refine Pa (Qq rfl rfl) ?_
 refine Pa (Qq rfl rfl) (Ps (Ps (Ps (Qe (hK2 _ _ _ ?_)))))
 refine Ql (eL 0 rfl (eL 1 rfl (eL 4 rfl (eL 5 rfl (eL 6 rfl (eL 7 rfl eN)))))) ?_
 refine Qd fun K3 hK3 => Qd fun K4 hK4 => Qc (Pm (Pm ?_))
 refine Pa (zG rfl rfl) (Qe (hK4 _ _ _ ?_))
 refine Qm rfl (fun hc31 => ?_) (fun hc31 => ?_)
 have f1 : x.nxt to ≤ x.g.base := by simpa using hc31
 have e1 := zC f1
 refine Qd fun K6 hK6 => Qc (Pm (Pm (Pm (Pm (Pm ?_)))))
 refine Pa (QV (cells := [_, _, _, _, _, _, _, _, _, _]) [(0, 1), (1, 1), (2, 1), (3, 1), (4, 1), (5, 1), (6, 1), (7, 1), (8, 1), (9, 1)] underlying117 zeroValue117 (fun _ => rfl) rfl rfl) ?_
 refine Ra call90 (QaI b v x { Msg.zero with kind := 4, to := to, index := x.g.base, logTerm := x.g.baseT, state := x.g.state } (.slice none 0 0) hv.out hv.vo (by omega) FrX.nil) ?_
 rintro r R2 L' hR2 ⟨vo, css, hels, hvo2, rfl⟩
 rw [← e1] at hels ⊢
 try simp only [cB]
 refine Qe (hK6 _ _ _ ?_)
 refine Ql eN ?_
 refine Qi (hret _ _ _ ?_)
 apply XL results70 .nil _ [ndB b (v.sent vo css) (x.feed to), lgN b (v.sent vo css) (x.feed to), prA (v.sent vo css) (x.feed to), XQ (v.sent vo css) (x.feed to)] hR2 rfl
 case hp => exact ⟨vo, css, hels, hvo2, rfl⟩
 case hS => exact sb_
 have f1 : ¬ x.nxt to ≤ x.g.base := by simpa using hc31
 have e1 := ji f1
 obtain ⟨s, hs⟩ : ∃ s : Nat, x.nxt to = x.g.base + 1 + s := ⟨(x.nxt to - x.g.base - 1).toNat, by omega⟩
 have hs2 : (x.nxt to - x.g.base - 1).toNat = s := by omega
 rw [hs2] at e1
 refine Qj (hK3 _ _ _ (Qd fun K7 hK7 => ?_))
 refine Xd (L := [blk b.x (ndC b v x) 109, lgN b v x]) [0, 1, 2, 3, 4, 5, 6, 7, 8, 9, 10, 11] [12] [13] _ sb_ (by kernel_rfl) (by kernel_rfl) (by kernel_rfl) rfl ?_
 refine Wa rfl (fun R1 hR1 G => (Qg rfl)) ?_
 refine Wa rfl (fun R1 hR1 G => (Qg rfl)) ?_
 refine Wa rfl (fun R1 hR1 G => (ZE rfl rfl (by omega))) ?_
 refine Wa rfl (fun R1 hR1 G => (Qg rfl)) ?_
 refine Wa rfl (fun R1 hR1 G => (Qg rfl)) ?_
 refine Wa rfl (fun R1 hR1 G => (ZE rfl rfl (by omega))) ?_
 refine Wa rfl (fun R1 hR1 G => (Ca call91 (yV b v x hg (hva.mono hR1) (x.nxt to - 1) (by unfold QM; omega)))) ?_
 refine Wa rfl (fun R1 hR1 G => (Qg rfl)) ?_
 refine Wa rfl (fun R1 hR1 G => (Qf rfl)) ?_
 refine Wa rfl (fun R1 hR1 G => (Ga underlying109 sizeOf36)) ?_
 refine Wa rfl (fun R1 hR1 G => (La o36)) ?_
 refine Wa rfl (fun R1 hR1 G => (QV (cells := [_, _, _, _, _, _, _, _, _, _]) [(0, 1), (1, 1), (2, 1), (3, 1), (4, 1), (5, 1), (6, 1), (7, 1), (8, 1), (9, 1)] underlying117 zeroValue117 (fun _ => rfl) rfl rfl)) ?_
 refine Xc ?_
 refine QH rfl ?_
 try simp only [cC]
 refine QA (wn0 rfl) rfl zeroValue117 rfl (fun b8 => ?_)
 refine QI le_ sb_ ?_
 refine Xe ?_
 try simp only [cC]
 refine Qu XO rfl (wn0 rfl) rfl rfl (by (first | (simp [Value.oneCell']; done) | (intro u hu; simp only [List.mem_cons, List.not_mem_nil, or_false] at hu; rcases hu with rfl | rfl | rfl | rfl <;> first | rfl | assumption))) fd_ (by (simp)) rfl ?_
 refine Qe (hK7 _ _ _ ?_)
 refine Ql (eL 0 rfl (eL 4 rfl (eL 8 rfl eN))) ?_
 refine Qd fun K8 hK8 => ?_
 have hJ11 : ∀ (x2 : Nat × Value), x2.2.oneCell' = true ∧ (x.g.all.drop s).take x2.1 = (x.g.all.drop s).take 8 → EJ ⟨prog, 78, σ⟩ K8 [(0, .pointer (some ⟨b.x, 0, none⟩)), (8, .pointer (some ⟨b8, 0, none⟩))] R (slc 93 2 x2.2 ((x.g.all.drop s).take x2.1).length (Yt ((x.g.all.drop s).take x2.1)) :: blk b8 (QT { Msg.zero with kind := 2, to := to, index := x.nxt to - 1, logTerm := x.tAt (x.nxt to - 1), commit := x.commit, es := [] } x2.2) 117 :: ndB b v x :: lgN b v x :: prA v x :: XQ v x :: F) := by
  rintro ⟨j, vl⟩ ⟨hvl, hfin⟩
  try dsimp only
  dsimp only at hvl hfin
  refine Qjf (e := 93) (sz := 2) (n := ((x.g.all.drop s).take j).length) (v := vl) (xs := Yt ((x.g.all.drop s).take j)) fd_ (fun R3 hR3 hfr hxl => ?_)
  have hfx := Qa4 hfr
  rw [hfin] at hfx
  refine hK8 _ _ _ (Qc (Pm ?_))
  refine Pa ((Lm (vs := QT { Msg.zero with kind := 2, to := to, index := x.nxt to - 1, logTerm := x.tAt (x.nxt to - 1), commit := x.commit, es := (x.g.all.drop s).take 8 } vl) XO)) ?_
  refine Ra call90 (QaI b v x { Msg.zero with kind := 2, to := to, index := x.nxt to - 1, logTerm := x.tAt (x.nxt to - 1), commit := x.commit, es := (x.g.all.drop s).take 8 } vl (hv.mono hR3).out hv.vo (by omega) hfx) ?_
  rintro r R4 L' hR4 ⟨vo, css, hels, hvo2, rfl⟩
  rw [← e1] at hels ⊢
  try simp only [cB]
  refine Qe (hend _ _ _ ?_)
  apply QD results70 .nil _ [ndB b (v.sent vo css) (x.feed to), lgN b (v.sent vo css) (x.feed to), prA (v.sent vo css) (x.feed to), XQ (v.sent vo css) (x.feed to)] (by exact Hp.le_trans hR3 hR4) rfl
  case hp => exact ⟨vo, css, hels, hvo2, rfl⟩
  case hS => exact sb_
 refine Qd fun K9 hK9 => Qc ?_
 refine YR (A := slc 93 2 (.slice none 0 0) 0 (Yt ([] : List Ent))) (Yr _ _) ?_
 refine Pa ((Yld.to (u := .int .u64 (x.nxt to + ((0 : Nat) : Int))) (Qg rfl) (by simp))) (Ps (Qe (hK9 _ _ _ (Qp ?_))))
 refine Ql (E' := (fun (x1 : Nat × Value) => [(0, .pointer (some ⟨b.x, 0, none⟩)), (8, .pointer (some ⟨b8, 0, none⟩)), (9, .int .u64 (x.nxt to + x1.1))]) (0, .slice none 0 0)) (eC rfl (eC rfl (eC rfl eN))) ?_
 refine Xi (M := (fun (x1 : Nat × Value) => slc 93 2 x1.2 ((x.g.all.drop s).take x1.1).length (Yt ((x.g.all.drop s).take x1.1)) :: blk b8 (QT { Msg.zero with kind := 2, to := to, index := x.nxt to - 1, logTerm := x.tAt (x.nxt to - 1), commit := x.commit, es := [] } x1.2) 117 :: ndB b v x :: lgN b v x :: prA v x :: XQ v x :: F) (0, .slice none 0 0)) sb_ ?_
 refine QY (fun (x1 : Nat × Value) => [(0, .pointer (some ⟨b.x, 0, none⟩)), (8, .pointer (some ⟨b8, 0, none⟩)), (9, .int .u64 (x.nxt to + x1.1))]) (fun (x1 : Nat × Value) => R) (fun (x1 : Nat × Value) => slc 93 2 x1.2 ((x.g.all.drop s).take x1.1).length (Yt ((x.g.all.drop s).take x1.1)) :: blk b8 (QT { Msg.zero with kind := 2, to := to, index := x.nxt to - 1, logTerm := x.tAt (x.nxt to - 1), commit := x.commit, es := [] } x1.2) 117 :: ndB b v x :: lgN b v x :: prA v x :: XQ v x :: F) (fun (x1 : Nat × Value) => x1.1 ≤ 8 ∧ ((x.g.all.drop s).take x1.1).length = x1.1 ∧ x1.2.oneCell' = true) (fun (x1 : Nat × Value) => 8 - x1.1) (0, .slice none 0 0) (⟨by simp, by simp, rfl⟩) ?_
 rintro ⟨j, vl⟩ ⟨hj, hjl, hvl⟩
 try dsimp only
 dsimp only at hj hjl hvl
 refine Qd fun K10 hK10 => Qd fun K11 hK11 => Qc ?_
 refine Pa (Ga underlying117 sizeOf76) ?_
 refine Pa (La o76) ?_
 refine Pa (YE underlying76 rfl fd_) ?_
 refine Pa (QO rfl rfl) (Qe (hK11 _ _ _ ?_))
 refine Qm rfl (fun hc55 => ?_) (fun hc55 => ?_)
 try simp only [dx] at hc55
 refine Qj (hK10 _ _ _ (Qd fun K13 hK13 => Qp (Qd fun K14 hK14 => Qc ?_)))
 have hj8 : j < 8 := by rw [hjl] at hc55; (try simp at hc55); omega
 have hal := hx.alln
 have hat := Qcu (R := R) b.l (some ⟨b.d, 0, none⟩) v.va x.g hg hva (x.nxt to + j) (by unfold QM; omega)
 rw [show x.g.at (x.nxt to + (j : Int)) = x.g.all[s + j]? by rw [show x.nxt to + (j : Int) = x.g.base + 1 + ((s + j : Nat) : Int) by omega, LG.at_k]] at hat
 obtain ⟨e, ok, hev, hok1, hok2⟩ := Qak (x.g.all[s + j]?)
 refine Pm ?_
 refine Pa (Qf rfl) ?_
 refine Pa (Ga underlying109 sizeOf55) ?_
 refine Pa (La o55) (Pm ?_)
 refine Pa (Ca call40 (hat)) ?_
 refine Xg 64 rfl (v' := QF [.agg ⟨Yu e⟩, .bool ok]) hev ?_
 refine Pm ?_
 refine Pa (Qq rfl rfl) ?_
 refine Pa (Qq rfl rfl) ?_
 refine QA (wn0 rfl) rfl zeroValue93 rfl (fun b10 => ?_)
 refine Sm (vs := Yu e) m93 (entE.one (R := R) (x := e) rfl) ?_
 refine Ps (Qe (hK14 _ _ _ ?_))
 refine Ql (eL 0 rfl (eL 8 rfl (eL 9 rfl (eL 10 rfl (eL 11 rfl eN))))) ?_
 refine Qd fun K15 hK15 => Qd fun K16 hK16 => Qc (Pm ?_)
 refine Pa (Yq rfl) (Qe (hK16 _ _ _ ?_))
 refine Qm rfl (fun hc68 => ?_) (fun hc68 => ?_)
 have hnone : x.g.all[s + j]? = none := hok2 (by simpa using hc68)
 have hlen : x.g.all.length ≤ s + j := by rw [List.getElem?_eq_none_iff] at hnone; exact hnone
 have hfin : (x.g.all.drop s).take j = (x.g.all.drop s).take 8 := by rw [List.take_of_length_le (by simp; omega), List.take_of_length_le (by simp; omega)]
 refine QL ?_
 refine QG hJ11 ((j, vl)) (⟨hvl, hfin⟩) (eC rfl (eC rfl eN)) rfl sb_
 have hsome : x.g.all[s + j]? = some e := hok1 (by simpa using hc68)
 have hlen : s + j < x.g.all.length := (List.getElem?_eq_some_iff.1 hsome).1
 have htk : ((x.g.all.drop s).take (j + 1)).length = j + 1 := by simp; omega
 have hdr : (x.g.all.drop s)[j]? = some e := by rw [List.getElem?_drop]; exact hsome
 refine Qj (hK15 _ _ _ (Qc ?_))
 refine Pa (Ga underlying117 sizeOf76) ?_
 refine Pa (La o76) ?_
 refine Pa ((Lm (vs := Yu e) m93)) ?_
 refine Qz (sz := 2) (wn0 rfl) rfl underlying76 sizeOf93 zeroValue93 rfl rfl rfl (by decide) (by decide) (fun b72 => ?_)
 refine XF (sz := 2) (by_ := 24) ⟨underlying76, _, _, rfl, rfl, rfl, rfl, rfl⟩ (wn0 rfl) rfl rfl rfl fd_ (YT (xs := Yu e) underlying76 fd_ (entE.one (R := R) (x := e) rfl)) rfl om_ (by simp only [maxLen]; omega) (fun v73 ho73 hh73 => ?_)
 rw [show Yt ((x.g.all.drop s).take j) ++ Yu e = Yt ((x.g.all.drop s).take (j + 1)) by unfold Yt; rw [QbW hdr]; simp, show ((x.g.all.drop s).take j).length + 1 = ((x.g.all.drop s).take (j + 1)).length by rw [htk, hjl]]
 refine Pa (Ga underlying117 sizeOf76) ?_
 refine Sa o76 ?_
 refine Qe (hK13 _ _ _ (Qc (Pm ?_)))
 refine Pa ((Yld.to (u := .int .u64 (x.nxt to + ((j + 1 : Nat) : Int))) (Zq rfl rfl (by omega)) (by congr 1; omega))) ?_
 refine Ps (Qe ?_)
 refine Xl (q' := QS _ _ _ _ _ _ _) rfl ?_
 refine QC ((j + 1, v73)) (⟨by dsimp only; omega, htk, by assumption⟩) (by dsimp only; omega) (eC rfl (eC rfl (eC rfl eN))) rfl sb_
 have hfin : (x.g.all.drop s).take j = (x.g.all.drop s).take 8 := by rw [hjl] at hc55; rw [show j = 8 by (try simp at hc55); omega]
 refine QL ?_
 refine QG hJ11 ((j, vl)) (⟨hvl, hfin⟩) (eC rfl (eC rfl eN)) rfl sb_
theorem Qip (L F : List Asn) : Split (L ++ F) L F := by
 induction L with
 | nil => exact .nil _
 | cons A L ih => exact .cons (.head _) ih
section
variable {c : Cx} {ops : Array Oper} {Q : Exit → Act → World → Prop} {E : Env} {R : Hp} {L : List Asn} {rest : List Oper} {ty : TypeId} {p : String} {af : Array Edge} {g : Option (Nat × Bool)}
theorem Qit {a : Act} {w : World} {d : Option Tmp} {f : FuncId} {x : Operand} {xs : List Operand} {ts : Array TypeId} {fs vs cs : List Value} (hx : a.eval x = .func (.func f) ⟨fs⟩ ⟨cs⟩) (hc : ∀ args w, (callFunc f args).run c.P w = .ok (.enter f args) w)
  (hv : xs.map a.eval = vs) : (execOp a.eval ⟨d, .call { callee := .value x, args := ⟨xs⟩, argTypes := ts }, ty, p, af, g⟩).run c.P w = .ok (.enter f ⟨fs ++ vs ++ cs⟩) w := by
 have e : (Array.mk xs).map a.eval = ⟨vs⟩ := by rw [← hv]; simp
 have e2 : (Array.mk fs) ++ (Array.mk vs) ++ (Array.mk cs) = ⟨fs ++ vs ++ cs⟩ := by simp
 simp [execOp, resolve, hx, Deferred.ofValue, invoke, e, hc]
theorem QeR {d : Nat} {f : FuncId} {x : Operand} {xs : List Operand} {ts : Array TypeId} {fs vs cs : List Value} {pre F : List Asn} {post : Value → Hp → List Asn → Prop} {pan : List PanicEntry → Hp → List Asn → Prop}
  (hw : Wn c ops E ⟨some d, .call { callee := .value x, args := ⟨xs⟩, argTypes := ts }, ty, p, af, g⟩ true) (hn : Nat.blt d c.n = true) (hx : ev E x = some (.func (.func f) ⟨fs⟩ ⟨cs⟩)) (hc : ∀ args w, (callFunc f args).run c.P w = .ok (.enter f args) w)
  (hv : evs E xs = some vs) (ht : Tri c.P f (fs ++ vs ++ cs) R pre post pan) (hs : Split L pre F)
  (hp : ∀ ch R' L', R.le R' → pan ch R' L' → EJ c (Q (.panic ch)) E R' (L' ++ F))
  (h : ∀ v R' L', R.le R' → post v R' L' → RJ c ops Q rest ((d, v) :: E) R' (L' ++ F)) :
  RJ c ops Q (⟨some d, .call { callee := .value x, args := ⟨xs⟩, argTypes := ts }, ty, p, af, g⟩ :: rest) E R L := by
 intro a w hf hsat
 unfold wpList
 rw [if_pos (hw a hf)]
 refine .inl ?_
 unfold Oper.wp
 rw [Qit (hf.ev hx) hc (hf.evs hv)]
 simp only [Oper.upon]
 refine (ht _ _ _ (hs.sat hsat)).mono fun e w' ⟨R', L', hR, hw', hpost⟩ => ?_
 cases e with
 | returned v => exact h v R' L' hR hpost _ _ (hf.put hn v) hw'
 | panicked ch => exact hp ch R' L' hR hpost _ _ hf hw'
 | outgrown => exact hpost.elim
end
theorem Qjj {c : Cx} {fn : Func} {σ : World} {R0 : Hp} {F : List Asn} {post : Value → Hp → List Asn → Prop} {pan : List PanicEntry → Hp → List Asn → Prop} {Q : Exit → Act → World → Prop}
  {i j k d : Nat} {l1 l2 : List Oper} {g : FuncId} {cap : List Operand} {ts : Array TypeId} {cs : List Value} {ty ty1 : TypeId} {p p1 : String} {af af1 : Array Edge} {E : Env} {R : Hp} {L : List Asn}
  (hQ : ∀ e a w, Qh7 c.P fn σ R0 F post pan e a w → Q e a w) (hn : Nat.blt d c.n = true) (hv : evs E cap = some cs)
  (h : RJ c l1.toArray (Exit.then (fun a w => wpList c.P l2.toArray (Qcj c.P fn (Qcc σ R0 F post pan) { target := .fn (.func g) ⟨cs⟩, args := #[] }) l2 a w) (Qcj c.P fn (Qcc σ R0 F post pan) { target := .fn (.func g) ⟨cs⟩, args := #[] })) l1 ((d, .func (.func g) ⟨[]⟩ ⟨cs⟩) :: E) R L) :
  CJ c (.seq (.region i #[⟨some d, .makeFunc (.func g) #[] ⟨cap⟩, ty1, p1, af1, none⟩, ⟨none, .defer { callee := .value (.tmp d), args := #[], argTypes := ts }, ty, p, af, none⟩] false) (.seq (.region j l1.toArray false) (.seq (.region k l2.toArray false) .ret))) Q E R L := by
 intro a w hf hs
 refine wp_seq ?_
 refine wp_region_lit (l := [_, _]) ?_
 unfold wpList
 rw [if_pos (wn0 rfl a hf)]
 refine .inl ?_
 have hm := YB (c := c) (E := E) (R := R) (L := L) (ty := ty1) (p := p1) (af := af1) (g := none) (d := some d) (fn := .func g) (first := []) (cap := cap) (fs := []) (cs := cs) rfl hv a w hf hs
 have r0 : (execOp a.eval ⟨some d, .makeFunc (.func g) #[] ⟨cap⟩, ty1, p1, af1, none⟩).run c.P w = .ok (.value (.func (.func g) ⟨[]⟩ ⟨cs⟩)) w := by
  have e2 : (Array.mk cap).map a.eval = ⟨cs⟩ := by rw [← hf.evs hv]; simp
  simp [execOp, Instr.makeFunc, e2]
 unfold Oper.wp
 rw [r0]
 simp only [Oper.upon]
 have hf1 := hf.put hn (.func (.func g) ⟨[]⟩ ⟨cs⟩)
 unfold wpList
 rw [if_pos (wn0 rfl _ hf1)]
 refine .inl ?_
 have r : (execOp (a.put (some d) (.func (.func g) ⟨[]⟩ ⟨cs⟩)).eval ⟨none, .defer { callee := .value (.tmp d), args := #[], argTypes := ts }, ty, p, af, none⟩).run c.P w = .ok (.defer { target := .fn (.func g) ⟨cs⟩, args := #[] }) w := by
  have := hf1.ev (x := .tmp d) (v := .func (.func g) ⟨[]⟩ ⟨cs⟩) (by simp [ev, lk])
  simp [execOp, resolve, this, Deferred.ofValue]
 unfold Oper.wp
 rw [r]
 simp only [Oper.upon]
 show (Code.seq (.region j l1.toArray false) (.seq (.region k l2.toArray false) .ret)).wp c.P Q _ w
 refine wp_seq ?_
 refine wp_region_lit ?_
 have hd := hf1.dfs
 generalize a.put (some d) (.func (.func g) ⟨[]⟩ ⟨cs⟩) = a1 at hf1 hd ⊢
 have e1 : (({ a1 with defers := { target := .fn (.func g) ⟨cs⟩, args := #[] } :: a1.defers } : Act).put none undef) = under [{ target := .fn (.func g) ⟨cs⟩, args := #[] }] a1 := by
  simp [Act.put, under, hd]
 rw [e1]
 have key : ∀ (e : Exit) (a' : Act) (w' : World), Qcj c.P fn (Qcc σ R0 F post pan) { target := .fn (.func g) ⟨cs⟩, args := #[] } e a' w' → e ≠ .normal → Q e (under [{ target := .fn (.func g) ⟨cs⟩, args := #[] }] a') w' := by
  intro e a' w' hq hne
  cases e with
  | normal => exact absurd rfl hne
  | panic ch =>
   obtain ⟨h1, h2⟩ := hq
   refine hQ _ _ _ ?_
   show Leaves _ _ _ _ (a'.defers ++ _) _ _
   rw [h1]; exact h2
  | ret => exact hq.elim
  | outgrown => exact hq.elim
  | exit id => exact hq.elim
  | goto l => exact hq.elim
 refine qX ?_ l1 a1 w (h a1 w hf1 hs)
 intro e a' w' hq
 cases e with
 | normal =>
  show (Code.seq (.region k l2.toArray false) .ret).wp c.P Q _ w'
  refine wp_seq ?_
  refine wp_region_lit ?_
  refine qX ?_ l2 a' w' hq
  intro e a' w' hq
  cases e with
  | normal =>
   obtain ⟨h1, h2⟩ := hq
   refine wp_ret (hQ _ _ _ ?_)
   show Leaves _ _ _ _ (a'.defers ++ _) _ _
   rw [h1]; exact h2
  | panic ch => exact key _ _ _ hq (by simp)
  | ret => exact hq.elim
  | outgrown => exact hq.elim
  | exit id => exact hq.elim
  | goto l => exact hq.elim
 | panic ch => exact key _ _ _ hq (by simp)
 | ret => exact hq.elim
 | outgrown => exact hq.elim
 | exit id => exact hq.elim
 | goto l => exact hq.elim
theorem QbB {P : Program} {fn : Func} {tmps : Array Value} {RR : Ending → World → Prop} {g : FuncId} {cs : List Value} {u u1 : FrameMode} {w : World} {X : World → Prop}
  (hu : u ≠ .run) (hc : ∀ args w, (callFunc g args).run P w = .ok (.enter g args) w) (h : CallsD P g ⟨cs⟩ u w fun e u' w' => (∃ v, e = .returned v) ∧ settle u' = u1 ∧ X w')
  (k : ∀ w', X w' → Leaves P fn tmps RR [] u1 w') : Leaves P fn tmps RR [{ target := .fn (.func g) ⟨cs⟩, args := #[] }] u w := by
 refine leaves_cons hu (f := g) (args := ⟨cs⟩) (by simp [invoke, hc]) (h.mono fun e u' w' ⟨⟨v, he⟩, h1, h2⟩ => ?_)
 subst he
 simp only
 rw [h1]
 exact k w' h2
def Yj (id n : Nat) : List Nat := (List.range n).filter (fun i => i != id)
theorem ye (id i : Nat) : Yj id (i + 1) = if i = id then Yj id i else Yj id i ++ [i] := by
 unfold Yj
 rw [List.range_succ, List.filter_append]
 by_cases h : i = id
 ·subst h; simp
 ·simp [h]
theorem QbQ {R : Hp} {α : Type} (b : NB) (id n : Nat) (fk : FuncId) (first caps : List Value) (hc : ∀ args w, (callFunc fk args).run prog w = .ok (.enter fk args) w) (step : α → Nat → α) (rep : α → Hp → List Asn → Prop)
  (hrep : ∀ a R L, rep a R L → ∃ v x rest, L = ndB b v x :: rest ∧ x.id = id ∧ x.n = n)
  (hn : n ≤ 9) (a : α) (L : List Asn) (hL : rep a R L)
  (hf : ∀ R L i, rep ((Yj id i).foldl step a) R L → i < n → i ≠ id → Tri prog fk (first ++ [.int .i64 (i : Int)] ++ caps) R L (fun _ R' L' => rep (step ((Yj id i).foldl step a) i) R' L')) :
  Tri prog 69 [.pointer (some ⟨b.x, 0, none⟩), .func (.func fk) ⟨first⟩ ⟨caps⟩] R L (fun _ R' L' => rep ((Yj id n).foldl step a) R' L') := by
 obtain ⟨v, x, rest, rfl, hid, hnn⟩ := hrep a R L hL
 subst hid hnn
 refine Qn func69 rfl ntmps69 rfl (fun σ F Q hret hend hpan => ?_)
 try simp only [cB]
 unfold ndB ndC
 refine Qd fun K1 hK1 => Qc (Pm ?_)
 refine Pa (Qf rfl) ?_
 refine Pa (Ga underlying109 sizeOf3) ?_
 refine Pa (La o3) (Pm (Qe (hK1 _ _ _ (Qp ?_))))
 refine Ql (E' := (fun (x1 : Nat × α × Hp × List Asn) => [(0, .pointer (some ⟨b.x, 0, none⟩)), (1, .func (.func fk) ⟨first⟩ ⟨caps⟩), (8, .int .i64 (x.n : Int)), (9, .int .i64 (x1.1 : Int))]) (0, a, R, ndB b v x :: rest)) (eC rfl (eC rfl (eC rfl (eC rfl eN)))) ?_
 refine Xi (M := (fun (x1 : Nat × α × Hp × List Asn) => x1.2.2.2 ++ F) (0, a, R, ndB b v x :: rest)) sb_ ?_
 refine QY (fun (x1 : Nat × α × Hp × List Asn) => [(0, .pointer (some ⟨b.x, 0, none⟩)), (1, .func (.func fk) ⟨first⟩ ⟨caps⟩), (8, .int .i64 (x.n : Int)), (9, .int .i64 (x1.1 : Int))]) (fun (x1 : Nat × α × Hp × List Asn) => x1.2.2.1) (fun (x1 : Nat × α × Hp × List Asn) => x1.2.2.2 ++ F) (fun (x1 : Nat × α × Hp × List Asn) => x1.1 ≤ x.n ∧ x1.2.1 = (Yj x.id x1.1).foldl step a ∧ rep x1.2.1 x1.2.2.1 x1.2.2.2 ∧ R.le x1.2.2.1) (fun (x1 : Nat × α × Hp × List Asn) => x.n - x1.1) (0, a, R, ndB b v x :: rest) (⟨by simp, rfl, hL, Hp.le_refl _⟩) ?_
 rintro ⟨i, a2, R2, L2⟩ ⟨hi, ha2, hr2, hR2⟩
 try dsimp only
 dsimp only at hi ha2 hr2 hR2
 obtain ⟨v2, y, rest2, rfl, hid2, hnn2⟩ := hrep a2 R2 L2 hr2
 refine Qd fun K2 hK2 => Qc ?_
 refine Pa (QO rfl rfl) (Qe (hK2 _ _ _ (Qd fun K3 hK3 => ?_)))
 refine Qm rfl (fun hc10 => ?_) (fun hc10 => ?_)
 try simp only [dx] at hc10
 refine Qj (hK3 _ _ _ (Qd fun K5 hK5 => Qp (Qd fun K6 hK6 => Qc ?_)))
 have hin : i < x.n := by (try simp at hc10); omega
 refine Pm (Ps (Qe (hK6 _ _ _ (Qd fun K7 hK7 => Qc ?_))))
 refine Pm (Pm ?_)
 refine Pa (Qf rfl) ?_
 refine Pa (Ga underlying109 sizeOf3) ?_
 refine Pa ((Yld.to (u := .int .i64 (x.id : Int)) (La o3) (by rw [hid2]))) ?_
 refine Pa (XU rfl rfl) (Qe (hK7 _ _ _ ?_))
 refine Qm rfl (fun hc17 => ?_) (fun hc17 => ?_)
 have fne : ¬ i = x.id := by intro h; (try simp at hc17); omega
 refine Qc (Pm (Pm ?_))
 refine QeR (wn0 rfl) rfl rfl hc rfl (hf R2 _ i (by rw [ha2] at hr2; exact hr2) hin fne) (Qip _ _) (fun _ _ _ _ h => h.elim) ?_
 rintro r R3 L3 hR3 hr3
 rw [← ha2] at hr3
 refine Qe (hK5 _ _ _ (Qc ?_))
 refine Pa (Qt rfl rfl om_) (Pm (Qe ?_))
 refine Xl (q' := QS _ _ _ _ _ _ _) rfl ?_
 refine QC ((i + 1, step a2 i, R3, L3)) (⟨by dsimp only; omega, by dsimp only; rw [ye, if_neg fne, List.foldl_append, ← ha2]; rfl, hr3, Hp.le_trans hR2 hR3⟩) (by dsimp only; omega) (eC rfl (eC rfl (eC rfl (eC rfl eN)))) rfl sb_
 have feq : i = x.id := by (try simp at hc17); omega
 refine Qj (hK5 _ _ _ (Qc ?_))
 refine Pa (Qt rfl rfl om_) (Pm (Qe ?_))
 refine Xl (q' := QS _ _ _ _ _ _ _) rfl ?_
 refine QC ((i + 1, a2, R2, ndB b v2 y :: rest2)) (⟨by dsimp only; omega, by dsimp only; rw [ye, if_pos feq]; exact ha2, hr2, hR2⟩) (by dsimp only; omega) (eC rfl (eC rfl (eC rfl (eC rfl eN)))) rfl sb_
 try simp only [dx] at hc10
 refine QL (hend _ _ _ ?_)
 obtain rfl : i = x.n := by (try simp at hc10); omega
 apply QD results69 .nil _ (ndB b v2 y :: rest2) hR2 rfl
 case hp => rw [ha2] at hr2; exact hr2
 case hS => exact .refl _
theorem yf (id : Nat) : ∀ i, (Yj id i).length ≤ i
 | 0 => by simp [Yj]
 | i + 1 => by
  have := yf id i
  rw [ye]
  split
  ·omega
  ·simp; omega
def ND.stamp (x : ND) (m : Msg) : Msg := { m with frm := x.id, term := x.g.term }
def ND.sends (x : ND) (l : List Msg) : ND := { x with out := x.out ++ l.map x.stamp }
theorem Qfp (x : ND) (l : List Nat) : l.foldl ND.feed x = x.sends (l.map x.feedMsg) := by
 have : ∀ (l : List Nat) (o : List Msg), l.foldl ND.feed { x with out := o } = { x with out := o ++ (l.map x.feedMsg).map x.stamp } := by
  intro l
  induction l with
  | nil => intro o; simp
  | cons i l ih =>
   intro o
   rw [List.foldl_cons, show ND.feed { x with out := o } i = { x with out := o ++ [x.stamp (x.feedMsg i)] } from rfl, ih]
   simp
 exact this l x.out
theorem qv (x : ND) (l : List Nat) : l.foldl ND.ask x = x.sends (l.map x.askMsg) := by
 have : ∀ (l : List Nat) (o : List Msg), l.foldl ND.ask { x with out := o } = { x with out := o ++ (l.map x.askMsg).map x.stamp } := by
  intro l
  induction l with
  | nil => intro o; simp
  | cons i l ih =>
   intro o
   rw [List.foldl_cons, show ND.ask { x with out := o } i = { x with out := o ++ [x.stamp (x.askMsg i)] } from rfl, ih]
   simp
 exact this l x.out
theorem NIn.sends {k : Nat} {x : ND} (h : NIn k x) (l : List Msg) (hl : l.length ≤ 20) : NIn (k + 1) (x.sends l) := by
 have h1 := h.le (show k ≤ k + 1 by omega)
 exact ⟨h1.idn, h1.term, h1.vote, h1.base, h1.baseT, h1.state, h1.alln, h1.all, h1.commit, h1.patience, h1.peers, h1.peer, h1.votes, by have := h.out; unfold ND.sends; simp; omega⟩
def NV.outs (v : NV) (x : ND) (R : Hp) (y : ND) (L : List Asn) (b : NB) : Prop :=
 ∃ vo css, Els msgE R y.out css ∧ vo.oneCell' = true ∧ L = [ndB b (v.sent vo css) y, lgN b (v.sent vo css) y, prA (v.sent vo css) y, XQ (v.sent vo css) y]
theorem NOk.sent {R R' : Hp} {v : NV} {x : ND} (h : NOk R v x) (hR : R.le R') {y : ND} (hy : y.g = x.g ∧ y.role = x.role) {vo : Value} {css : List (List Value)} (ho : Els msgE R' y.out css) (hvo : vo.oneCell' = true) : NOk R' (v.sent vo css) y :=
 ⟨by rw [hy.1]; exact h.va.mono hR, ho, h.vm, h.vp, hvo, by rw [hy.2]; exact h.map⟩
theorem QdT {R : Hp} (b : NB) (v : NV) (x : ND) (k : Nat) (hk : k ≤ 80) (hx : NIn k x) (hv : NOk R v x) (hp : x.peers.length = x.n) :
  Tri prog 69 [.pointer (some ⟨b.x, 0, none⟩), .func (.func 70) ⟨[.pointer (some ⟨b.x, 0, none⟩)]⟩ ⟨[]⟩] R [ndB b v x, lgN b v x, prA v x, XQ v x]
   (fun r R' L' => v.outs x R' x.feedAll L' b) := by
 have hidn := hx.idn
 have := QbQ (R := R) b x.id x.n 70 [.pointer (some ⟨b.x, 0, none⟩)] [] call70 ND.feed (fun y R' L' => R.le R' ∧ y.id = x.id ∧ y.n = x.n ∧ v.outs x R' y L' b)
  (fun y R' L' ⟨_, h1, h2, vo, css, _, _, h3⟩ => ⟨v.sent vo css, y, _, h3, h1, h2⟩) hidn.2 x _ ⟨Hp.le_refl R, rfl, rfl, v.vo, v.css, hv.out, hv.vo, rfl⟩
  (fun R2 L2 i ⟨hR2, h1, h2, vo, css, hels, hvo, h3⟩ hin hne => by
   subst h3
   rw [Qfp] at *
   have hsend := hx.sends ((Yj x.id i).map x.feedMsg) (by have := yf x.id i; simp; omega)
   have hft := Qfq (R := R2) b (v.sent vo css) (x.sends ((Yj x.id i).map x.feedMsg)) (k + 1) (by omega) hsend (hv.sent (y := x.sends ((Yj x.id i).map x.feedMsg)) hR2 ⟨rfl, rfl⟩ hels hvo) i (by show i < x.peers.length; omega)
   refine Tri.mono hft (fun r R3 L3 hR3 ⟨vo3, css3, he3, ho3, hL3⟩ => ⟨Hp.le_trans hR2 hR3, rfl, rfl, vo3, css3, he3, ho3, hL3⟩) (fun _ _ _ _ h => h))
 exact Tri.mono this (fun r R' L' hR h => h.2.2.2) (fun _ _ _ _ h => h)
theorem LG.last_b {g : LG} (hg : g.ok) : 0 ≤ g.last ∧ g.last ≤ 1000000000100000 := by
 have h1 := hg.base
 have h2 := hg.alln
 unfold LG.last; omega
theorem Qn3 {R : Hp} (b : NB) (v : NV) (x : ND) (k : Nat) (hk : k ≤ 90) (hx : NIn k x) (hv : NOk R v x) (i bX bL : Nat) :
  Tri prog 93 [.int .i64 (i : Int), .pointer (some ⟨bX, 0, none⟩), .pointer (some ⟨bL, 0, none⟩)] R [ndB b v x, lgN b v x, XQ v x, blk bX [.pointer (some ⟨b.x, 0, none⟩)] 56, blk bL [.int .u64 x.g.last] 36]
   (fun r R' L' => ∃ vo css, Els msgE R' (x.ask i).out css ∧ vo.oneCell' = true ∧ L' = [ndB b (v.sent vo css) (x.ask i), lgN b (v.sent vo css) (x.ask i), XQ (v.sent vo css) (x.ask i), blk bX [.pointer (some ⟨b.x, 0, none⟩)] 56, blk bL [.int .u64 x.g.last] 36]) := by
 have hg := hx.g (by omega)
 have hlb := LG.last_b hg
 have ho := hx.out
 have hva := hv.va
 refine Qn func93 rfl ntmps93 rfl (fun σ F Q hret hend hpan => ?_)
 try simp only [cB]
 refine Xd (L := [blk bX [.pointer (some ⟨b.x, 0, none⟩)] 56, blk bL [.int .u64 x.g.last] 36, ndB b v x, lgN b v x]) [0, 1, 2, 3, 4, 5, 6] [] [7] _ sb_ (by kernel_rfl) (by kernel_rfl) (by kernel_rfl) rfl ?_
 refine Wa rfl (fun R1 hR1 G => (La o56)) ?_
 refine Wa rfl (fun R1 hR1 G => (Qg rfl)) ?_
 refine Wa rfl (fun R1 hR1 G => (La o36)) ?_
 refine Wa rfl (fun R1 hR1 G => (La o56)) ?_
 refine Wa rfl (fun R1 hR1 G => (La o36)) ?_
 refine Wa rfl (fun R1 hR1 G => (Ca call91 (yV b v x hg (hva.mono hR1) x.g.last (by unfold QM; omega)))) ?_
 refine Wa rfl (fun R1 hR1 G => (QV (cells := [_, _, _, _, _, _, _, _, _, _]) [(0, 1), (1, 1), (2, 1), (3, 1), (4, 1), (5, 1), (6, 1), (7, 1), (8, 1), (9, 1)] underlying117 zeroValue117 (fun _ => rfl) rfl rfl)) ?_
 refine Xc ?_
 refine Xe ?_
 try simp only [cC]
 refine Ra call90 (QaI b v x (x.askMsg i) (.slice none 0 0) hv.out hv.vo (by omega) FrX.nil) ?_
 rintro r R2 L' hR2 ⟨vo, css, hels, hvo2, rfl⟩
 try simp only [cB]
 refine Qe (hend _ _ _ ?_)
 apply QD results93 .nil _ [ndB b (v.sent vo css) (x.ask i), lgN b (v.sent vo css) (x.ask i), XQ (v.sent vo css) (x.ask i), blk bX [.pointer (some ⟨b.x, 0, none⟩)] 56, blk bL [.int .u64 x.g.last] 36] (by first | exact hR2 | exact Hp.le_trans ‹_› hR2) rfl
 case hp => exact ⟨vo, css, hels, hvo2, rfl⟩
 case hS => exact sb_
theorem QkH {R : Hp} (b : NB) (v : NV) (x : ND) (k : Nat) (hk : k ≤ 80) (hx : NIn k x) (hv : NOk R v x) (bX bL : Nat) :
  Tri prog 69 [.pointer (some ⟨b.x, 0, none⟩), .func (.func 93) ⟨[]⟩ ⟨[.pointer (some ⟨bX, 0, none⟩), .pointer (some ⟨bL, 0, none⟩)]⟩] R [ndB b v x, lgN b v x, XQ v x, blk bX [.pointer (some ⟨b.x, 0, none⟩)] 56, blk bL [.int .u64 x.g.last] 36]
   (fun r R' L' => ∃ vo css, Els msgE R' x.askAll.out css ∧ vo.oneCell' = true ∧ L' = [ndB b (v.sent vo css) x.askAll, lgN b (v.sent vo css) x.askAll, XQ (v.sent vo css) x.askAll, blk bX [.pointer (some ⟨b.x, 0, none⟩)] 56, blk bL [.int .u64 x.g.last] 36]) := by
 have hidn := hx.idn
 have := QbQ (R := R) b x.id x.n 93 [] [.pointer (some ⟨bX, 0, none⟩), .pointer (some ⟨bL, 0, none⟩)] call93 ND.ask (fun y R' L' => R.le R' ∧ y.id = x.id ∧ y.n = x.n ∧ ∃ vo css, Els msgE R' y.out css ∧ vo.oneCell' = true ∧ L' = [ndB b (v.sent vo css) y, lgN b (v.sent vo css) y, XQ (v.sent vo css) y, blk bX [.pointer (some ⟨b.x, 0, none⟩)] 56, blk bL [.int .u64 x.g.last] 36])
  (fun y R' L' ⟨_, h1, h2, vo, css, _, _, h3⟩ => ⟨v.sent vo css, y, _, h3, h1, h2⟩) hidn.2 x _ ⟨Hp.le_refl R, rfl, rfl, v.vo, v.css, hv.out, hv.vo, rfl⟩
  (fun R2 L2 i ⟨hR2, h1, h2, vo, css, hels, hvo, h3⟩ hin hne => by
   subst h3
   rw [qv] at *
   have hsend := hx.sends ((Yj x.id i).map x.askMsg) (by have := yf x.id i; simp; omega)
   have hft := Qn3 (R := R2) b (v.sent vo css) (x.sends ((Yj x.id i).map x.askMsg)) (k + 1) (by omega) hsend (hv.sent (y := x.sends ((Yj x.id i).map x.askMsg)) hR2 ⟨rfl, rfl⟩ hels hvo) i bX bL
   refine Tri.mono hft (fun r R3 L3 hR3 ⟨vo3, css3, he3, ho3, hL3⟩ => ⟨Hp.le_trans hR2 hR3, rfl, rfl, vo3, css3, he3, ho3, hL3⟩) (fun _ _ _ _ h => h))
 exact Tri.mono this (fun r R' L' hR h => h.2.2.2) (fun _ _ _ _ h => h)
theorem QkA {R : Hp} (b : NB) (v : NV) (x : ND) (l : List Int) (vr : Value) (hvr : vr.oneCell' = true) (hl : l.length ≤ 100) (i : Nat) (hi : i < x.peers.length) (hp : x.peers.length ≤ 9) (bX bR : Nat) :
  Tri prog 109 [.int .i64 (i : Int), .pointer (some ⟨bR, 0, none⟩), .pointer (some ⟨bX, 0, none⟩)] R [ndB b v x, prA v x, blk bX [.pointer (some ⟨b.x, 0, none⟩)] 56, blk bR [vr] 75, slc 36 1 vr l.length (XM l)]
   (fun r R' L' => ∃ vr', vr'.oneCell' = true ∧ L' = [ndB b v x, prA v x, blk bX [.pointer (some ⟨b.x, 0, none⟩)] 56, blk bR [vr'] 75, slc 36 1 vr' (l ++ [x.mat i]).length (XM (l ++ [x.mat i]))]) := by
 have hnx : nth (Xv x.peers) (((i : Nat) : Int).toNat * 2 + 1) = some (.int .u64 (x.mat i)) := (yp x.peers i _ rfl hi).2
 have hul := jQ l
 refine Qn func109 rfl ntmps109 rfl (fun σ F Q hret hend hpan => ?_)
 try simp only [cB]
 refine Xd (L := [blk bX [.pointer (some ⟨b.x, 0, none⟩)] 56, blk bR [vr] 75, ndB b v x, prA v x]) [0, 1, 2, 3, 4, 5, 6, 7, 8] [9] [10, 11] _ sb_ (by kernel_rfl) (by kernel_rfl) (by kernel_rfl) rfl ?_
 refine Wa rfl (fun R1 hR1 G => (La o75)) ?_
 refine Wa rfl (fun R1 hR1 G => (La o56)) ?_
 refine Wa rfl (fun R1 hR1 G => (Qf rfl)) ?_
 refine Wa rfl (fun R1 hR1 G => (Ga underlying109 sizeOf107)) ?_
 refine Wa rfl (fun R1 hR1 G => (La Qc8)) ?_
 refine Wa rfl (fun R1 hR1 G => (Qg rfl)) ?_
 refine Wa rfl (fun R1 hR1 G => (XA underlying107 sizeOf161 rfl rfl fd_ om_)) ?_
 refine Wa rfl (fun R1 hR1 G => (Zw (k := 1) underlying161 rfl (m := 1) (by decide) sizeOf36 rfl fd_ (by omega))) ?_
 refine Wa rfl (fun R1 hR1 G => (XD o36 rfl fd_ hnx)) ?_
 refine Xc ?_
 refine QH rfl ?_
 try simp only [cC]
 refine Qz (sz := 1) (wn0 rfl) rfl underlying75 sizeOf36 zeroValue36 rfl rfl rfl (by decide) (by decide) (fun b13 => ?_)
 refine QI le_ sb_ ?_
 refine Xe ?_
 try simp only [cC]
 refine XF (sz := 1) (by_ := 8) ⟨underlying75, _, _, rfl, rfl, rfl, rfl, rfl⟩ (wn0 rfl) rfl rfl rfl fd_ (YT (xs := [.int .u64 (x.mat i)]) underlying75 fd_ (by simp [Value.oneCell'])) rfl om_ (by simp only [maxLen]; omega) (fun v14 ho14 hh14 => ?_)
 rw [show XM l ++ [Value.int .u64 (x.mat i)] = XM (l ++ [x.mat i]) by simp [XM], show l.length + 1 = (l ++ [x.mat i]).length by simp]
 refine Sa o75 ?_
 refine Qe (hend _ _ _ ?_)
 apply QD results109 .nil _ [ndB b v x, prA v x, blk bX [.pointer (some ⟨b.x, 0, none⟩)] 56, blk bR [v14] 75, slc 36 1 v14 (l ++ [x.mat i]).length (XM (l ++ [x.mat i]))] (by first | exact Hp.le_refl _ | assumption) rfl
 case hp => exact ⟨v14, by assumption, rfl⟩
 case hS => exact sb_
theorem QaZ {α β : Type} (f : α → β) : ∀ (l : List α) (a : List β), l.foldl (fun l i => l ++ [f i]) a = a ++ l.map f
 | [], a => by simp
 | i :: l, a => by rw [List.foldl_cons, QaZ f l]; simp
theorem QfZ {id n : Nat} (h : id < n) : (Yj id n).length + 1 = n := by
 induction n with
 | zero => omega
 | succ n ih =>
  rw [ye]
  by_cases hn : n = id
  ·subst hn
   rw [if_pos rfl]
   unfold Yj
   rw [List.filter_eq_self.2 (fun a ha => by simp at ha ⊢; omega)]
   simp
  ·rw [if_neg hn]; simp; exact ih (by omega)
theorem QaQ {x : ND} (h : x.id < x.n) : x.reach.length = x.n := by
 unfold ND.reach
 rw [List.length_cons, List.length_map]
 exact QfZ h
theorem QjF {l : List Int} (h : Srt l l.length) : l.Pairwise (fun a b => decide (a ≤ b) = true) := by
 rw [List.pairwise_iff_getElem]
 intro i j hi hj hij
 have := h i j hij hj
 simpa [List.getD_eq_getElem?_getD, List.getElem?_eq_getElem hi, List.getElem?_eq_getElem hj] using this
theorem Qnb {x : ND} {l : List Int} (hp : l.Perm x.reach) (hs : Srt l l.length) : l.getD ((x.n - 1) / 2) 0 = x.mid := by
 have h1 := List.mergeSort_perm x.reach (fun a b => decide (a ≤ b))
 have h2 := List.pairwise_mergeSort (le := fun (a b : Int) => decide (a ≤ b)) (fun a b c h1 h2 => by simp at *; omega) (fun a b => by simp; omega) x.reach
 have : l = x.reach.mergeSort (fun a b => decide (a ≤ b)) := List.Perm.eq_of_pairwise (le := fun (a b : Int) => decide (a ≤ b) = true) (fun a b _ _ h1 h2 => by simp at *; omega) (QjF hs) h2 (hp.trans h1.symm)
 unfold ND.mid
 rw [this]
theorem QgA {x : ND} (h : x.id < x.n) : x.mid ∈ x.reach := by
 have h1 := List.mergeSort_perm x.reach (fun a b => decide (a ≤ b))
 have h2 := h1.length_eq
 rw [QaQ h] at h2
 unfold ND.mid
 have h3 : (x.n - 1) / 2 < (x.reach.mergeSort (fun a b => decide (a ≤ b))).length := by rw [h2]; omega
 rw [List.getD_eq_getElem?_getD, List.getElem?_eq_getElem h3]
 exact h1.subset (List.getElem_mem h3)
theorem QnR {k : Nat} {x : ND} (hx : NIn k x) (i : Nat) : 0 ≤ x.mat i ∧ x.mat i ≤ 150000000000000 := by
 unfold ND.mat
 by_cases hi : i < x.peers.length
 ·have : x.peers.getD i (0, 0) ∈ x.peers := by rw [List.getD_eq_getElem?_getD, List.getElem?_eq_getElem hi]; simp
  exact (hx.peer _ this).2
 ·rw [List.getD_eq_getElem?_getD, List.getElem?_eq_none (by omega)]; decide
theorem QkX {k : Nat} (hk : k ≤ 100) {x : ND} (hx : NIn k x) : 0 ≤ x.mid ∧ x.mid ≤ 150000000000000 := by
 have h := QgA hx.idn.1
 unfold ND.reach at h
 rcases List.mem_cons.1 h with h | h
 ·rw [h]
  have h1 := hx.base
  have h2 := hx.alln
  unfold LG.last; omega
 ·obtain ⟨i, _, hi⟩ := List.mem_map.1 h
  rw [← hi]; exact QnR hx i
theorem Qh1 {R : Hp} (b : NB) (v : NV) (x : ND) (vr : Value) (hvr : vr.oneCell' = true) (k : Nat) (hx : NIn k x) (hp : x.peers.length = x.n) (bX bR : Nat) :
  Tri prog 69 [.pointer (some ⟨b.x, 0, none⟩), .func (.func 109) ⟨[]⟩ ⟨[.pointer (some ⟨bR, 0, none⟩), .pointer (some ⟨bX, 0, none⟩)]⟩] R [ndB b v x, prA v x, blk bX [.pointer (some ⟨b.x, 0, none⟩)] 56, blk bR [vr] 75, slc 36 1 vr 1 (XM [x.g.last])]
   (fun r R' L' => ∃ vr', vr'.oneCell' = true ∧ L' = [ndB b v x, prA v x, blk bX [.pointer (some ⟨b.x, 0, none⟩)] 56, blk bR [vr'] 75, slc 36 1 vr' x.reach.length (XM x.reach)]) := by
 have hidn := hx.idn
 have := QbQ (R := R) b x.id x.n 109 [] [.pointer (some ⟨bR, 0, none⟩), .pointer (some ⟨bX, 0, none⟩)] call109 (fun l i => l ++ [x.mat i]) (fun l R' L' => ∃ vr', vr'.oneCell' = true ∧ L' = [ndB b v x, prA v x, blk bX [.pointer (some ⟨b.x, 0, none⟩)] 56, blk bR [vr'] 75, slc 36 1 vr' l.length (XM l)])
  (fun y R' L' ⟨vr', _, h3⟩ => ⟨v, x, _, h3, rfl, rfl⟩) hidn.2 [x.g.last] _ ⟨vr, hvr, rfl⟩
  (fun R2 L2 i ⟨vr', hvr', h3⟩ hin hne => by
   subst h3
   rw [QaZ] at *
   have hlen : ([x.g.last] ++ (Yj x.id i).map x.mat).length ≤ 100 := by have := yf x.id i; simp; omega
   exact QkA (R := R2) b v x _ vr' hvr' hlen i (by omega) (by omega) bX bR)
 rw [QaZ] at this
 exact this
theorem QgW {R : Hp} (b : NB) (v : NV) (x : ND) (k : Nat) (hk : k ≤ 90) (hx : NIn k x) (hva : FrX entE R x.g.all v.va) (hvp : v.vp.oneCell' = true) (hp : x.peers.length = x.n) :
  Tri prog 88 [.pointer (some ⟨b.x, 0, none⟩)] R [ndB b v x, lgN b v x, prA v x] (fun r R' L' => L' = [ndB b v x.count, lgN b v x.count, prA v x.count]) := by
 have hg := hx.g (by omega)
 have hidn := hx.idn
 have hrl := QaQ hidn.1
 have hmb := QkX (by omega) hx
 refine Qn func88 rfl ntmps88 rfl (fun σ F Q hret hend hpan => ?_)
 try simp only [cB]
 refine Qd fun K1 hK1 => Qc ?_
 refine Xa (wn0 rfl) rfl rfl rfl (fun bX => ?_)
 refine Qe (hK1 _ _ _ (Qd fun K2 hK2 => Qc ?_))
 refine Pa (La o56) ?_
 refine Pa (Qf rfl) ?_
 refine Pa (Ga underlying109 sizeOf55) ?_
 refine Pa (La o55) ?_
 refine Pa (Ca call60 (YC b.l (some ⟨b.d, 0, none⟩) v.va x.g hg hva)) ?_
 refine Qz (sz := 1) (wn0 rfl) rfl underlying75 sizeOf36 zeroValue36 rfl rfl rfl (by decide) (by decide) (fun b9 => ?_)
 refine QA (wn0 rfl) rfl zeroValue75 rfl (fun bR => ?_)
 refine Sa o75 ?_
 refine Qe (hK2 _ _ _ (Qd fun K3 hK3 => Qc ?_))
 refine Pa (La o56) ?_
 refine Pa (YB rfl rfl) ?_
 refine Ra call69 (Qh1 b v x (.slice (some ⟨b9, 0, none⟩) 1 1) rfl k hx hp bX bR) ?_
 rintro r R2 L' hR2 ⟨vr, hvr, rfl⟩
 try simp only [cB]
 refine Qe (hK3 _ _ _ (Qd fun K4 hK4 => Qc ?_))
 refine Pa (La o75) ?_
 refine Ra call110 (QmP vr x.reach hvr (by omega)) ?_
 rintro r R3 L' hR3 ⟨l2, hpm, hsrt, rfl⟩
 have hl2 := hpm.length_eq
 have hva3 := hva.mono (Hp.le_trans hR2 hR3)
 try simp only [cB]
 refine Qe (hK4 _ _ _ (Qd fun K5 hK5 => ?_))
 refine Xr (by kernel_rfl) (by kernel_rfl) ?_
 refine Qa (La o75) ?_
 refine Qa (La o56) ?_
 refine Qa (Qf rfl) ?_
 refine Qa (Ga underlying109 sizeOf3) ?_
 refine Qa (La o3) ?_
 refine Qa ((YN rfl rfl (by omega))) ?_
 refine Qa ((Yld.to (u := .int .i64 (((x.n - 1) / 2 : Nat) : Int)) (Qd8 rfl rfl (by decide)) (by rw [Int.tdiv_eq_ediv_of_nonneg (by omega), show ((x.n : Int) - 1) / 2 = (((x.n - 1) / 2 : Nat) : Int) by omega, zb (by (simp only [IntKind.min, IntKind.max, IntKind.signed, IntKind.bits, Bool.false_eq_true, ite_false, ite_true]; omega))]))) ?_
 refine Qa ((XA underlying75 sizeOf36 rfl rfl fd_ (by omega))) ?_
 refine Qa ((Yld.to (u := .int .u64 x.mid) (XD o36 rfl fd_ (jt l2 ((x.n - 1) / 2) _ rfl (by omega))) (by rw [Qnb hpm hsrt]))) ?_
 refine Qa (Xj rfl) ?_
 refine Xb ?_
 refine hK5 _ _ _ ?_
 refine Ql (eL 1 rfl (eL 3 rfl eN)) ?_
 refine Qd fun K6 hK6 => ?_
 refine Xr (by kernel_rfl) (by kernel_rfl) ?_
 refine Qa (Qg rfl) ?_
 refine Qa (La o56) ?_
 refine Qa (Qf rfl) ?_
 refine Qa (Ga underlying109 sizeOf36) ?_
 refine Qa (La o36) ?_
 refine Qa (Xs rfl rfl) ?_
 refine Qa (Qg rfl) ?_
 refine YU 30 rfl (fun hg30 => ?_) (fun hg30 => ?_)
 have f1 : x.mid > x.commit := by (try simp at hg30); omega
 refine Qb (La o56) ?_
 refine Qb (Qg rfl) ?_
 refine Qb (Ca call91 (yV b v x hg hva3 x.mid (by unfold QM; omega))) ?_
 refine Qb (La o56) ?_
 refine Qb (Qf rfl) ?_
 refine Qb (Ga underlying109 sizeOf55) ?_
 refine Qb (La o55) ?_
 refine Qb (Ca call24 (YV b.l (some ⟨b.d, 0, none⟩) v.va x.g)) ?_
 refine Qb (QB rfl rfl) ?_
 refine Qa (Qr rfl rfl) ?_
 refine Xb ?_
 refine hK6 _ _ _ ?_
 refine Qm rfl (fun hc40 => ?_) (fun hc40 => ?_)
 first | have hc : x.count = { x with commit := x.mid } := by unfold ND.count; rw [if_pos ⟨f1, by simpa using hc40⟩] | skip
 refine Qc ?_
 refine Pa (La o56) (Pm ?_)
 refine Pa (Qf rfl) ?_
 refine Pa (Ga underlying109 sizeOf36) ?_
 refine Sa o36 ?_
 refine Qe (hend _ _ _ ?_)
 apply QD results88 .nil _ [ndB b v x.count, lgN b v x.count, prA v x.count] (by exact Hp.le_trans hR2 hR3) rfl
 case hp => rfl
 case hS => rw [hc]; (repeat (first|exact zR _|(apply zP;focus (repeat (first|exact zH _|apply zT)))|apply zD|exact zA _ _))
 first | have hc : x.count = x := by unfold ND.count; rw [if_neg (fun h => by have h2 := h.2; simp at hc40; exact hc40 h2)] | skip
 refine Qj (hend _ _ _ ?_)
 apply QD results88 .nil _ [ndB b v x.count, lgN b v x.count, prA v x.count] (by exact Hp.le_trans hR2 hR3) rfl
 case hp => rfl
 case hS => rw [hc]; (repeat (first|exact zR _|(apply zP;focus (repeat (first|exact zH _|apply zT)))|apply zD|exact zA _ _))
 have f1 : ¬ x.mid > x.commit := by (try simp at hg30); omega
 have hc : x.count = x := by unfold ND.count; rw [if_neg (fun h => f1 h.1)]
 refine Qk ?_
 refine Qk ?_
 refine Qk ?_
 refine Qk ?_
 refine Qk ?_
 refine Qk ?_
 refine Qk ?_
 refine Qk ?_
 refine Qk ?_
 refine Qa (Qo rfl rfl) ?_
 refine Xb ?_
 refine hK6 _ _ _ ?_
 refine Ql (eL 1 rfl (eL 3 rfl (eL 40 rfl eN))) ?_
 refine Qs rfl (Qj (hend _ _ _ ?_))
 apply QD results88 .nil _ [ndB b v x.count, lgN b v x.count, prA v x.count] (by exact Hp.le_trans hR2 hR3) rfl
 case hp => rfl
 case hS => rw [hc]; (repeat (first|exact zR _|(apply zP;focus (repeat (first|exact zH _|apply zT)))|apply zD|exact zA _ _))
def Qae : PanicEntry := ⟨.iface 156 (.agg ⟨[]⟩), false, false⟩
@[reducible] def jn (b : NB) (F : Bool × NS) (r : Value) (R' : Hp) (L' : List Asn) : Prop := F.1 = true ∧ ∃ v', NOk R' v' F.2.1 ∧ L' = ndL b v' F.2.1 F.2.2
@[reducible] def jo (b : NB) (F : Bool × NS) (ch : List PanicEntry) (R' : Hp) (L' : List Asn) : Prop := F.1 = false ∧ ch = [Qae] ∧ ∃ v', NOk R' v' F.2.1 ∧ L' = ndL b v' F.2.1 F.2.2
theorem zx {R : Hp} (b : NB) (v : NV) (x : ND) (e : Int) : Tri prog 74 [.pointer (some ⟨b.x, 0, none⟩), .int .i64 e] R [ndB b v x]
  (fun r R' L' => e = 0 ∧ L' = [ndB b v x]) (fun ch R' L' => ¬ e = 0 ∧ ch = [Qae] ∧ L' = [ndB b v { x with down := true }]) := by
 refine Qn func74 rfl ntmps74 rfl (fun σ F Q hret hend hpan => ?_)
 try simp only [cB]
 refine Qd fun K1 hK1 => Qc (Pm ?_)
 refine Pa (XU rfl rfl) (Qe (hK1 _ _ _ ?_))
 refine Qm rfl (fun hc5 => ?_) (fun hc5 => ?_)
 have f1 : ¬ e = 0 := by simpa using hc5
 refine Qd fun K3 hK3 => Qc (Pm ?_)
 refine Pa (Qf rfl) ?_
 refine Pa (Ga underlying109 sizeOf4) ?_
 refine Sa o4 ?_
 refine Qe (hK3 _ _ _ ?_)
 refine Ql eN ?_
 refine Qc ?_
 refine Pa (QV (cells := []) [] underlying156 zeroValue156 (fun _ => rfl) rfl rfl) ?_
 refine Pa (Qcf underlying156 rfl) ?_
 refine QjN (wn0 rfl) rfl ?_
 refine hpan _ _ _ _ ?_
 refine Yz _ ([ndB b v { x with down := true }]) (by first | exact Hp.le_refl _ | assumption | exact Hp.le_trans ‹_› ‹_›) rfl sb_ ?_
 exact ⟨f1, rfl, rfl⟩
 have f1 : e = 0 := by simpa using hc5
 refine Qj (hend _ _ _ ?_)
 apply QD results74 .nil _ [ndB b v x] (Hp.le_refl _) rfl
 case hp => exact ⟨f1, rfl⟩
 case hS => exact sb_
theorem Qbq {g : LG} {D : DK} {i : Int} {m : List Ent} (h : (g.addD D i m).1 = 0) : (g.addD D i m).2.1 = g.play (.add i m) := by
 unfold LG.addD at h ⊢
 split at h
 ·cases h
 ·split at h
  ·cases h
  ·split at h
   ·rename_i h1 h2 h3
    rw [if_neg h1, if_neg h2, if_pos h3]
   ·rename_i h3; exact absurd h h3
theorem Qc0 {g : LG} {D : DK} {t vt : Int} (h : (g.setTermD D t vt).1 = 0) : (g.setTermD D t vt).2.1 = { g with term := t, vote := vt } := by
 unfold LG.setTermD at h ⊢
 split at h
 ·cases h
 ·split at h
  ·cases h
  ·split at h
   ·rename_i h1 h2 h3
    rw [if_neg h1, if_neg h2, if_pos h3]
   ·rename_i h3; exact absurd h h3
theorem NIn.add {k : Nat} {x : ND} (h : NIn k x) {i : Int} {m : List Ent} (hm : ∀ e ∈ m, (0 ≤ e.1 ∧ e.1 ≤ 2305843009213693952 + k) ∧ e.2.length ≤ 100) (hl : m.length ≤ 20) : NIn (k + 1) { x with g := x.g.play (.add i m) } := by
 have h1 := h.le (show k ≤ k + 1 by omega)
 refine ⟨h1.idn, h1.term, h1.vote, h1.base, h1.baseT, h1.state, ?_, fun e he => ?_, h1.commit, h1.patience, h1.peers, h1.peer, h1.votes, h1.out⟩
 ·have := h.alln
  show (x.g.all.take _ ++ m).length ≤ _
  simp; omega
 ·rcases List.mem_append.1 he with he | he
  ·exact h1.all e (List.mem_of_mem_take he)
  ·have := hm e he; omega
theorem NIn.count {k : Nat} {x : ND} (hk : k ≤ 100) (h : NIn k x) : NIn k x.count := by
 unfold ND.count
 split
 ·exact ⟨h.idn, h.term, h.vote, h.base, h.baseT, h.state, h.alln, h.all, QkX hk h, h.patience, h.peers, h.peer, h.votes, h.out⟩
 ·exact h
theorem YO (x : ND) : x.count.out = x.out ∧ x.count.g = x.g ∧ x.count.role = x.role ∧ x.count.peers = x.peers ∧ x.count.n = x.n ∧ x.count.votes = x.votes := by
 unfold ND.count
 split <;> exact ⟨rfl, rfl, rfl, rfl, rfl, rfl⟩
def NV.logd (v : NV) (u va : Value) : NV := { v with u := u, va := va }
theorem NOk.logd {R R' : Hp} {v : NV} {x : ND} (h : NOk R v x) (hR : R.le R') {y : ND} (hy : y.out = x.out ∧ y.role = x.role) {u va : Value} (hva : FrX entE R' y.g.all va) : NOk R' (v.logd u va) y :=
 ⟨hva, by rw [hy.1]; exact h.out.mono hR, h.vm, h.vp, h.vo, by rw [hy.2]; exact h.map⟩
theorem NOk.to {R R' : Hp} {v : NV} {x : ND} (h : NOk R v x) (hR : R.le R') {y : ND} (hy : y.out = x.out ∧ y.role = x.role ∧ y.g.all = x.g.all) : NOk R' v y :=
 ⟨by rw [hy.2.2]; exact h.va.mono hR, by rw [hy.1]; exact h.out.mono hR, h.vm, h.vp, h.vo, by rw [hy.2.1]; exact h.map⟩
theorem Qgr (x : ND) (l : List Msg) : (x.sends l).g = x.g ∧ (x.sends l).role = x.role := ⟨rfl, rfl⟩
theorem Xo (x : ND) : x.feedAll = x.sends (x.others.map x.feedMsg) := Qfp x _
theorem QfB (x : ND) : ∃ c, x.count = { x with commit := c } := by
 unfold ND.count
 split
 ·exact ⟨_, rfl⟩
 ·exact ⟨x.commit, rfl⟩
theorem QgP {R : Hp} (b : NB) (v : NV) (x : ND) (D : DK) (cmd : Bs) (k m : Nat) (hk : k ≤ 60) (hx : NIn k x) (hv : NOk R v x) (hp : x.peers.length = x.n) (hcmd : cmd.length ≤ 100) (hD : D.ok m) (hm : m ≤ 900000000) :
  Tri prog 64 [.pointer (some ⟨b.x, 0, none⟩), .string (str cmd)] R (ndL b v x D) (jn b (QQ (x, D) cmd)) (jo b (QQ (x, D) cmd)) := by
 have hg := hx.g (by omega)
 have hlb := LG.last_b hg
 have hva := hv.va
 have hterm := hx.term
 have hob := hx.base
 obtain ⟨ra, hra⟩ : ∃ r, r = x.g.addD D x.g.last [(x.g.term, cmd)] := ⟨_, rfl⟩
 have hE : QQ (x, D) cmd = QU (QP (x, D) ra) fun s => (true, (s.1.count.feedAll, s.2)) := by rw [hra]; rfl
 refine Qn func64 rfl ntmps64 rfl (fun σ F Q hret hend hpan => ?_)
 try simp only [cB]
 refine Qd fun K1 hK1 => ?_
 refine Xd (L := [ndB b v x]) [0, 1, 2, 3, 4, 5, 6, 7, 8, 10, 11, 12, 13, 15] [9, 14, 16, 17, 18] [19] _ sb_ (by kernel_rfl) (by kernel_rfl) (by kernel_rfl) rfl ?_
 refine Wa rfl (fun R1 hR1 G => (Qg rfl)) ?_
 refine Wa rfl (fun R1 hR1 G => (Qg rfl)) ?_
 refine Wa rfl (fun R1 hR1 G => (Qf rfl)) ?_
 refine Wa rfl (fun R1 hR1 G => (Ga underlying109 sizeOf55)) ?_
 refine Wa rfl (fun R1 hR1 G => (La o55)) ?_
 refine Wa rfl (fun R1 hR1 G => (Qg rfl)) ?_
 refine Wa rfl (fun R1 hR1 G => (Qf rfl)) ?_
 refine Wa rfl (fun R1 hR1 G => (Ga underlying109 sizeOf55)) ?_
 refine Wa rfl (fun R1 hR1 G => (La o55)) ?_
 refine Wa rfl (fun R1 hR1 G => (Qg rfl)) ?_
 refine Wa rfl (fun R1 hR1 G => (Qf rfl)) ?_
 refine Wa rfl (fun R1 hR1 G => (Ga underlying109 sizeOf55)) ?_
 refine Wa rfl (fun R1 hR1 G => (La o55)) ?_
 refine Wa rfl (fun R1 hR1 G => (Qg rfl)) ?_
 refine Xc ?_
 refine QH rfl ?_
 try simp only [cC]
 refine Pa (Ca call60 (YC b.l (some ⟨b.d, 0, none⟩) v.va x.g hg hva)) ?_
 refine QI le_ sb_ ?_
 refine QH rfl ?_
 try simp only [cC]
 refine Pa (Ca call24 (YV b.l (some ⟨b.d, 0, none⟩) v.va x.g)) ?_
 refine QI le_ sb_ ?_
 refine QH rfl ?_
 try simp only [cC]
 refine Pa (QV (cells := [_, _]) [(0, 1), (1, 1)] underlying93 zeroValue93 (fun _ => rfl) rfl rfl) ?_
 refine QI le_ sb_ ?_
 refine QH rfl ?_
 try simp only [cC]
 refine Qz (sz := 2) (wn0 rfl) rfl underlying76 sizeOf93 zeroValue93 rfl rfl rfl (by decide) (by decide) (fun b21 => ?_)
 refine QI le_ sb_ ?_
 refine QH rfl ?_
 try simp only [cC]
 refine Yd (e := 93) (sz := 2) (n := 1) (v := .slice (some ⟨b21, 0, none⟩) 1 1) (xs := Yt [(x.g.term, cmd)]) fd_ (fun R3 hR3 hfr hxl => ?_)
 have hvm := Qa4 (l := [(x.g.term, cmd)]) hfr
 refine Ra call87 (Qdc b.l b.d v.va v.u _ x.g D m x.g.last [(x.g.term, cmd)] hg (by unfold QM; omega) (hva.mono hR3) hvm (by simp) (by simp [QM]; omega) (by simp [XG]; omega) hD hm) ?_
 rintro r R4 L' hR4 ⟨rfl, u2, va2, hva2, rfl⟩
 rw [← hra] at hva2 ⊢
 have hR34 := Hp.le_trans hR3 hR4
 try simp only [cB]
 refine QI le_ sb_ ?_
 refine Xe ?_
 try simp only [cC]
 refine XE (wn0 rfl) rfl call74 rfl (zx b (v.logd u2 va2) x _) sp_ (fun ch Rp Lp hRp hpp => ?_) ?_
 ·obtain ⟨he1, rfl, rfl⟩ := hpp
  try simp only [cB]
  refine hpan _ _ _ _ ?_
  refine Yz _ (ndL b (v.logd u2 va2) { x with g := ra.2.1, down := true } ra.2.2) (by first | exact Hp.le_refl _ | assumption | exact Hp.le_trans ‹_› ‹_› | exact Hp.le_trans hR34 hRp) rfl sb_ ?_
  exact ⟨by rw [hE]; simp [QU, QP, he1], rfl, v.logd u2 va2, by rw [hE]; simp only [QU, QP, if_neg he1]; exact hv.logd (y := { x with g := ra.2.1, down := true }) (Hp.le_trans hR34 hRp) ⟨rfl, rfl⟩ (hva2.mono hRp), by rw [hE]; simp [QU, QP, he1]⟩
 rintro r R5 L' hR5 ⟨he0, rfl⟩
 have hx1 : NIn (k + 1) { x with g := ra.2.1 } := by rw [hra, Qbq (by rw [← hra]; exact he0)]; exact hx.add (fun e he => by simp at he; subst he; exact ⟨⟨by omega, by omega⟩, hcmd⟩) (by simp)
 have hR35 := Hp.le_trans hR34 hR5
 try simp only [cB]
 refine Qe ?_
 refine hK1 _ _ _ ?_
 refine Qd fun K2 hK2 => ?_
 refine Qc ?_
 refine Pm ?_
 refine Ra call88 (QgW b (v.logd u2 va2) { x with g := ra.2.1 } (k + 1) (by omega) hx1 (hva2.mono hR5) hv.vp hp) ?_
 rintro r R6 L' hR6 rfl
 have hx2 := NIn.count (by omega) hx1
 obtain ⟨c, hc⟩ := QfB { x with g := ra.2.1 }
 rw [hc] at hx2 ⊢
 have hR36 := Hp.le_trans hR35 hR6
 have hv2 : NOk R6 (v.logd u2 va2) { x with g := ra.2.1, commit := c } := hv.logd (y := { x with g := ra.2.1, commit := c }) hR36 ⟨rfl, rfl⟩ ((hva2.mono hR5).mono hR6)
 try simp only [cB]
 refine Qe ?_
 refine hK2 _ _ _ ?_
 refine Qc ?_
 refine Pm ?_
 refine Pm ?_
 refine Pa (YB rfl rfl) ?_
 refine Ra call69 (QdT b (v.logd u2 va2) { x with g := ra.2.1, commit := c } (k + 1) (by omega) hx2 hv2 hp) ?_
 rintro r R7 L' hR7 ⟨vo, css, hels, hvo, rfl⟩
 try simp only [cB]
 refine Qe ?_
 refine hend _ _ _ ?_
 have hF : QQ (x, D) cmd = (true, (ND.feedAll { x with g := ra.2.1, commit := c }, ra.2.2)) := by rw [hE]; simp [QU, QP, he0, hc]
 apply QD results64 .nil _ (ndL b ((v.logd u2 va2).sent vo css) (ND.feedAll { x with g := ra.2.1, commit := c }) ra.2.2) (Hp.le_trans hR36 hR7) rfl
 case hp => rw [hF]; exact ⟨rfl, _, hv2.sent hR7 (by rw [Xo]; exact Qgr _ _) hels hvo, rfl⟩
 case hS => rw [Xo] at *; (repeat (first|exact zR _|(apply zP;focus (repeat (first|exact zH _|apply zT)))|apply zD|exact zA _ _))
section
variable {c : Cx} {ops : Array Oper} {Q : Exit → Act → World → Prop} {E : Env} {R : Hp} {L : List Asn} {rest : List Oper} {ty : TypeId} {p : String} {af : Array Edge} {g : Option (Nat × Bool)}
theorem QlP (z : List Value) (n : Nat) (h : z ≠ []) : madeCells ⟨z⟩ (n * z.length) = ⟨(List.replicate n z).flatten⟩ := by
 have hl : 0 < z.length := List.length_pos_iff.2 h
 apply Array.ext'
 simp only [madeCells, Array.toList_map, Array.toList_range]
 apply List.ext_getElem?
 intro i
 rw [List.getElem?_map]
 by_cases hi : i < n * z.length
 ·have hm : i % z.length < z.length := Nat.mod_lt _ hl
  have hd : i / z.length < n := by rw [Nat.div_lt_iff_lt_mul hl]; exact hi
  have h1 := Qb5 (n := z.length) (css := List.replicate n z) (i := i / z.length) (cs := z) (j := i % z.length) (u := z[i % z.length]) (fun c hc => by rw [List.eq_of_mem_replicate hc]) (by rw [List.getElem?_replicate, if_pos hd]) (List.getElem?_eq_getElem hm)
  rw [Nat.mul_comm, Nat.div_add_mod] at h1
  rw [h1, List.getElem?_range hi]
  simp [hm]
 ·rw [List.getElem?_eq_none (by simp; omega), List.getElem?_eq_none (by
   rw [Qb4 (n := z.length) (fun c hc => by rw [List.eq_of_mem_replicate hc])]
   simp; omega)]
  rfl
theorem QeQ {dd : Nat} {x : Operand} {t e : TypeId} {i : TypeInfo} {zz : Value} {n sz : Nat} {z : List Value} (hw : Wn c ops E ⟨some dd, .makeSlice t x x, ty, p, af, g⟩ true) (hn : Nat.blt dd c.n = true) (ht : c.P.underlying t = some (.slice e)) (hi : c.P.info? e = some i) (hz : i.zero = some zz)
  (hzc : zz.cells = ⟨z⟩) (hsz : i.size = sz) (hzl : z.length = sz) (h0 : 0 < sz) (e1 : ev E x = some (.int .i64 (n : Int))) (hb : i.bytes * n ≤ 281474976710656) (hm : n ≤ maxLen)
  (h : ∀ b, RJ c ops Q rest ((dd, .slice (some ⟨b, 0, none⟩) n n) :: E) R (slc e sz (.slice (some ⟨b, 0, none⟩) n n) n (List.replicate n z).flatten :: L)) : RJ c ops Q (⟨some dd, .makeSlice t x x, ty, p, af, g⟩ :: rest) E R L := by
 subst hsz
 refine QaO (v := fun b => .slice (some ⟨b, 0, none⟩) n n) (L' := fun b => slc e i.size (.slice (some ⟨b, 0, none⟩) n n) n (List.replicate n z).flatten :: L) hw rfl hn (fun a w hf hs => ⟨w.heap.size, w.alloc (.cells ⟨(List.replicate n z).flatten⟩ e (0, 0)), ?_, ?_⟩) h
 ·have hb' : (i.bytes : Int) * (n : Int) ≤ 281474976710656 := by rw [← Int.natCast_mul]; omega
  have hm' : (n : Int) ≤ 9223372036854775807 := by unfold maxLen at hm; omega
  have := run_make (P := c.P) w t e i zz ht hi hz .i64 .i64 n n (by omega) (by omega) hb' hm'
  rw [hzc, show ((n : Nat) : Int).toNat = n by simp, ← hzl, QlP z n (by intro h; rw [h] at hzl; simp at hzl; omega)] at this
  simp [execOp, hf.ev e1, this]
 ·refine Sat.turn (fun h hh => ?_) (hs.alloc (.cells ⟨(List.replicate n z).flatten⟩ e (0, 0)))
  have hxl : (List.replicate n z).flatten.length = n * i.size := by
   rw [Qb4 (n := i.size) (fun c hc => by rw [List.eq_of_mem_replicate hc]; exact hzl)]; simp
  exact ⟨hxl, .inr ⟨w.heap.size, n, (0, 0), [], [], rfl, by simpa using hh, fun o _ h => by simp at h, Nat.le_refl _, hm, by simp [hxl]⟩⟩
variable {M : List Asn}
theorem Qix {t kt et : TypeId} {ik : IntKind} {m x y : Operand} {b : Nat} {f : Int → Option Value} {n : Nat} {a : Int} {v : Value} (hm : c.P.underlying t = some (.map kt et)) (hd : c.P.underlying kt = some (.int ik))
  (hw : Wn c ops E ⟨none, .insert t m x y, ty, p, af, g⟩ true) (e1 : ev E m = some (.map (some b))) (e2 : ev E x = some (.int ik a)) (e3 : ev E y = some v) (fd : Find (Ya b ik f n) L M)
  (h : RJ c ops Q rest E R (Ya b ik (ZC f a v) (if (f a).isSome then n else n + 1) :: M)) : RJ c ops Q (⟨none, .insert t m x y, ty, p, af, g⟩ :: rest) E R L := by
 refine jA hw rfl (fun ac w hf hs => ?_) h
 obtain ⟨w', h1, h2⟩ := Qat hm hd (hs.find fd) a v
 exact ⟨w', by simp [execOp, hf.ev e1, hf.ev e2, hf.ev e3, h1], h2⟩
end
theorem Qaa (l : List (Int × Int)) (k : Nat) (z x : Int) (hz : z = k) (hk : k < l.length) : ZN (Xv l) (z.toNat * 2 + 0) (.int .u64 x) = Xv (l.set k (x, (l.getD k (0, 0)).2)) ∧ ZN (Xv l) (z.toNat * 2 + 1) (.int .u64 x) = Xv (l.set k ((l.getD k (0, 0)).1, x)) := by
 subst hz
 rw [show ((k : Nat) : Int).toNat = k by simp, yJ, yJ]
 have key : ∀ (l : List (Int × Int)) (k : Nat), k < l.length → (Xv l).set (k * 2 + 0) (.int .u64 x) = Xv (l.set k (x, (l.getD k (0, 0)).2)) ∧ (Xv l).set (k * 2 + 1) (.int .u64 x) = Xv (l.set k ((l.getD k (0, 0)).1, x)) := by
  intro l
  induction l with
  | nil => intro k h; simp at h
  | cons p l ih =>
   intro k h
   cases k with
   | zero => exact ⟨rfl, rfl⟩
   | succ k =>
    obtain ⟨h1, h2⟩ := ih k (by simpa using h)
    rw [Nat.add_zero] at h1
    have e : Xv (p :: l) = .int .u64 p.1 :: .int .u64 p.2 :: Xv l := rfl
    rw [e, show (k + 1) * 2 + 0 = k * 2 + 0 + 2 by omega, show (k + 1) * 2 + 1 = k * 2 + 1 + 2 by omega]
    simp only [List.set_cons_succ, List.getD_cons_succ]
    rw [h1, h2]
    exact ⟨rfl, rfl⟩
 exact key l k hk
def qG (n i : Nat) (z : Int) : List (Int × Int) := List.replicate i (z, 0) ++ List.replicate (n - i) (0, 0)
theorem Qjx {n i : Nat} (h : i ≤ n) (z : Int) : (qG n i z).length = n := by unfold qG; simp; omega
theorem Qjw {n i : Nat} (h : i < n) (z : Int) : (qG n i z).set i (z, ((qG n i z).getD i (0, 0)).2) = qG n (i + 1) z := by
 have e : List.replicate (n - i) ((0 : Int), (0 : Int)) = (0, 0) :: List.replicate (n - (i + 1)) (0, 0) := by
  rw [show n - i = (n - (i + 1)) + 1 by omega, List.replicate_succ]
 unfold qG
 rw [e]
 have : (List.replicate i (z, (0 : Int)) ++ (0, 0) :: List.replicate (n - (i + 1)) (0, 0)).getD i (0, 0) = (0, 0) := by
  simp [List.getD_eq_getElem?_getD]
 rw [this, List.set_append_right _ _ (by simp)]
 simp [List.replicate_succ', List.append_assoc]
theorem Qjy (n : Nat) (z : Int) : qG n n z = List.replicate n (z, 0) := by unfold qG; simp
theorem Qic (n : Nat) (z : Int) : Xv (qG n 0 z) = (List.replicate n [Value.int .u64 0, Value.int .u64 0]).flatten := by
 unfold qG Xv
 simp [Qcp]
theorem NIn.wins {k : Nat} (hk : k ≤ 100) {x : ND} (h : NIn k x) : NIn k x.wins := by
 have h1 := h.base
 have h2 := h.alln
 have hl : x.g.last = x.g.base + x.g.all.length := rfl
 exact ⟨h.idn, h.term, h.vote, h.base, h.baseT, h.state, h.alln, h.all, h.commit, ⟨by show (0 : Int) ≤ 0; omega, by show (0 : Int) ≤ _; omega⟩, fun _ => by show (List.replicate _ _).length = _; simp; rfl, fun p hp => by
  have := List.eq_of_mem_replicate hp
  subst this
  refine ⟨⟨?_, ?_⟩, ?_, ?_⟩ <;> simp <;> omega, h.votes, h.out⟩
theorem QkM {R : Hp} (b : NB) (v : NV) (x : ND) (D : DK) (k m : Nat) (hk : k ≤ 60) (hx : NIn k x) (hv : NOk R v x) (hD : D.ok m) (hm : m ≤ 900000000) :
   Tri prog 92 [.pointer (some ⟨b.x, 0, none⟩)] R (ndL b v x D) (jn b (Zs (x, D))) (jo b (Zs (x, D))) := by
 have hg := hx.g (by omega)
 have hlb := LG.last_b hg
 have hva := hv.va
 have hidn := hx.idn
 have hE : Zs (x, D) = QQ (x.wins, D) [] := rfl
 refine Qn func92 rfl ntmps92 rfl (fun σ F Q hret hend hpan => ?_)
 try simp only [cB]
 refine Qd fun K1 hK1 => ?_
 refine Qc ?_
 refine Pm ?_
 refine Pm ?_
 refine Pm ?_
 refine Pm ?_
 refine Pa (Qf rfl) ?_
 refine Pa (Ga underlying109 sizeOf3) ?_
 refine Pa (La o3) ?_
 refine Pa (Qf rfl) ?_
 refine Pa (Ga underlying109 sizeOf3) ?_
 refine Sa o3 ?_
 refine Pa (Qf rfl) ?_
 refine Pa (Ga underlying109 sizeOf3) ?_
 refine Sa o3 ?_
 refine Pa (Qf rfl) ?_
 refine Pa (Ga underlying109 sizeOf3) ?_
 refine Sa o3 ?_
 refine Qe ?_
 refine hK1 _ _ _ ?_
 refine Qd fun K2 hK2 => ?_
 refine Qc ?_
 refine Pm ?_
 refine Pm ?_
 refine Pa (Qf rfl) ?_
 refine Pa (Ga underlying109 sizeOf3) ?_
 refine Pa (La o3) ?_
 refine QeQ (sz := 2) (wn0 rfl) rfl underlying107 rfl rfl rfl rfl rfl (by decide) rfl (by show 16 * _ ≤ _; omega) (by simp only [maxLen]; omega) (fun bp => ?_)
 rw [← Qic x.n (x.g.last + 1)]
 refine Pa (Qf rfl) ?_
 refine Pa (Ga underlying109 sizeOf107) ?_
 refine Sa Qc8 ?_
 refine Qe ?_
 refine hK2 _ _ _ ?_
 refine Ql (eL 0 rfl eN) ?_
 refine Qd fun K3 hK3 => ?_
 refine Qd fun K4 hK4 => ?_
 refine Qc ?_
 refine Pm ?_
 refine Pa (Qf rfl) ?_
 refine Pa (Ga underlying109 sizeOf107) ?_
 refine Pa (La Qc8) ?_
 refine Pa (QR underlying107 rfl) ?_
 refine Pm ?_
 refine Qe ?_
 refine hK4 _ _ _ ?_
 refine Qp ?_
 refine Ql (E' := (fun (x1 : Nat) => [(0, .pointer (some ⟨b.x, 0, none⟩)), (28, .int .i64 (x.n : Int)), (29, .int .i64 (x1 : Int))]) 0) (eC rfl (eC rfl (eC rfl eN))) ?_
 refine Xi (M := (fun (x1 : Nat) => slc 161 2 (.slice (some ⟨bp, 0, none⟩) x.n x.n) x.n (Xv (qG x.n x1 (x.g.last + 1))) :: ndB b { v with vp := .slice (some ⟨bp, 0, none⟩) x.n x.n } x.wins :: lgN b v x :: dkB b.d v.u D :: dkS v.u D :: mpA v.vm x.votes :: XQ v x :: F) 0) sb_ ?_
 refine QY (fun (x1 : Nat) => [(0, .pointer (some ⟨b.x, 0, none⟩)), (28, .int .i64 (x.n : Int)), (29, .int .i64 (x1 : Int))]) (fun (x1 : Nat) => R) (fun (x1 : Nat) => slc 161 2 (.slice (some ⟨bp, 0, none⟩) x.n x.n) x.n (Xv (qG x.n x1 (x.g.last + 1))) :: ndB b { v with vp := .slice (some ⟨bp, 0, none⟩) x.n x.n } x.wins :: lgN b v x :: dkB b.d v.u D :: dkS v.u D :: mpA v.vm x.votes :: XQ v x :: F) (fun (x1 : Nat) => x1 ≤ x.n) (fun (x1 : Nat) => x.n - x1) 0 (by simp) ?_
 rintro i hi
 try dsimp only
 refine Qd fun K5 hK5 => ?_
 refine Qc ?_
 refine Pa (QO rfl rfl) ?_
 refine Qe ?_
 refine hK5 _ _ _ ?_
 refine Qd fun K6 hK6 => ?_
 refine Qm rfl (fun hc30 => ?_) (fun hc30 => ?_)
 ·try simp only [dx] at hc30
  refine Qj ?_
  refine hK6 _ _ _ ?_
  refine Qd fun K8 hK8 => ?_
  refine Qp ?_
  refine Qd fun K9 hK9 => ?_
  refine Qc ?_
  have hin : i < x.n := by (try simp at hc30); omega
  have hwl := Qjx (Nat.le_of_lt hin) (x.g.last + 1)
  refine Pm ?_
  refine Ps ?_
  refine Qe ?_
  refine hK9 _ _ _ ?_
  refine Xd (L := [ndB b { v with vp := .slice (some ⟨bp, 0, none⟩) x.n x.n } x.wins, lgN b v x, slc 161 2 (.slice (some ⟨bp, 0, none⟩) x.n x.n) x.n (Xv (qG x.n i (x.g.last + 1)))]) [0, 1, 2, 3, 4, 5, 6, 7, 8, 9, 10, 11, 12] [] [13] _ sb_ (by kernel_rfl) (by kernel_rfl) (by kernel_rfl) rfl ?_
  refine Wa rfl (fun R1 hR1 G => (Qg rfl)) ?_
  refine Wa rfl (fun R1 hR1 G => (Qf rfl)) ?_
  refine Wa rfl (fun R1 hR1 G => (Ga underlying109 sizeOf107)) ?_
  refine Wa rfl (fun R1 hR1 G => (La Qc8)) ?_
  refine Wa rfl (fun R1 hR1 G => (Qg rfl)) ?_
  refine Wa rfl (fun R1 hR1 G => (Qg rfl)) ?_
  refine Wa rfl (fun R1 hR1 G => (Qf rfl)) ?_
  refine Wa rfl (fun R1 hR1 G => (Ga underlying109 sizeOf55)) ?_
  refine Wa rfl (fun R1 hR1 G => (La o55)) ?_
  refine Wa rfl (fun R1 hR1 G => (Ca call60 (YC b.l (some ⟨b.d, 0, none⟩) v.va x.g hg (hva.mono hR1)))) ?_
  refine Wa rfl (fun R1 hR1 G => (Zq rfl rfl (by omega))) ?_
  refine Wa rfl (fun R1 hR1 G => (XA underlying107 sizeOf161 rfl rfl fd_ (by omega))) ?_
  refine Wa rfl (fun R1 hR1 G => (Zw (k := 0) underlying161 rfl (m := 1) (by decide) sizeOf36 rfl fd_ (by omega))) ?_
  refine Xc ?_
  refine Xe ?_
  try simp only [cC]
  refine ZF (ys := Xv (qG x.n (i + 1) (x.g.last + 1))) o36 (wn0 rfl) rfl rfl rfl fd_ (by rw [zW, hwl]; simp; omega) (by rw [(Qaa _ i _ _ rfl (by omega)).1, Qjw hin]) (by omega) ?_
  refine Qe ?_
  refine hK8 _ _ _ ?_
  refine Ql (eL 0 rfl (eL 28 rfl (eL 29 rfl eN))) ?_
  refine Qc ?_
  refine Pa (Qt rfl rfl om_) ?_
  refine Pm ?_
  refine Qe ?_
  refine Xl (q' := QS _ _ _ _ _ _ _) rfl ?_
  refine QC (i + 1) (by omega) (by omega) (eC rfl (eC rfl (eC rfl eN))) rfl sb_
 ·try simp only [dx] at hc30
  refine QL ?_
  refine hK3 _ _ _ ?_
  refine Qc ?_
  obtain rfl : i = x.n := by (try simp at hc30); omega
  have hpl : x.wins.peers.length = x.n := by simp [ND.wins]
  have hvw : NOk R { v with vp := .slice (some ⟨bp, 0, none⟩) x.n x.n } x.wins := ⟨hva, hv.out, hv.vm, rfl, hv.vo, fun h => by cases h⟩
  refine Pm ?_
  refine Xu (A := slc 161 2 (.slice (some ⟨bp, 0, none⟩) x.n x.n) x.n (Xv (qG x.n x.n (x.g.last + 1)))) (B := prA { v with vp := .slice (some ⟨bp, 0, none⟩) x.n x.n } x.wins) fd_ (fun h hh => by rw [Qjy] at hh; show slc _ _ _ x.wins.peers.length _ h; rw [hpl]; exact hh) ?_
  refine XE (wn0 rfl) rfl call64 rfl (QgP b { v with vp := .slice (some ⟨bp, 0, none⟩) x.n x.n } x.wins D [] k m hk (NIn.wins (by omega) hx) hvw hpl (by simp) hD hm) sp_ (fun ch Rp Lp hRp hpp => ?_) ?_
  · obtain ⟨hF, rfl, v2, hv2, rfl⟩ := hpp
    try simp only [cB]
    refine hpan _ _ _ _ ?_
    refine Yz _ (ndL b v2 (QQ (x.wins, D) []).2.1 (QQ (x.wins, D) []).2.2) (by first | exact Hp.le_refl _ | assumption | exact Hp.le_trans ‹_› ‹_›) rfl sb_ ?_
    exact ⟨hF, rfl, v2, hv2, rfl⟩
  rintro r R8 L' hR8 ⟨hF, v2, hv2, rfl⟩
  try simp only [cB]
  refine Qe ?_
  refine hend _ _ _ ?_
  apply QD results92 .nil _ (ndL b v2 (QQ (x.wins, D) []).2.1 (QQ (x.wins, D) []).2.2) hR8 rfl
  case hp => exact ⟨hF, v2, hv2, rfl⟩
  case hS => exact sb_
theorem NIn.set {k : Nat} {x : ND} (h : NIn k x) {t vt : Int} (ht : 0 ≤ t ∧ t ≤ 2305843009213693952 + (k + 1)) (hv : -1 ≤ vt ∧ vt < 9) : NIn (k + 1) { x with g := { x.g with term := t, vote := vt } } := by
 have h1 := h.le (show k ≤ k + 1 by omega)
 exact ⟨h1.idn, ⟨ht.1, by have := ht.2; show t ≤ _; omega⟩, hv, h1.base, h1.baseT, h1.state, h1.alln, h1.all, h1.commit, h1.patience, h1.peers, h1.peer, h1.votes, h1.out⟩
theorem Qg7 (i : Int) : ZC (fun _ => none) i (.bool true) = qc [i] := by
 funext k
 unfold ZC qc
 by_cases h : k = i <;> simp [h]
theorem QbM {g : LG} {D : DK} {t vt : Int} : (g.setTermD D t vt).2.1.all = g.all := by
 unfold LG.setTermD
 repeat (first | split | rfl)
theorem NIn.stands {k : Nat} {x : ND} (h : NIn k x) : NIn k x.stands :=
 ⟨h.idn, h.term, h.vote, h.base, h.baseT, h.state, h.alln, h.all, h.commit, ⟨by show (0 : Int) ≤ 0; omega, by show (0 : Int) ≤ _; omega⟩, fun hr => absurd (show (1 : Int) = 2 from hr) (by decide), h.peer, ⟨by show [(x.id : Int)].Nodup; simp, fun i hi => by
  have : i ∈ [(x.id : Int)] := hi
  simp at this
  subst this
  have := h.idn
  exact ⟨by omega, by show (x.id : Int) < x.n; omega⟩⟩, h.out⟩
theorem Qgq {g : LG} {D : DK} {m : Nat} (h : D.ok m) {t vt : Int} (ht : QM t) (hv : -9223372036854775808 ≤ vt ∧ vt < 9223372036854775807) : (g.setTermD D t vt).2.2.ok (m + 44) := by
 have h0 : D.ok (m + 44) := ⟨h.1, by have := h.2.1; omega, h.2.2⟩
 unfold LG.setTermD
 split
 ·exact h0
 ·split
  ·exact h0
  ·rename_i h1 h2
   have hl := Rec.len_term ht (v := vt) ⟨by omega, hv.2⟩
   have hp := DK.put_ok h (Rec.term t vt).bytes
   have hb : (Rec.term t vt).bytes.length ≤ 44 := by unfold Rec.bytes; rw [List.length_append, Yy]; omega
   have hq : (D.put (Rec.term t vt).bytes).2.ok (m + 44) := ⟨hp.1, by have := hp.2.1; omega, hp.2.2⟩
   split <;> exact hq
theorem Qgo {R : Hp} (b : NB) (v : NV) (x : ND) (D : DK) (k m : Nat) (hk : k ≤ 50) (hx : NIn k x) (hv : NOk R v x) (hD : D.ok m) (hm : m ≤ 800000000) :
   Tri prog 72 [.pointer (some ⟨b.x, 0, none⟩)] R (ndL b v x D) (jn b (Yh (x, D))) (jo b (Yh (x, D))) := by
 have hg := hx.g (by omega)
 have hva := hv.va
 have hidn := hx.idn
 have hterm := hx.term
 obtain ⟨ra, hra⟩ : ∃ r, r = x.g.setTermD D (x.g.term + 1) x.id := ⟨_, rfl⟩
 have hE : Yh (x, D) = QU (QP (x, D) ra) fun s => if s.1.n = 1 then Zs (s.1.stands, s.2) else (true, (s.1.stands.askAll, s.2)) := by rw [hra]; rfl
 refine Qn func72 rfl ntmps72 rfl (fun σ F Q hret hend hpan => ?_)
 try simp only [cB]
 refine Qd fun K1 hK1 => ?_
 refine Qc ?_
 refine Xa (wn0 rfl) rfl rfl rfl (fun bX => ?_)
 refine Qe ?_
 refine hK1 _ _ _ ?_
 refine Qd fun K2 hK2 => ?_
 refine Xd (L := [ndB b v x, blk bX [.pointer (some ⟨b.x, 0, none⟩)] 56]) [0, 1, 2, 3, 4, 5, 6, 7, 8, 11, 12, 13, 14] [9, 10, 15] [16] _ sb_ (by kernel_rfl) (by kernel_rfl) (by kernel_rfl) rfl ?_
 refine Wa rfl (fun R1 hR1 G => (La o56)) ?_
 refine Wa rfl (fun R1 hR1 G => (La o56)) ?_
 refine Wa rfl (fun R1 hR1 G => (Qf rfl)) ?_
 refine Wa rfl (fun R1 hR1 G => (Ga underlying109 sizeOf55)) ?_
 refine Wa rfl (fun R1 hR1 G => (La o55)) ?_
 refine Wa rfl (fun R1 hR1 G => (La o56)) ?_
 refine Wa rfl (fun R1 hR1 G => (Qf rfl)) ?_
 refine Wa rfl (fun R1 hR1 G => (Ga underlying109 sizeOf55)) ?_
 refine Wa rfl (fun R1 hR1 G => (La o55)) ?_
 refine Wa rfl (fun R1 hR1 G => (La o56)) ?_
 refine Wa rfl (fun R1 hR1 G => (Qf rfl)) ?_
 refine Wa rfl (fun R1 hR1 G => (Ga underlying109 sizeOf3)) ?_
 refine Wa rfl (fun R1 hR1 G => (La o3)) ?_
 refine Xc ?_
 refine QH rfl ?_
 try simp only [cC]
 refine Pa (Ca call24 (YV b.l (some ⟨b.d, 0, none⟩) v.va x.g)) ?_
 refine QI le_ sb_ ?_
 refine QH rfl ?_
 try simp only [cC]
 refine Pa (Zq rfl rfl (by omega)) ?_
 refine QI le_ sb_ ?_
 refine QH rfl ?_
 try simp only [cC]
 refine Ra call75 (je b.l b.d v.va v.u x.g D m (x.g.term + 1) x.id hg (by unfold QM; omega) (by omega) (by omega) hva.one hD (by omega)) ?_
 rintro r R4 L' hR4 ⟨rfl, u2, rfl⟩
 rw [← hra]
 have hall : ra.2.1.all = x.g.all := by rw [hra]; exact QbM
 try simp only [cB]
 refine QI le_ sb_ ?_
 refine Xe ?_
 try simp only [cC]
 refine XE (wn0 rfl) rfl call74 rfl (zx b (v.logd u2 v.va) x _) sp_ (fun ch Rp Lp hRp hpp => ?_) ?_
 · obtain ⟨he1, rfl, rfl⟩ := hpp
   try simp only [cB]
   refine hpan _ _ _ _ ?_
   refine Yz _ (ndL b (v.logd u2 v.va) { x with g := ra.2.1, down := true } ra.2.2) (by first | exact Hp.le_refl _ | assumption | exact Hp.le_trans ‹_› ‹_› | exact Hp.le_trans hR4 hRp) rfl sb_ ?_
   exact ⟨by rw [hE]; simp [QU, QP, he1], rfl, v.logd u2 v.va, by rw [hE]; simp only [QU, QP, if_neg he1]; exact hv.logd (y := { x with g := ra.2.1, down := true }) (Hp.le_trans hR4 hRp) ⟨rfl, rfl⟩ (by show FrX entE Rp ra.2.1.all v.va; rw [hall]; exact hva.mono (Hp.le_trans hR4 hRp)), by rw [hE]; simp [QU, QP, he1]⟩
 rintro r R5 L' hR5 ⟨he0, rfl⟩
 have hx1 : NIn (k + 1) { x with g := ra.2.1 } := by rw [hra, Qc0 (by rw [← hra]; exact he0)]; exact hx.set (by omega) (by omega)
 have hR45 := Hp.le_trans hR4 hR5
 have hv1 : NOk R5 (v.logd u2 v.va) { x with g := ra.2.1 } := hv.logd (y := { x with g := ra.2.1 }) hR45 ⟨rfl, rfl⟩ (by show FrX entE R5 ra.2.1.all v.va; rw [hall]; exact hva.mono hR45)
 try simp only [cB]
 refine Qe ?_
 refine hK2 _ _ _ ?_
 refine Qd fun K3 hK3 => ?_
 refine Xd (L := [blk bX [.pointer (some ⟨b.x, 0, none⟩)] 56]) [0, 1, 2, 3, 4] [5, 6, 7, 8] [9, 10, 11] _ sb_ (by kernel_rfl) (by kernel_rfl) (by kernel_rfl) rfl ?_
 refine Wa rfl (fun R1 hR1 G => (La o56)) ?_
 refine Wa rfl (fun R1 hR1 G => (La o56)) ?_
 refine Wa rfl (fun R1 hR1 G => (La o56)) ?_
 refine Wa rfl (fun R1 hR1 G => (Qf rfl)) ?_
 refine Wa rfl (fun R1 hR1 G => (Ga underlying109 sizeOf3)) ?_
 refine Xc ?_
 refine QH rfl ?_
 try simp only [cC]
 refine Sa o3 ?_
 refine QI le_ sb_ ?_
 refine QH rfl ?_
 try simp only [cC]
 refine Pa (Qf rfl) ?_
 refine QI le_ sb_ ?_
 refine QH rfl ?_
 try simp only [cC]
 refine Pa (Ga underlying109 sizeOf3) ?_
 refine QI le_ sb_ ?_
 refine QH rfl ?_
 try simp only [cC]
 refine Sa o3 ?_
 refine QI le_ sb_ ?_
 refine Xe ?_
 try simp only [cC]
 refine Pa (Qf rfl) ?_
 refine Pa (Ga underlying109 sizeOf3) ?_
 refine Sa o3 ?_
 refine Qe ?_
 refine hK3 _ _ _ ?_
 refine Ql (eL 1 rfl eN) ?_
 refine Qd fun K4 hK4 => ?_
 refine Xd (L := [blk bX [.pointer (some ⟨b.x, 0, none⟩)] 56, ndB b (v.logd u2 v.va) { x with role := 1, leader := -1, patience := 0 }]) [0, 2, 3, 4, 5] [1, 6, 7] [8, 9, 10] _ sb_ (by kernel_rfl) (by kernel_rfl) (by kernel_rfl) rfl ?_
 refine Wa rfl (fun R1 hR1 G => (La o56)) ?_
 refine Wa rfl (fun R1 hR1 G => (La o56)) ?_
 refine Wa rfl (fun R1 hR1 G => (Qf rfl)) ?_
 refine Wa rfl (fun R1 hR1 G => (Ga underlying109 sizeOf3)) ?_
 refine Wa rfl (fun R1 hR1 G => (La o3)) ?_
 refine Xc ?_
 refine QH rfl ?_
 try simp only [cC]
 refine yS (ik := .i64) (wn0 rfl) rfl (fun bm => ?_)
 refine QI le_ sb_ ?_
 refine QH rfl ?_
 try simp only [cC]
 refine Qix underlying39 underlying3 (wn0 rfl) rfl rfl rfl fd_ ?_
 refine QI le_ sb_ ?_
 refine QH rfl ?_
 try simp only [cC]
 refine Pm ?_
 refine QI le_ sb_ ?_
 refine Xe ?_
 try simp only [cC]
 refine Pa (Qf rfl) ?_
 refine Pa (Ga underlying109 sizeOf39) ?_
 refine Sa o39 ?_
 refine Qe ?_
 refine hK4 _ _ _ ?_
 refine Qd fun K5 hK5 => ?_
 refine Qd fun K6 hK6 => ?_
 refine Qc ?_
 refine Xu (A := Ya bm .i64 (ZC (fun _ => none) (x.id : Int) (.bool true)) (if ((fun _ => none : Int → Option Value) (x.id : Int)).isSome then 0 else 0 + 1)) (B := mpA (.map (some bm)) [(x.id : Int)]) fd_ (fun h hh => by rw [Qg7] at hh; exact hh) ?_
 obtain ⟨y, hy⟩ : ∃ y, y = ND.stands { x with g := ra.2.1 } := ⟨_, rfl⟩
 obtain ⟨v2, hv2d⟩ : ∃ v2 : NV, v2 = { (v.logd u2 v.va) with vm := .map (some bm) } := ⟨_, rfl⟩
 have hy1 : NIn (k + 1) y := by rw [hy]; exact hx1.stands
 have hyv : NOk R5 v2 y := by rw [hy, hv2d]; exact ⟨hv1.va, hv1.out, rfl, hv1.vp, hv1.vo, fun _ => ⟨bm, rfl⟩⟩
 have hDk : ra.2.2.ok (m + 44) := by rw [hra]; exact Qgq hD (by unfold QM; omega) (by omega)
 have hgy := hy1.g (by omega)
 refine Pa (La o56) ?_
 refine Pa (Qf rfl) ?_
 refine Pa (Ga underlying109 sizeOf3) ?_
 refine Pa (La o3) ?_
 refine Pa (QB rfl rfl) ?_
 refine Qe ?_
 refine hK6 _ _ _ ?_
 refine Qm rfl (fun hc42 => ?_) (fun hc42 => ?_)
 ·have f1 : x.n = 1 := by (try simp at hc42); omega
  have hE2 : Yh (x, D) = Zs (y, ra.2.2) := by rw [hE, hy]; simp [QU, QP, he0, f1]
  refine Qd fun K8 hK8 => ?_
  refine Qc ?_
  refine Xu (A := blk b.x _ 109) (B := ndB b v2 y) fd_ (fun h hh => by rw [hy, hv2d]; exact hh) ?_
  refine Xu (A := lgB b.l _ v.va ra.2.1) (B := lgN b v2 y) fd_ (fun h hh => by rw [hy, hv2d]; exact hh) ?_
  refine Xu (A := dkB b.d u2 ra.2.2) (B := dkB b.d v2.u ra.2.2) fd_ (fun h hh => by rw [hv2d]; exact hh) ?_
  refine Xu (A := dkS u2 ra.2.2) (B := dkS v2.u ra.2.2) fd_ (fun h hh => by rw [hv2d]; exact hh) ?_
  refine Xu (A := prA v x) (B := prA v2 y) fd_ (fun h hh => by rw [hy, hv2d]; exact hh) ?_
  refine Xu (A := mpA (.map (some bm)) [(x.id : Int)]) (B := mpA v2.vm y.votes) fd_ (fun h hh => by rw [hy, hv2d]; exact hh) ?_
  refine Xu (A := XQ v x) (B := XQ v2 y) fd_ (fun h hh => by rw [hy, hv2d]; exact hh) ?_
  refine Pa (La o56) ?_
  refine XE (wn0 rfl) rfl call92 rfl (QkM b v2 y ra.2.2 (k + 1) (m + 44) (by omega) hy1 hyv hDk (by omega)) sp_ (fun ch Rp Lp hRp hpp => ?_) ?_
  · obtain ⟨hF, rfl, v3, hv3, rfl⟩ := hpp
    try simp only [cB]
    refine hpan _ _ _ _ ?_
    refine Yz _ (ndL b v3 (Zs (y, ra.2.2)).2.1 (Zs (y, ra.2.2)).2.2) (by first | exact Hp.le_refl _ | assumption | exact Hp.le_trans ‹_› ‹_› | exact Hp.le_trans hR45 hRp) rfl sb_ ?_
    exact ⟨by rw [hE2]; exact hF, rfl, v3, by rw [hE2]; exact hv3, by rw [hE2]⟩
  rintro r R8 L' hR8 ⟨hF, v3, hv3, rfl⟩
  try simp only [cB]
  refine Qe ?_
  refine hK8 _ _ _ ?_
  refine Ql eN ?_
  refine Qi ?_
  refine hret _ _ _ ?_
  refine Ea results72 .nil (ndL b v3 (Zs (y, ra.2.2)).2.1 (Zs (y, ra.2.2)).2.2) (by exact Hp.le_trans hR45 hR8) ?_
  rw [hE2]; exact ⟨hF, v3, hv3, rfl⟩
 ·have f1 : ¬ x.n = 1 := by (try simp at hc42); omega
  have hE2 : Yh (x, D) = (true, (y.askAll, ra.2.2)) := by rw [hE, hy]; simp [QU, QP, he0, f1]
  refine Qj ?_
  refine hK5 _ _ _ ?_
  refine Qd fun K9 hK9 => ?_
  refine Qc ?_
  refine Pa (La o56) ?_
  refine Pa (Qf rfl) ?_
  refine Pa (Ga underlying109 sizeOf55) ?_
  refine Pa (La o55) ?_
  refine Pa (Ca call60 (YC b.l (some ⟨b.d, 0, none⟩) v.va ra.2.1 (by rw [hy] at hgy; exact hgy) hv1.va)) ?_
  refine QA (wn0 rfl) rfl zeroValue36 rfl (fun bL => ?_)
  refine Sa o36 ?_
  refine Qe ?_
  refine hK9 _ _ _ ?_
  refine Ql (eL 1 rfl (eL 2 rfl eN)) ?_
  refine Qc ?_
  refine Xu (A := blk b.x _ 109) (B := ndB b v2 y) fd_ (fun h hh => by rw [hy, hv2d]; exact hh) ?_
  refine Xu (A := lgB b.l _ v.va ra.2.1) (B := lgN b v2 y) fd_ (fun h hh => by rw [hy, hv2d]; exact hh) ?_
  refine Xu (A := blk bL _ 36) (B := blk bL [.int .u64 y.g.last] 36) fd_ (fun h hh => by rw [hy]; exact hh) ?_
  refine Xu (A := XQ v x) (B := XQ v2 y) fd_ (fun h hh => by rw [hy, hv2d]; exact hh) ?_
  refine Pa (La o56) ?_
  refine Pa (YB rfl rfl) ?_
  refine Ra call69 (QkH b v2 y (k + 1) (by omega) hy1 hyv bX bL) ?_
  rintro r R8 L' hR8 ⟨vo, css, hels, hvo, rfl⟩
  try simp only [cB]
  refine Qe ?_
  refine hend _ _ _ ?_
  have hye : y.askAll.g = y.g ∧ y.askAll.role = y.role := by unfold ND.askAll; rw [qv]; exact Qgr _ _
  apply QD results72 .nil _ (ndL b (v2.sent vo css) y.askAll ra.2.2) (Hp.le_trans hR45 hR8) rfl
  case hp => rw [hE2]; exact ⟨rfl, _, hyv.sent hR8 hye hels hvo, rfl⟩
  case hS => unfold ND.askAll; rw [qv, hy, hv2d]; (repeat (first|exact zR _|(apply zP;focus (repeat (first|exact zH _|apply zT)))|apply zD|exact zA _ _))
theorem NIn.pat {k : Nat} {x : ND} (h : NIn k x) {p : Int} (hp : 0 ≤ p ∧ p ≤ 1000000000000 + k) : NIn k { x with patience := p } :=
 ⟨h.idn, h.term, h.vote, h.base, h.baseT, h.state, h.alln, h.all, h.commit, hp, h.peers, h.peer, h.votes, h.out⟩
theorem NOk.sends {R R' : Hp} {v : NV} {x : ND} (h : NOk R v x) (hR : R.le R') {l : List Msg} {vo : Value} {css : List (List Value)} (ho : Els msgE R' (x.sends l).out css) (hvo : vo.oneCell' = true) : NOk R' (v.sent vo css) (x.sends l) := h.sent (y := x.sends l) hR ⟨rfl, rfl⟩ ho hvo
theorem Qlh {R : Hp} (b : NB) (v : NV) (x : ND) (D : DK) (k m bX : Nat) (hk : k ≤ 40) (hx : NIn k x) (hv : NOk R v x) (hD : D.ok m) (hm : m ≤ 800000000) :
   Tri prog 68 [.pointer (some ⟨bX, 0, none⟩)] R (blk bX [.pointer (some ⟨b.x, 0, none⟩)] 56 :: ndL b v x D) (jn b (tickN (x, D))) (jo b (tickN (x, D))) := by
 have hpt := hx.patience
 have hx1 : NIn (k + 1) { x with patience := x.patience + 1 } := (hx.le (show k ≤ k + 1 by omega)).pat (by omega)
 have hx0 : NIn k { x with patience := 0 } := hx.pat (by omega)
 have hv1 : NOk R v { x with patience := x.patience + 1 } := hv.to (Hp.le_refl _) ⟨rfl, rfl, rfl⟩
 have hv0 : NOk R v { x with patience := 0 } := hv.to (Hp.le_refl _) ⟨rfl, rfl, rfl⟩
 refine Qn func68 rfl ntmps68 rfl (fun σ F Q hret hend hpan => ?_)
 try simp only [cB]
 refine Qd fun K1 hK1 => ?_
 refine Qc ?_
 refine Pa (La o56) ?_
 refine Pa (Qf rfl) ?_
 refine Pa (Ga underlying109 sizeOf3) ?_
 refine Pa (La o3) ?_
 refine Pa ((Qt rfl rfl (by omega))) ?_
 refine Pa (Qf rfl) ?_
 refine Pa (Ga underlying109 sizeOf3) ?_
 refine Sa o3 ?_
 refine Qe ?_
 refine hK1 _ _ _ ?_
 refine Qp ?_
 refine Qd fun K2 hK2 => ?_
 refine Qc ?_
 refine Pa (La o56) ?_
 refine Pa (Qf rfl) ?_
 refine Pa (Ga underlying109 sizeOf3) ?_
 refine Pa (La o3) ?_
 refine Pa (QB rfl rfl) ?_
 refine Pm ?_
 refine QE 14 rfl (fun hg14 => ?_) (fun hg14 => ?_)
 ·have f1 : x.role = 2 := by simpa using hg14
  have hp : x.peers.length = x.n := hx.peers f1
  refine Pb (La o56) ?_
  refine Pb (Qf rfl) ?_
  refine Pb (Ga underlying109 sizeOf3) ?_
  refine Pb (La o3) ?_
  refine Pb (YX rfl rfl) ?_
  refine Pa (Qr rfl rfl) ?_
  refine Ps ?_
  refine Qe ?_
  refine hK2 _ _ _ ?_
  refine Ql (eL 0 rfl (eL 8 rfl eN)) ?_
  refine Qm rfl (fun hc8 => ?_) (fun hc8 => ?_)
  ·first | (have f2 : x.patience + 1 ≥ 3 := by (try simp at hc8); omega); have hT : tickN (x, D) = (true, (ND.feedAll { x with patience := 0 }, D)) := by (unfold tickN; rw [if_pos f1, if_pos f2]) | skip
   refine Qd fun K4 hK4 => ?_
   refine Qc ?_
   refine Pa (La o56) ?_
   refine Pa (Qf rfl) ?_
   refine Pa (Ga underlying109 sizeOf3) ?_
   refine Sa o3 ?_
   refine Qe ?_
   refine hK4 _ _ _ ?_
   refine Qc ?_
   refine Pa (La o56) ?_
   refine Pa (La o56) ?_
   refine Pa (YB rfl rfl) ?_
   refine Ra call69 (QdT b v { x with patience := 0 } k (by omega) hx0 hv0 hp) ?_
   rintro r R7 L' hR7 ⟨vo, css, hels, hvo, rfl⟩
   rw [Xo] at hels hT ⊢
   try simp only [cB]
   refine Qe ?_
   refine hend _ _ _ ?_
   apply QD results68 .nil _ (ndL b (v.sent vo css) (ND.sends { x with patience := 0 } _) D) (by first | exact Hp.le_refl _ | assumption) rfl
   case hp => rw [hT]; exact ⟨rfl, _, hv0.sends hR7 hels hvo, rfl⟩
   case hS => exact sb_
  ·first | (have f2 : ¬ x.patience + 1 ≥ 3 := by (try simp at hc8); omega); have hT : tickN (x, D) = (true, ({ x with patience := x.patience + 1 }, D)) := by (unfold tickN; rw [if_pos f1, if_neg f2]) | skip
   refine Qd fun K5 hK5 => ?_
   refine Xr (by kernel_rfl) (by kernel_rfl) ?_
   refine Qa (La o56) ?_
   refine Qa (Qf rfl) ?_
   refine Qa (Ga underlying109 sizeOf3) ?_
   refine Qa (La o3) ?_
   refine Qa (XU rfl rfl) ?_
   refine Qa (Qg rfl) ?_
   refine YU 34 rfl (fun hg34 => ?_) (fun hg34 => ?_)
   ·have g1 : ¬ x.role = 2 := by simpa using hg34
    refine Qb (La o56) ?_
    refine Qb (Qf rfl) ?_
    refine Qb (Ga underlying109 sizeOf3) ?_
    refine Qb (La o3) ?_
    refine Qb (La o56) ?_
    refine Qb (Ca call71 (QgE b v { x with patience := x.patience + 1 } (k + 1) (by omega) hx1)) ?_
    refine Qb (YX rfl rfl) ?_
    refine Qa (Qr rfl rfl) ?_
    refine Qa (Xj rfl) ?_
    refine Xb ?_
    refine hK5 _ _ _ ?_
    refine Ql (eL 0 rfl (eL 28 rfl eN)) ?_
    refine Qm rfl (fun hc28 => ?_) (fun hc28 => ?_)
    ·first | (have f2 : x.patience + 1 ≥ Zi x.id x.g.term := by (try simp at hc28); omega); have hT2 : tickN (x, D) = Yh ({ x with patience := x.patience + 1 }, D) := by (unfold tickN; rw [if_neg g1, if_pos f2]) | skip
     refine Qc ?_
     refine Pa (La o56) ?_
     refine XE (wn0 rfl) rfl call72 rfl (Qgo b v { x with patience := x.patience + 1 } D (k + 1) m (by omega) hx1 hv1 hD hm) sp_ (fun ch Rp Lp hRp hpp => ?_) ?_
     · obtain ⟨hF, rfl, v3, hv3, rfl⟩ := hpp
       try simp only [cB]
       refine hpan _ _ _ _ ?_
       refine Yz _ (ndL b v3 (Yh ({ x with patience := x.patience + 1 }, D)).2.1 (Yh ({ x with patience := x.patience + 1 }, D)).2.2) (by first | exact Hp.le_refl _ | assumption | exact Hp.le_trans ‹_› ‹_›) rfl sb_ ?_
       exact ⟨by rw [hT2]; exact hF, rfl, v3, by rw [hT2]; exact hv3, by rw [hT2]⟩
     rintro r R8 L' hR8 ⟨hF, v3, hv3, rfl⟩
     try simp only [cB]
     refine Qe ?_
     refine hend _ _ _ ?_
     apply QD results68 .nil _ (ndL b v3 (Yh ({ x with patience := x.patience + 1 }, D)).2.1 (Yh ({ x with patience := x.patience + 1 }, D)).2.2) (by first | exact Hp.le_refl _ | assumption) rfl
     case hp => rw [hT2]; exact ⟨hF, v3, hv3, rfl⟩
     case hS => exact sb_
    ·first | (have f2 : ¬ x.patience + 1 ≥ Zi x.id x.g.term := by (try simp at hc28); omega); have hT : tickN (x, D) = (true, ({ x with patience := x.patience + 1 }, D)) := by (unfold tickN; rw [if_neg g1, if_neg f2]) | skip
     refine Qj ?_
     refine hend _ _ _ ?_
     apply QD results68 .nil _ (ndL b v { x with patience := x.patience + 1 } D) (by first | exact Hp.le_refl _ | assumption) rfl
     case hp => rw [hT]; exact ⟨rfl, _, hv1, rfl⟩
     case hS => exact sb_
   ·have g1 : x.role = 2 := by simpa using hg34
    first | (have hT : tickN (x, D) = (true, ({ x with patience := x.patience + 1 }, D)) := absurd g1 f1) | skip
    refine Qk ?_
    refine Qk ?_
    refine Qk ?_
    refine Qk ?_
    refine Qk ?_
    refine Qk ?_
    refine Qk ?_
    refine Qa (Qo rfl rfl) ?_
    refine Qa (Xj rfl) ?_
    refine Xb ?_
    refine hK5 _ _ _ ?_
    refine Qs rfl ?_
    refine Qj ?_
    refine hend _ _ _ ?_
    apply QD results68 .nil _ (ndL b v { x with patience := x.patience + 1 } D) (by first | exact Hp.le_refl _ | assumption) rfl
    case hp => rw [hT]; exact ⟨rfl, _, hv1, rfl⟩
    case hS => exact sb_
 ·have f1 : ¬ x.role = 2 := by simpa using hg14
  refine Pk ?_
  refine Pk ?_
  refine Pk ?_
  refine Pk ?_
  refine Pk ?_
  refine Pa (Qo rfl rfl) ?_
  refine Ps ?_
  refine Qe ?_
  refine hK2 _ _ _ ?_
  refine Qs rfl ?_
  refine Qd fun K7 hK7 => ?_
  refine Xr (by kernel_rfl) (by kernel_rfl) ?_
  refine Qa (La o56) ?_
  refine Qa (Qf rfl) ?_
  refine Qa (Ga underlying109 sizeOf3) ?_
  refine Qa (La o3) ?_
  refine Qa (XU rfl rfl) ?_
  refine Qa (Qg rfl) ?_
  refine YU 34 rfl (fun hg34 => ?_) (fun hg34 => ?_)
  ·have g1 : ¬ x.role = 2 := by simpa using hg34
   refine Qb (La o56) ?_
   refine Qb (Qf rfl) ?_
   refine Qb (Ga underlying109 sizeOf3) ?_
   refine Qb (La o3) ?_
   refine Qb (La o56) ?_
   refine Qb (Ca call71 (QgE b v { x with patience := x.patience + 1 } (k + 1) (by omega) hx1)) ?_
   refine Qb (YX rfl rfl) ?_
   refine Qa (Qr rfl rfl) ?_
   refine Qa (Xj rfl) ?_
   refine Xb ?_
   refine hK7 _ _ _ ?_
   refine Ql (eL 0 rfl (eL 28 rfl eN)) ?_
   refine Qm rfl (fun hc28 => ?_) (fun hc28 => ?_)
   ·first | (have f2 : x.patience + 1 ≥ Zi x.id x.g.term := by (try simp at hc28); omega); have hT2 : tickN (x, D) = Yh ({ x with patience := x.patience + 1 }, D) := by (unfold tickN; rw [if_neg g1, if_pos f2]) | skip
    refine Qc ?_
    refine Pa (La o56) ?_
    refine XE (wn0 rfl) rfl call72 rfl (Qgo b v { x with patience := x.patience + 1 } D (k + 1) m (by omega) hx1 hv1 hD hm) sp_ (fun ch Rp Lp hRp hpp => ?_) ?_
    · obtain ⟨hF, rfl, v3, hv3, rfl⟩ := hpp
      try simp only [cB]
      refine hpan _ _ _ _ ?_
      refine Yz _ (ndL b v3 (Yh ({ x with patience := x.patience + 1 }, D)).2.1 (Yh ({ x with patience := x.patience + 1 }, D)).2.2) (by first | exact Hp.le_refl _ | assumption | exact Hp.le_trans ‹_› ‹_›) rfl sb_ ?_
      exact ⟨by rw [hT2]; exact hF, rfl, v3, by rw [hT2]; exact hv3, by rw [hT2]⟩
    rintro r R8 L' hR8 ⟨hF, v3, hv3, rfl⟩
    try simp only [cB]
    refine Qe ?_
    refine hend _ _ _ ?_
    apply QD results68 .nil _ (ndL b v3 (Yh ({ x with patience := x.patience + 1 }, D)).2.1 (Yh ({ x with patience := x.patience + 1 }, D)).2.2) (by first | exact Hp.le_refl _ | assumption) rfl
    case hp => rw [hT2]; exact ⟨hF, v3, hv3, rfl⟩
    case hS => exact sb_
   ·first | (have f2 : ¬ x.patience + 1 ≥ Zi x.id x.g.term := by (try simp at hc28); omega); have hT : tickN (x, D) = (true, ({ x with patience := x.patience + 1 }, D)) := by (unfold tickN; rw [if_neg g1, if_neg f2]) | skip
    refine Qj ?_
    refine hend _ _ _ ?_
    apply QD results68 .nil _ (ndL b v { x with patience := x.patience + 1 } D) (by first | exact Hp.le_refl _ | assumption) rfl
    case hp => rw [hT]; exact ⟨rfl, _, hv1, rfl⟩
    case hS => exact sb_
  ·have g1 : x.role = 2 := by simpa using hg34
   first | (have hT : tickN (x, D) = (true, ({ x with patience := x.patience + 1 }, D)) := absurd g1 f1) | skip
   refine Qk ?_
   refine Qk ?_
   refine Qk ?_
   refine Qk ?_
   refine Qk ?_
   refine Qk ?_
   refine Qk ?_
   refine Qa (Qo rfl rfl) ?_
   refine Qa (Xj rfl) ?_
   refine Xb ?_
   refine hK7 _ _ _ ?_
   refine Qs rfl ?_
   refine Qj ?_
   refine hend _ _ _ ?_
   apply QD results68 .nil _ (ndL b v { x with patience := x.patience + 1 } D) (by first | exact Hp.le_refl _ | assumption) rfl
   case hp => rw [hT]; exact ⟨rfl, _, hv1, rfl⟩
   case hS => exact sb_
structure MIn (k : Nat) (n : Nat) (m : Msg) : Prop where
 frm : 0 ≤ m.frm ∧ m.frm < n
 term : 0 ≤ m.term ∧ m.term ≤ 2305843009213693952 + k
 index : 0 ≤ m.index ∧ m.index ≤ 100000000000000
 logTerm : 0 ≤ m.logTerm ∧ m.logTerm ≤ 2305843009213693952 + k
 commit : 0 ≤ m.commit ∧ m.commit < 18446744073709551616
 es : m.es.length ≤ 20 ∧ ∀ e ∈ m.es, (0 ≤ e.1 ∧ e.1 ≤ 2305843009213693952 + k) ∧ e.2.length ≤ 100
 state : m.state.length ≤ 1000000
theorem MIn.le {k j n : Nat} {m : Msg} (h : MIn k n m) (hk : k ≤ j) : MIn j n m :=
 ⟨h.frm, ⟨h.term.1, by have := h.term.2; omega⟩, h.index, ⟨h.logTerm.1, by have := h.logTerm.2; omega⟩, h.commit, ⟨h.es.1, fun e he => ⟨⟨(h.es.2 e he).1.1, by have := (h.es.2 e he).1.2; omega⟩, (h.es.2 e he).2⟩⟩, h.state⟩
theorem Qmv {R : Hp} (b : NB) (v : NV) (x : ND) (D : DK) (m : Msg) (ve : Value) (k n : Nat) (hk : k ≤ 50) (hx : NIn k x) (hv : NOk R v x) (hm : MIn k x.n m) (hve : FrX entE R m.es ve) (hD : D.ok n) (hn : n ≤ 800000000) :
   Tri prog 76 [.pointer (some ⟨b.x, 0, none⟩), .agg ⟨QT m ve⟩] R (ndL b v x D) (jn b (Zd (x, D) m)) (jo b (Zd (x, D) m)) := by
 have hg := hx.g (by omega)
 have hva := hv.va
 have hlb := LG.last_b hg
 have hidn := hx.idn
 have hterm := hx.term
 have hob := hx.out
 have hfrm := hm.frm
 obtain ⟨ra, hra⟩ : ∃ r, r = x.g.setTermD D x.g.term m.frm := ⟨_, rfl⟩
 have hveo := hve.one
 refine Qn func76 rfl ntmps76 rfl (fun σ F Q hret hend hpan => ?_)
 try simp only [cB]
 refine Qd fun K1 hK1 => ?_
 refine Qc ?_
 refine Xa (wn0 rfl) rfl rfl rfl (fun b3 => ?_)
 refine Qe ?_
 refine hK1 _ _ _ ?_
 refine Qd fun K2 hK2 => ?_
 refine Qc ?_
 refine Pm ?_
 refine Pa (Qf rfl) ?_
 refine Pa (Ga underlying109 sizeOf55) ?_
 refine Pa (La o55) ?_
 refine Pa (Ca call60 (YC b.l (some ⟨b.d, 0, none⟩) v.va x.g hg hva)) ?_
 refine Ps ?_
 refine Qe ?_
 refine hK2 _ _ _ ?_
 refine Qd fun K3 hK3 => ?_
 refine Qc ?_
 refine Pm ?_
 refine Pm ?_
 refine Pa (Ca call91 (yV b v x hg hva x.g.last (by unfold QM; omega))) ?_
 refine Ps ?_
 refine Qe ?_
 refine hK3 _ _ _ ?_
 refine Qd fun K4 hK4 => ?_
 have hJ4 : ∀ (gd : Bool), gd = x.good m → EJ ⟨prog, 94, σ⟩ K4 [(0, .pointer (some ⟨b.x, 0, none⟩)), (3, .pointer (some ⟨b3, 0, none⟩)), (6, .bool gd)] R (blk b3 (QT m ve) 117 :: ndB b v x :: lgN b v x :: dkB b.d v.u D :: dkS v.u D :: prA v x :: mpA v.vm x.votes :: XQ v x :: F) := by
  rintro gd hgd
  try dsimp only
  refine hK4 _ _ _ ?_
  refine Qd fun K5 hK5 => ?_
  have hJ5 : ∀ (fr : Bool), fr = (decide (x.g.vote = -1) || decide (x.g.vote = m.frm)) → EJ ⟨prog, 94, σ⟩ K5 [(0, .pointer (some ⟨b.x, 0, none⟩)), (3, .pointer (some ⟨b3, 0, none⟩)), (6, .bool gd), (7, .bool fr)] R (blk b3 (QT m ve) 117 :: ndB b v x :: lgN b v x :: dkB b.d v.u D :: dkS v.u D :: prA v x :: mpA v.vm x.votes :: XQ v x :: F) := by
   rintro fr hfr
   try dsimp only
   refine hK5 _ _ _ ?_
   refine Qd fun K6 hK6 => ?_
   have hJ6 : ∀ (gr : Bool), gr = x.grants m → EJ ⟨prog, 94, σ⟩ K6 [(0, .pointer (some ⟨b.x, 0, none⟩)), (3, .pointer (some ⟨b3, 0, none⟩)), (8, .bool gr)] R (blk b3 (QT m ve) 117 :: ndB b v x :: lgN b v x :: dkB b.d v.u D :: dkS v.u D :: prA v x :: mpA v.vm x.votes :: XQ v x :: F) := by
    rintro gr hgr
    try dsimp only
    refine hK6 _ _ _ ?_
    refine Qd fun K7 hK7 => ?_
    have hJ9 : ∀ (x9 : ND × NV × DK × Hp), NIn (k + 1) x9.1 ∧ NOk x9.2.2.2 x9.2.1 x9.1 ∧ R.le x9.2.2.2 ∧ Zd (x, D) m = (true, (x9.1.send (ND.voteMsg m gr), x9.2.2.1)) → EJ ⟨prog, 94, σ⟩ K7 [(0, .pointer (some ⟨b.x, 0, none⟩)), (3, .pointer (some ⟨b3, 0, none⟩)), (8, .bool gr)] x9.2.2.2 (blk b3 (QT m ve) 117 :: ndB b x9.2.1 x9.1 :: lgN b x9.2.1 x9.1 :: dkB b.d x9.2.1.u x9.2.2.1 :: dkS x9.2.1.u x9.2.2.1 :: prA x9.2.1 x9.1 :: mpA x9.2.1.vm x9.1.votes :: XQ x9.2.1 x9.1 :: F) := by
     rintro ⟨y, v2, D2, R2⟩ ⟨hy, hv2, hR2, hF⟩
     try dsimp only
     dsimp only at hy hv2 hR2 hF
     have hyo := hy.out
     refine hK7 _ _ _ ?_
     refine Qc ?_
     refine Pm ?_
     refine Pa (Ga underlying117 sizeOf3) ?_
     refine Pa (La o3) ?_
     refine Pm ?_
     refine Pa (QV (cells := [_, _, _, _, _, _, _, _, _, _]) [(0, 1), (1, 1), (2, 1), (3, 1), (4, 1), (5, 1), (6, 1), (7, 1), (8, 1), (9, 1)] underlying117 zeroValue117 (fun _ => rfl) rfl rfl) ?_
     refine Ra call90 (QaI b v2 y (ND.voteMsg m gr) (.slice none 0 0) hv2.out hv2.vo (by omega) FrX.nil) ?_
     rintro r R6 L' hR6 ⟨vo, css, hels, hvo2, rfl⟩
     try simp only [cB]
     refine Qe ?_
     refine hend _ _ _ ?_
     apply QD results76 .nil _ (ndL b (v2.sent vo css) (y.send (ND.voteMsg m gr)) D2) (Hp.le_trans hR2 hR6) rfl
     case hp => rw [hF]; exact ⟨rfl, _, hv2.sent (y := y.send (ND.voteMsg m gr)) hR6 ⟨rfl, rfl⟩ hels hvo2, rfl⟩
     case hS => exact sb_
    refine Qd fun K8 hK8 => ?_
    refine Qc ?_
    refine Pm ?_
    refine Qe ?_
    refine hK8 _ _ _ ?_
    refine Qm rfl (fun hc70 => ?_) (fun hc70 => ?_)
    ·have g1 : gr = true := hc70
     refine Qd fun K10 hK10 => ?_
     refine Xd (L := [ndB b v x, blk b3 (QT m ve) 117]) [0, 1, 2, 3, 4, 5, 6, 7, 8, 10, 11] [9, 12] [13] _ sb_ (by kernel_rfl) (by kernel_rfl) (by kernel_rfl) rfl ?_
     refine Wa rfl (fun R1 hR1 G => (Qg rfl)) ?_
     refine Wa rfl (fun R1 hR1 G => (Qg rfl)) ?_
     refine Wa rfl (fun R1 hR1 G => (Qf rfl)) ?_
     refine Wa rfl (fun R1 hR1 G => (Ga underlying109 sizeOf55)) ?_
     refine Wa rfl (fun R1 hR1 G => (La o55)) ?_
     refine Wa rfl (fun R1 hR1 G => (Qg rfl)) ?_
     refine Wa rfl (fun R1 hR1 G => (Qf rfl)) ?_
     refine Wa rfl (fun R1 hR1 G => (Ga underlying109 sizeOf55)) ?_
     refine Wa rfl (fun R1 hR1 G => (La o55)) ?_
     refine Wa rfl (fun R1 hR1 G => (Ga underlying117 sizeOf3)) ?_
     refine Wa rfl (fun R1 hR1 G => (La o3)) ?_
     refine Xc ?_
     refine QH rfl ?_
     try simp only [cC]
     refine Pa (Ca call24 (YV b.l (some ⟨b.d, 0, none⟩) v.va x.g)) ?_
     refine QI le_ sb_ ?_
     refine QH rfl ?_
     try simp only [cC]
     refine Ra call75 (je b.l b.d v.va v.u x.g D n x.g.term m.frm hg (by unfold QM; omega) (by omega) (by omega) hva.one hD (by omega)) ?_
     rintro r R4 L' hR4 ⟨rfl, u2, rfl⟩
     rw [← hra]
     have hall : ra.2.1.all = x.g.all := by rw [hra]; exact QbM
     have hAs : Zd (x, D) m = QU (QP (x, D) ra) fun s => (true, ({ s.1 with patience := 0 }.send (ND.voteMsg m true), s.2)) := by unfold Zd; rw [if_pos (by rw [← hgr]; exact g1), hra]
     try simp only [cB]
     refine QI le_ sb_ ?_
     refine Xe ?_
     try simp only [cC]
     refine XE (wn0 rfl) rfl call74 rfl (zx b (v.logd u2 v.va) x _) sp_ (fun ch Rp Lp hRp hpp => ?_) ?_
     · obtain ⟨he1, rfl, rfl⟩ := hpp
       try simp only [cB]
       refine hpan _ _ _ _ ?_
       refine Yz _ (ndL b (v.logd u2 v.va) { x with g := ra.2.1, down := true } ra.2.2) (by first | exact Hp.le_refl _ | assumption | exact Hp.le_trans ‹_› ‹_› | exact Hp.le_trans hR4 hRp) rfl sb_ ?_
       exact ⟨by rw [hAs]; simp [QU, QP, he1], rfl, v.logd u2 v.va, by rw [hAs]; simp only [QU, QP, if_neg he1]; exact hv.logd (y := { x with g := ra.2.1, down := true }) (Hp.le_trans hR4 hRp) ⟨rfl, rfl⟩ (by show FrX entE Rp ra.2.1.all v.va; rw [hall]; exact hva.mono (Hp.le_trans hR4 hRp)), by rw [hAs]; simp [QU, QP, he1]⟩
     rintro r R5 L' hR5 ⟨he0, rfl⟩
     have hx1 : NIn (k + 1) { x with g := ra.2.1, patience := 0 } := by rw [hra, Qc0 (by rw [← hra]; exact he0)]; exact (hx.set (t := x.g.term) (vt := m.frm) (by omega) (by omega)).pat (p := 0) (by omega)
     have hR45 := Hp.le_trans hR4 hR5
     have hv1 : NOk R5 (v.logd u2 v.va) { x with g := ra.2.1, patience := 0 } := hv.logd (y := { x with g := ra.2.1, patience := 0 }) hR45 ⟨rfl, rfl⟩ (by show FrX entE R5 ra.2.1.all v.va; rw [hall]; exact hva.mono hR45)
     try simp only [cB]
     refine Qe ?_
     refine hK10 _ _ _ ?_
     refine Ql (eL 0 rfl (eL 3 rfl (eL 8 rfl eN))) ?_
     refine Qc ?_
     refine Pm ?_
     refine Pa (Qf rfl) ?_
     refine Pa (Ga underlying109 sizeOf3) ?_
     refine Sa o3 ?_
     refine Qe ?_
     refine QG hJ9 (({ x with g := ra.2.1, patience := 0 }, v.logd u2 v.va, ra.2.2, R5)) (⟨hx1, hv1, hR45, by rw [hAs, g1]; simp [QU, QP, he0]⟩) (eC rfl (eC rfl (eC rfl eN))) rfl sb_
    ·have g1 : gr = false := by simpa using hc70
     refine Qj ?_
     refine QG hJ9 ((x, v, D, R)) (⟨hx.le (by omega), hv, Hp.le_refl _, by unfold Zd; rw [if_neg (by rw [← hgr, g1]; simp), g1]⟩) (eC rfl (eC rfl (eC rfl eN))) rfl sb_
   refine Xr (by kernel_rfl) (by kernel_rfl) ?_
   refine Qa (Ga underlying117 sizeOf36) ?_
   refine Qa (La o36) ?_
   refine Qa (Qg rfl) ?_
   refine Qa (Qf rfl) ?_
   refine Qa (Ga underlying109 sizeOf55) ?_
   refine Qa (La o55) ?_
   refine Qa (Ca call24 (YV b.l (some ⟨b.d, 0, none⟩) v.va x.g)) ?_
   refine Qa (QB rfl rfl) ?_
   refine Qa (Qg rfl) ?_
   refine YU 57 rfl (fun hg57 => ?_) (fun hg57 => ?_)
   ·have f6 : m.term = x.g.term := by simpa using hg57
    refine Qb (Qg rfl) ?_
    refine Qb (Qf rfl) ?_
    refine Qb (Ga underlying109 sizeOf3) ?_
    refine Qb (La o3) ?_
    refine Qb (QB rfl rfl) ?_
    refine Qa (Qr rfl rfl) ?_
    refine Qa (Qg rfl) ?_
    refine YU 64 rfl (fun hg64 => ?_) (fun hg64 => ?_)
    ·first|(have f7 : x.role = 0 := by simpa using hg64)|skip
     refine Qb (Qg rfl) ?_
     refine Qa (Qr rfl rfl) ?_
     refine Qa (Qg rfl) ?_
     refine YU 67 rfl (fun hg67 => ?_) (fun hg67 => ?_)
     ·first|(have f8 : fr = true := by simpa using hg67)|skip
      refine Qb (Qg rfl) ?_
      refine Qa (Qr rfl rfl) ?_
      refine Qa (Xj rfl) ?_
      refine Xb ?_
      refine QG hJ6 (_) (by unfold ND.grants; rw [← hgd, ← hfr]; first|(simp [f6, f7, f8]; done)|(simp [f6, f7]; done)|(simp [f6]; done)) (eC rfl (eC rfl (eC rfl eN))) rfl sb_
     ·first|(have f8 : fr = false := by simpa using hg67)|skip
      refine Qk ?_
      refine Qa (Qo rfl rfl) ?_
      refine Qa (Xj rfl) ?_
      refine Xb ?_
      refine QG hJ6 (_) (by unfold ND.grants; rw [← hgd, ← hfr]; first|(simp [f6, f7, f8]; done)|(simp [f6, f7]; done)|(simp [f6]; done)) (eC rfl (eC rfl (eC rfl eN))) rfl sb_
    ·first|(have f7 : ¬ x.role = 0 := by simpa using hg64)|skip
     refine Qk ?_
     refine Qa (Qo rfl rfl) ?_
     refine Qa (Qg rfl) ?_
     refine Qk ?_
     refine Qa (Qo rfl rfl) ?_
     refine Qa (Xj rfl) ?_
     refine Xb ?_
     refine QG hJ6 (_) (by unfold ND.grants; rw [← hgd, ← hfr]; first|(simp [f6, f7, f8]; done)|(simp [f6, f7]; done)|(simp [f6]; done)) (eC rfl (eC rfl (eC rfl eN))) rfl sb_
   ·have f6 : ¬ m.term = x.g.term := by simpa using hg57
    refine Qk ?_
    refine Qk ?_
    refine Qk ?_
    refine Qk ?_
    refine Qk ?_
    refine Qa (Qo rfl rfl) ?_
    refine Qa (Qg rfl) ?_
    refine Qk ?_
    refine Qa (Qo rfl rfl) ?_
    refine Qa (Qg rfl) ?_
    refine Qk ?_
    refine Qa (Qo rfl rfl) ?_
    refine Qa (Xj rfl) ?_
    refine Xb ?_
    refine QG hJ6 (_) (by unfold ND.grants; rw [← hgd, ← hfr]; first|(simp [f6, f7, f8]; done)|(simp [f6, f7]; done)|(simp [f6]; done)) (eC rfl (eC rfl (eC rfl eN))) rfl sb_
  refine Xr (by kernel_rfl) (by kernel_rfl) ?_
  refine Qa (Qg rfl) ?_
  refine Qa (Qf rfl) ?_
  refine Qa (Ga underlying109 sizeOf55) ?_
  refine Qa (La o55) ?_
  refine Qa (Ca call96 (Qfb b.l (some ⟨b.d, 0, none⟩) v.va x.g)) ?_
  refine Qa (QB rfl rfl) ?_
  refine Qa (Qg rfl) ?_
  refine YU 39 rfl (fun hg39 => ?_) (fun hg39 => ?_)
  ·have f5 : x.g.vote = -1 := by simpa using hg39
   refine Qk ?_
   refine Qk ?_
   refine Qk ?_
   refine Qk ?_
   refine Qk ?_
   refine Qk ?_
   refine Qk ?_
   refine Qk ?_
   refine Qa (Qr rfl rfl) ?_
   refine Qa (Xj rfl) ?_
   refine Xb ?_
   refine QG hJ5 (_) (by simp [f5]) (eC rfl (eC rfl (eC rfl (eC rfl eN)))) rfl sb_
  ·have f5 : ¬ x.g.vote = -1 := by simpa using hg39
   refine Qb (Qg rfl) ?_
   refine Qb (Qf rfl) ?_
   refine Qb (Ga underlying109 sizeOf55) ?_
   refine Qb (La o55) ?_
   refine Qb (Ca call96 (Qfb b.l (some ⟨b.d, 0, none⟩) v.va x.g)) ?_
   refine Qb (Ga underlying117 sizeOf3) ?_
   refine Qb (La o3) ?_
   refine Qb (QB rfl rfl) ?_
   refine Qa (Qo rfl rfl) ?_
   refine Qa (Xj rfl) ?_
   refine Xb ?_
   refine QG hJ5 (_) (by simp [f5]) (eC rfl (eC rfl (eC rfl (eC rfl eN)))) rfl sb_
 refine Qc ?_
 refine Pa (Ga underlying117 sizeOf36) ?_
 refine Pa (La o36) ?_
 refine Pm ?_
 refine Pa (Xs rfl rfl) ?_
 refine Pm ?_
 refine QE 21 rfl (fun hg21 => ?_) (fun hg21 => ?_)
 ·have f3 : x.tAt x.g.last < m.logTerm := by simpa using hg21
  refine Pk ?_
  refine Pk ?_
  refine Pk ?_
  refine Pk ?_
  refine Pk ?_
  refine QX (wn3 rfl rfl rfl rfl) rfl rfl ?_
  refine QX (wn3 rfl rfl rfl rfl) rfl rfl ?_
  refine QX (wn3 rfl rfl rfl rfl) rfl rfl ?_
  refine QX (wn3 rfl rfl rfl rfl) rfl rfl ?_
  refine Pk ?_
  refine Pa (Qr rfl rfl) ?_
  refine Ps ?_
  refine Qe ?_
  refine QG hJ4 (_) (by unfold ND.good; first|(simp [f3, f4]; done)|(simp [f3]; done)|(rw [f4] at f3 ⊢; simp)) (eC rfl (eC rfl (eC rfl eN))) rfl sb_
 ·have f3 : ¬ x.tAt x.g.last < m.logTerm := by simpa using hg21
  refine Pb (Ga underlying117 sizeOf36) ?_
  refine Pb (La o36) ?_
  refine Pb (Qg rfl) ?_
  refine Pb (QB rfl rfl) ?_
  refine Pb (Qg rfl) ?_
  refine QE 26 rfl (fun hg26 => ?_) (fun hg26 => ?_)
  ·have f4 : m.logTerm = x.tAt x.g.last := by simpa using hg26
   refine Pb (Ga underlying117 sizeOf36) ?_
   refine Pb (La o36) ?_
   refine Pb (Qg rfl) ?_
   refine Pb (YX rfl rfl) ?_
   refine Pb (Qr rfl rfl) ?_
   refine Pa (Qo rfl rfl) ?_
   refine Ps ?_
   refine Qe ?_
   refine QG hJ4 (_) (by unfold ND.good; first|(simp [f3, f4]; done)|(simp [f3]; done)|(rw [f4] at f3 ⊢; simp)) (eC rfl (eC rfl (eC rfl eN))) rfl sb_
  ·have f4 : ¬ m.logTerm = x.tAt x.g.last := by simpa using hg26
   refine Pk ?_
   refine Pk ?_
   refine Pk ?_
   refine Pk ?_
   refine Pb (Qo rfl rfl) ?_
   refine Pa (Qo rfl rfl) ?_
   refine Ps ?_
   refine Qe ?_
   refine QG hJ4 (_) (by unfold ND.good; first|(simp [f3, f4]; done)|(simp [f3]; done)|(rw [f4] at f3 ⊢; simp)) (eC rfl (eC rfl (eC rfl eN))) rfl sb_
theorem Qe2 : ∀ (n : Nat) (l : List Int), l.Nodup → (∀ i ∈ l, 0 ≤ i ∧ i < (n : Int)) → l.length ≤ n
 | 0, l, _, h => by
  cases l with
  | nil => simp
  | cons a l => have := h a (by simp); omega
 | n + 1, l, hd, h => by
  have h1 := Qe2 n (l.erase (n : Int)) (hd.erase _) (fun i hi => by
   rw [hd.mem_erase_iff] at hi
   have := h i hi.2
   have := hi.1
   omega)
  have h2 := List.length_erase (l := l) (a := (n : Int))
  rw [h2] at h1
  split at h1 <;> omega
theorem Qdw {l : List Int} (hd : l.Nodup) (i : Int) : (QW l i).Nodup := by
 unfold QW
 split
 ·exact hd
 ·rename_i h
  rw [List.nodup_append]
  exact ⟨hd, by simp, fun a ha b hb => by simp at hb; subst hb; intro e; subst e; exact h ha⟩
theorem jU {l : List Int} {i j : Int} (h : j ∈ QW l i) : j ∈ l ∨ j = i := by
 unfold QW at h
 split at h
 ·exact .inl h
 ·simpa using h
theorem Qg8 (l : List Int) (i : Int) : ZC (qc l) i (.bool true) = qc (QW l i) := by
 funext k
 unfold ZC qc QW
 by_cases hi : i ∈ l
 ·rw [if_pos hi]
  by_cases hk : k = i
  ·subst hk; simp [hi]
  ·simp [hk]
 ·rw [if_neg hi]
  by_cases hk : k = i
  ·subst hk; simp
  ·simp [hk]
theorem Qhj (l : List Int) (i : Int) : (if (qc l i).isSome then l.length else l.length + 1) = (QW l i).length := by
 unfold qc QW
 by_cases hi : i ∈ l <;> simp [hi]
theorem NIn.vote1 {k : Nat} {x : ND} (h : NIn k x) {i : Int} (hi : 0 ≤ i ∧ i < (x.n : Int)) : NIn k { x with votes := QW x.votes i } :=
 ⟨h.idn, h.term, h.vote, h.base, h.baseT, h.state, h.alln, h.all, h.commit, h.patience, h.peers, h.peer, ⟨Qdw h.votes.1 i, fun j hj => by
  rcases jU hj with hj | hj
  ·exact h.votes.2 j hj
  ·subst hj; exact hi⟩, h.out⟩
theorem QfD {c : Cx} {x : Code} {Q : Exit → Act → World → Prop} {E : Env} {R : Hp} {L M : List Asn} {A B : Asn} (f : Find A L M) (hA : ∀ h, A h → B h) (h : CJ c x Q E R (B :: M)) : CJ c x Q E R L := fun a w hf hs => h a w hf ((hs.find f).turn hA)
theorem Qlb {R : Hp} (b : NB) (v : NV) (x : ND) (D : DK) (m : Msg) (ve : Value) (k n : Nat) (hk : k ≤ 50) (hx : NIn k x) (hv : NOk R v x) (hm : MIn k x.n m) (hve : FrX entE R m.es ve) (hD : D.ok n) (hn : n ≤ 800000000) :
   Tri prog 77 [.pointer (some ⟨b.x, 0, none⟩), .agg ⟨QT m ve⟩] R (ndL b v x D) (jn b (Yg (x, D) m)) (jo b (Yg (x, D) m)) := by
 have hidn := hx.idn
 have hfrm := hm.frm
 have hveo := hve.one
 have hy := hx.vote1 hfrm
 have hyl := Qe2 x.n _ hy.votes.1 hy.votes.2
 replace hyl : (QW x.votes m.frm).length ≤ x.n := hyl
 refine Qn func77 rfl ntmps77 rfl (fun σ F Q hret hend hpan => ?_)
 try simp only [cB]
 refine Qd fun K1 hK1 => ?_
 refine Qc ?_
 refine Xa (wn0 rfl) rfl rfl rfl (fun b3 => ?_)
 refine Qe ?_
 refine hK1 _ _ _ ?_
 refine Qd fun K2 hK2 => ?_
 refine Qd fun K3 hK3 => ?_
 refine Xr (by kernel_rfl) (by kernel_rfl) ?_
 refine Qa (Qg rfl) ?_
 refine Qa (Qf rfl) ?_
 refine Qa (Ga underlying109 sizeOf3) ?_
 refine Qa (La o3) ?_
 refine Qa (XU rfl rfl) ?_
 refine Qa (Qg rfl) ?_
 refine YU 9 rfl (fun hg9 => ?_) (fun hg9 => ?_)
 ·have f0 : ¬ x.role = 1 ∨ ¬ m.term = x.g.term ∨ m.ok = false := .inl (by simpa using hg9)
  refine Qk ?_
  refine Qk ?_
  refine Qk ?_
  refine Qk ?_
  refine Qk ?_
  refine Qk ?_
  refine Qk ?_
  refine Qk ?_
  refine Qa (Qr rfl rfl) ?_
  refine Qa (Qg rfl) ?_
  refine Qk ?_
  refine Qk ?_
  refine Qk ?_
  refine Qa (Qr rfl rfl) ?_
  refine Xb ?_
  refine hK3 _ _ _ ?_
  refine Ql (eL 0 rfl (eL 3 rfl (eL 23 rfl eN))) ?_
  refine Qv rfl ?_
  refine Qi ?_
  refine hret _ _ _ ?_
  refine Ea results77 .nil (ndL b v x D) (by first | exact Hp.le_refl _ | assumption) ?_
  rw [show Yg (x, D) m = (true, (x, D)) by unfold Yg; rw [if_pos f0]]; exact ⟨rfl, v, hv, rfl⟩
 ·have f1 : x.role = 1 := by simpa using hg9
  refine Qb (Ga underlying117 sizeOf36) ?_
  refine Qb (La o36) ?_
  refine Qb (Qg rfl) ?_
  refine Qb (Qf rfl) ?_
  refine Qb (Ga underlying109 sizeOf55) ?_
  refine Qb (La o55) ?_
  refine Qb (Ca call24 (YV b.l (some ⟨b.d, 0, none⟩) v.va x.g)) ?_
  refine Qb (XU rfl rfl) ?_
  refine Qa (Qo rfl rfl) ?_
  refine Qa (Qg rfl) ?_
  refine YU 19 rfl (fun hg19 => ?_) (fun hg19 => ?_)
  ·first|(have f0 : ¬ x.role = 1 ∨ ¬ m.term = x.g.term ∨ m.ok = false := .inr (.inl (by simpa using hg19)))|skip
   refine Qk ?_
   refine Qk ?_
   refine Qk ?_
   refine Qa (Qr rfl rfl) ?_
   refine Xb ?_
   refine hK3 _ _ _ ?_
   refine Qv rfl ?_
   refine Qi ?_
   refine hret _ _ _ ?_
   refine Ea results77 .nil (ndL b v x D) (by first | exact Hp.le_refl _ | assumption) ?_
   rw [show Yg (x, D) m = (true, (x, D)) by unfold Yg; rw [if_pos f0]]; exact ⟨rfl, v, hv, rfl⟩
  ·first|(have f2 : m.term = x.g.term := by simpa using hg19)|skip
   refine Qb (Ga underlying117 sizeOf4) ?_
   refine Qb (La o4) ?_
   refine Qb (Yq rfl) ?_
   refine Qa (Qo rfl rfl) ?_
   refine Xb ?_
   refine hK3 _ _ _ ?_
   refine Ql (eL 0 rfl (eL 3 rfl (eL 23 rfl eN))) ?_
   refine Qm rfl (fun hc23 => ?_) (fun hc23 => ?_)
   ·first|(have f0 : ¬ x.role = 1 ∨ ¬ m.term = x.g.term ∨ m.ok = false := .inr (.inr (by simpa using hc23)))|skip
    refine Qi ?_
    refine hret _ _ _ ?_
    refine Ea results77 .nil (ndL b v x D) (by first | exact Hp.le_refl _ | assumption) ?_
    rw [show Yg (x, D) m = (true, (x, D)) by unfold Yg; rw [if_pos f0]]; exact ⟨rfl, v, hv, rfl⟩
   ·have f3 : m.ok = true := by simpa using hc23
    have f0 : ¬ (¬ x.role = 1 ∨ ¬ m.term = x.g.term ∨ m.ok = false) := by simp [f1, f2, f3]
    obtain ⟨mm, hmm⟩ := hv.map f1
    refine Qj ?_
    refine hK2 _ _ _ ?_
    refine Qd fun K5 hK5 => ?_
    refine Xd (L := [ndB b v x, blk b3 (QT m ve) 117]) [0, 1, 2, 3, 4, 5] [] [6] _ sb_ (by kernel_rfl) (by kernel_rfl) (by kernel_rfl) rfl ?_
    refine Wa rfl (fun R1 hR1 G => (Qg rfl)) ?_
    refine Wa rfl (fun R1 hR1 G => (Qf rfl)) ?_
    refine Wa rfl (fun R1 hR1 G => (Ga underlying109 sizeOf39)) ?_
    refine Wa rfl (fun R1 hR1 G => (Yld.to (u := .map (some mm)) (La o39) hmm)) ?_
    refine Wa rfl (fun R1 hR1 G => (Ga underlying117 sizeOf3)) ?_
    refine Wa rfl (fun R1 hR1 G => (La o3)) ?_
    refine Xc ?_
    refine Xe ?_
    try simp only [cC]
    refine Xu (A := mpA v.vm x.votes) (B := Ya mm .i64 (qc x.votes) x.votes.length) fd_ (fun h hh => by rw [hmm] at hh; exact hh) ?_
    refine ya underlying39 underlying3 (wn0 rfl) rfl rfl rfl fd_ ?_
    rw [Qg8, Qhj]
    refine Qe ?_
    refine hK5 _ _ _ ?_
    refine Qd fun K6 hK6 => ?_
    refine Xr (by kernel_rfl) (by kernel_rfl) ?_
    refine Qa (Qg rfl) ?_
    refine Qa (Qf rfl) ?_
    refine Qa (Ga underlying109 sizeOf39) ?_
    refine Qa ((Yld.to (u := .map (some mm)) (La o39) hmm)) ?_
    refine Qa (Qh8 underlying39 rfl fd_) ?_
    refine Qa ((jr rfl rfl (by omega))) ?_
    refine Qa (Qg rfl) ?_
    refine Qa (Qf rfl) ?_
    refine Qa (Ga underlying109 sizeOf3) ?_
    refine Qa (La o3) ?_
    refine Qa (Xs rfl rfl) ?_
    refine Xb ?_
    refine hK6 _ _ _ ?_
    refine Qm rfl (fun hc40 => ?_) (fun hc40 => ?_)
    ·have f4 : 2 * ((QW x.votes m.frm).length : Int) > x.n := by (try simp at hc40); omega
     have hE : Yg (x, D) m = Zs ({ x with votes := QW x.votes m.frm }, D) := by unfold Yg; rw [if_neg f0, if_pos f4]
     refine QfD (A := Ya mm .i64 (qc (QW x.votes m.frm)) (QW x.votes m.frm).length) (B := mpA v.vm (QW x.votes m.frm)) fd_ (fun h hh => by rw [hmm]; exact hh) ?_
     refine Qc ?_
     refine Pm ?_
     refine XE (wn0 rfl) rfl call92 rfl (QkM b v { x with votes := QW x.votes m.frm } D k n (by omega) hy (hv.to (Hp.le_refl _) ⟨rfl, rfl, rfl⟩) hD (by omega)) sp_ (fun ch Rp Lp hRp hpp => ?_) ?_
     · obtain ⟨hF, rfl, v3, hv3, rfl⟩ := hpp
       try simp only [cB]
       refine hpan _ _ _ _ ?_
       refine Yz _ (ndL b v3 (Zs ({ x with votes := QW x.votes m.frm }, D)).2.1 (Zs ({ x with votes := QW x.votes m.frm }, D)).2.2) (by first | exact Hp.le_refl _ | assumption | exact Hp.le_trans ‹_› ‹_›) rfl sb_ ?_
       exact ⟨by rw [hE]; exact hF, rfl, v3, by rw [hE]; exact hv3, by rw [hE]⟩
     rintro r R8 L' hR8 ⟨hF, v3, hv3, rfl⟩
     try simp only [cB]
     refine Qe ?_
     refine hend _ _ _ ?_
     apply QD results77 .nil _ (ndL b v3 (Zs ({ x with votes := QW x.votes m.frm }, D)).2.1 (Zs ({ x with votes := QW x.votes m.frm }, D)).2.2) (by first | exact Hp.le_refl _ | assumption) rfl
     case hp => rw [hE]; exact ⟨hF, v3, hv3, rfl⟩
     case hS => exact sb_
    ·have f4 : ¬ 2 * ((QW x.votes m.frm).length : Int) > x.n := by (try simp at hc40); omega
     have hE : Yg (x, D) m = (true, ({ x with votes := QW x.votes m.frm }, D)) := by unfold Yg; rw [if_neg f0, if_neg f4]
     refine QfD (A := Ya mm .i64 (qc (QW x.votes m.frm)) (QW x.votes m.frm).length) (B := mpA v.vm (QW x.votes m.frm)) fd_ (fun h hh => by rw [hmm]; exact hh) ?_
     refine Qj ?_
     refine hend _ _ _ ?_
     apply QD results77 .nil _ (ndL b v { x with votes := QW x.votes m.frm } D) (by first | exact Hp.le_refl _ | assumption) rfl
     case hp => rw [hE]; exact ⟨rfl, v, hv.to (Hp.le_refl _) ⟨rfl, rfl, rfl⟩, rfl⟩
     case hS => exact sb_
theorem NIn.setPeer {k : Nat} {x : ND} (h : NIn k x) (to : Nat) {p : Int × Int} (hp : (1 ≤ p.1 ∧ p.1 ≤ 200000000000000) ∧ (0 ≤ p.2 ∧ p.2 ≤ 150000000000000)) : NIn k (x.setPeer to p) :=
 ⟨h.idn, h.term, h.vote, h.base, h.baseT, h.state, h.alln, h.all, h.commit, h.patience, fun hr => by show (x.peers.set to p).length = _; rw [List.length_set]; exact h.peers hr, fun q hq => by
  rcases List.mem_or_eq_of_mem_set hq with hq | hq
  ·exact h.peer q hq
  ·subst hq; exact hp, h.votes, h.out⟩
theorem Qhi {e : TypeId} {sz n : Nat} {v : Value} {xs : List Value} (hn : 0 < n) (h : Hp) (hs : slc e sz v n xs h) : ∃ (g o cap : Nat), v = .slice (some ⟨g, o, none⟩) n cap ∧ n ≤ cap := by
 obtain ⟨_, ⟨_, h0⟩ | ⟨g, cap, fz, pre, post, hv, _, _, hc, _⟩⟩ := hs
 ·omega
 ·exact ⟨g, pre.length, cap, hv, hc⟩
theorem Qm4 {k : Nat} {x : ND} (hx : NIn k x) {i : Nat} (hi : i < x.peers.length) : (1 ≤ x.nxt i ∧ x.nxt i ≤ 200000000000000) ∧ (0 ≤ x.mat i ∧ x.mat i ≤ 150000000000000) := by
 have : x.peers.getD i (0, 0) ∈ x.peers := by rw [List.getD_eq_getElem?_getD, List.getElem?_eq_getElem hi]; simp
 exact hx.peer _ this
theorem QaH {l : List (Int × Int)} {i : Nat} (h : i < l.length) (p : Int × Int) : (l.set i p).getD i (0, 0) = p := by
 simp [List.getD_eq_getElem?_getD, h]
theorem qh (g o n k j : Nat) : Zz (.slice (some ⟨g, o, none⟩) n k) j = .pointer (some ⟨g, o + j, none⟩) := by simp [Zz, Yo]
theorem QgJ {R : Hp} (b : NB) (v : NV) (x : ND) (D : DK) (m : Msg) (ve : Value) (k : Nat) (hk : k ≤ 50) (hx : NIn k x) (hv : NOk R v x) (hm : MIn k x.n m) (hve : FrX entE R m.es ve) :
  Tri prog 79 [.pointer (some ⟨b.x, 0, none⟩), .agg ⟨QT m ve⟩] R (ndL b v x D) (jn b (Yb (x, D) m)) (jo b (Yb (x, D) m)) := by
 have hidn := hx.idn
 have hfrm := hm.frm
 have hveo := hve.one
 have hidx := hm.index
 have hg := hx.g (by omega)
 have hlb := LG.last_b hg
 obtain ⟨to, hto⟩ : ∃ to, to = m.frm.toNat := ⟨_, rfl⟩
 have hfto : m.frm = (to : Int) := by omega
 obtain ⟨k1, hk1⟩ : ∃ k1, k1 = max (x.mat to) (min m.index x.g.last) := ⟨_, rfl⟩
 have hN : Yb (x, D) m = if ¬ x.role = 2 ∨ ¬ m.term = x.g.term then (true, (x, D)) else if m.ok = false then (true, ((x.setPeer to (max (min (x.nxt to - 1) (m.index + 1)) (x.mat to + 1), x.mat to)).feed to, D)) else if k1 + 1 ≤ (x.setPeer to (k1 + 1, k1)).count.g.last then (true, ((x.setPeer to (k1 + 1, k1)).count.feed to, D)) else (true, ((x.setPeer to (k1 + 1, k1)).count, D)) := by rw [hk1, hto]; rfl
 refine Qn func79 rfl ntmps79 rfl (fun σ F Q hret hend hpan => ?_)
 try simp only [cB]
 refine Qd fun K1 hK1 => Qc ?_
 refine Xa (wn0 rfl) rfl rfl rfl (fun b3 => ?_)
 refine Qe (hK1 _ _ _ (Qd fun K2 hK2 => Qd fun K3 hK3 => ?_))
 refine Xr (by kernel_rfl) (by kernel_rfl) ?_
 refine Qa (Qg rfl) ?_
 refine Qa (Qf rfl) ?_
 refine Qa (Ga underlying109 sizeOf3) ?_
 refine Qa (La o3) ?_
 refine Qa (XU rfl rfl) ?_
 refine Qa (Qg rfl) ?_
 refine YU 10 rfl (fun hg10 => ?_) (fun hg10 => ?_)
 have f0 : ¬ x.role = 2 ∨ ¬ m.term = x.g.term := .inl (by simpa using hg10)
 refine Qk ?_
 refine Qk ?_
 refine Qk ?_
 refine Qk ?_
 refine Qk ?_
 refine Qk ?_
 refine Qk ?_
 refine Qk ?_
 refine Qa (Qr rfl rfl) ?_
 refine Xb ?_
 refine hK3 _ _ _ (Qv rfl (Qi (hret _ _ _ ?_)))
 refine Ea results79 .nil (ndL b v x D) (by first | exact Hp.le_refl _ | assumption) ?_
 rw [hN, if_pos f0]; exact ⟨rfl, v, hv, rfl⟩
 have f1 : x.role = 2 := by simpa using hg10
 refine Qb (Ga underlying117 sizeOf36) ?_
 refine Qb (La o36) ?_
 refine Qb (Qg rfl) ?_
 refine Qb (Qf rfl) ?_
 refine Qb (Ga underlying109 sizeOf55) ?_
 refine Qb (La o55) ?_
 refine Qb (Ca call24 (YV b.l (some ⟨b.d, 0, none⟩) v.va x.g)) ?_
 refine Qb (XU rfl rfl) ?_
 refine Qa (Qo rfl rfl) ?_
 refine Xb ?_
 refine hK3 _ _ _ ?_
 refine Ql (eL 0 rfl (eL 3 rfl (eL 19 rfl eN))) ?_
 refine Qm rfl (fun hc19 => ?_) (fun hc19 => ?_)
 first|(have f0 : ¬ x.role = 2 ∨ ¬ m.term = x.g.term := .inr (by simpa using hc19))|skip
 refine Qi (hret _ _ _ ?_)
 refine Ea results79 .nil (ndL b v x D) (by first | exact Hp.le_refl _ | assumption) ?_
 rw [hN, if_pos f0]; exact ⟨rfl, v, hv, rfl⟩
 have f2 : m.term = x.g.term := by simpa using hc19
 have f0 : ¬ (¬ x.role = 2 ∨ ¬ m.term = x.g.term) := by simp [f1, f2]
 have hpl := hx.peers f1
 have htl : to < x.peers.length := by omega
 obtain ⟨hp1, hp2⟩ := Qm4 hx htl
 have hn0 : nth (Xv x.peers) (m.frm.toNat * 2 + 0) = some (.int .u64 (x.nxt to)) := (yp x.peers to m.frm hfto htl).1
 have hn1 : nth (Xv x.peers) (m.frm.toNat * 2 + 1) = some (.int .u64 (x.mat to)) := (yp x.peers to m.frm hfto htl).2
 refine qT (A := prA v x) fd_ (fun h hh => Qhi (show 0 < x.peers.length by omega) h hh) (fun hsh => ?_)
 obtain ⟨gp, op, cp, hvp, hcp⟩ := hsh
 rw [if_neg f0] at hN
 refine Qj (hK2 _ _ _ (Qd fun K5 hK5 => ?_))
 refine Xr (by kernel_rfl) (by kernel_rfl) ?_
 refine Qa (Qg rfl) ?_
 refine Qa (Qf rfl) ?_
 refine Qa (Ga underlying109 sizeOf107) ?_
 refine Qa ((Yld.to (u := .slice (some ⟨gp, op, none⟩) x.peers.length cp) (La Qc8) hvp)) ?_
 refine Qa (Ga underlying117 sizeOf3) ?_
 refine Qa (La o3) ?_
 refine Qa ((Qy underlying107 sizeOf161 rfl rfl (by omega))) ?_
 refine Qa (Xj rfl) ?_
 refine Xb ?_
 refine hK5 _ _ _ (Qd fun K6 hK6 => Qd fun K7 hK7 => Qc ?_)
 refine Pa (Ga underlying117 sizeOf4) ?_
 refine Pa (La o4) ?_
 refine Pa (Yq rfl) (Qe (hK7 _ _ _ ?_))
 refine Qm rfl (fun hc29 => ?_) (fun hc29 => ?_)
 have f3 : m.ok = false := by simpa using hc29
 rw [if_pos f3] at hN
 refine Qd fun K9 hK9 => ?_
 refine Xd (L := [blk b3 (QT m ve) 117, prA v x]) [0, 1, 2, 3, 4, 5, 6, 7, 8, 9, 10, 11, 12, 13, 14, 15, 16, 17] [] [18] _ sb_ (by kernel_rfl) (by kernel_rfl) (by kernel_rfl) rfl ?_
 refine Wa rfl (fun R1 hR1 G => (Qg rfl)) ?_
 refine Wa rfl (fun R1 hR1 G => (Qg rfl)) ?_
 refine Wa rfl (fun R1 hR1 G => (Qf rfl)) ?_
 refine Wa rfl (fun R1 hR1 G => (Ga underlying161 sizeOf36)) ?_
 refine Wa rfl (fun R1 hR1 G => (XD (v := v.vp) o36 (by rw [hvp, qh, ← Nat.add_assoc]; rfl) fd_ hn0)) ?_
 refine Wa rfl (fun R1 hR1 G => (ZE rfl rfl (by omega))) ?_
 refine Wa rfl (fun R1 hR1 G => (Ga underlying117 sizeOf36)) ?_
 refine Wa rfl (fun R1 hR1 G => (La o36)) ?_
 refine Wa rfl (fun R1 hR1 G => (Zq rfl rfl (by omega))) ?_
 refine Wa rfl (fun R1 hR1 G => (Qa8 rfl rfl)) ?_
 refine Wa rfl (fun R1 hR1 G => (Qg rfl)) ?_
 refine Wa rfl (fun R1 hR1 G => (Qf rfl)) ?_
 refine Wa rfl (fun R1 hR1 G => (Ga underlying161 sizeOf36)) ?_
 refine Wa rfl (fun R1 hR1 G => (XD (v := v.vp) o36 (by rw [hvp, qh, ← Nat.add_assoc]; rfl) fd_ hn1)) ?_
 refine Wa rfl (fun R1 hR1 G => (Zq rfl rfl (by omega))) ?_
 refine Wa rfl (fun R1 hR1 G => (jN rfl rfl)) ?_
 refine Wa rfl (fun R1 hR1 G => (Qf rfl)) ?_
 refine Wa rfl (fun R1 hR1 G => (Ga underlying161 sizeOf36)) ?_
 refine Xc ?_
 refine Xe ?_
 try simp only [cC]
 refine ZF (v := v.vp) (ys := Xv (x.setPeer to (max (min (x.nxt to - 1) (m.index + 1)) (x.mat to + 1), x.mat to)).peers) o36 (wn0 rfl) (j := m.frm.toNat * 2 + 0) (by rw [hvp, qh, ← Nat.add_assoc]; rfl) rfl rfl fd_ (by rw [zW]; omega) (by rw [(Qaa x.peers to m.frm _ hfto htl).1]; rfl) (by omega) ?_
 refine Qe (hK9 _ _ _ ?_)
 refine Ql (eL 0 rfl (eL 3 rfl eN)) ?_
 refine Qd fun K10 hK10 => Qc (Pm ?_)
 refine Pa (Ga underlying117 sizeOf3) ?_
 refine Pa (La o3) ?_
 obtain ⟨y1, hy1⟩ : ∃ y, y = x.setPeer to (max (min (x.nxt to - 1) (m.index + 1)) (x.mat to + 1), x.mat to) := ⟨_, rfl⟩
 have hyn : NIn k y1 := by rw [hy1]; exact hx.setPeer to (by dsimp only; omega)
 have hyv : NOk R v y1 := by rw [hy1]; exact hv.to (Hp.le_refl _) ⟨rfl, rfl, rfl⟩
 have hyl : y1.peers.length = x.peers.length := by rw [hy1]; exact List.length_set
 have hft := Qfq (R := R) b v y1 k (by omega) hyn hyv to (by omega)
 rw [← hfto] at hft
 refine Xu (A := slc 161 2 v.vp x.peers.length (Xv (x.setPeer to (max (min (x.nxt to - 1) (m.index + 1)) (x.mat to + 1), x.mat to)).peers)) (B := prA v y1) fd_ (fun h hh => by show slc _ _ _ y1.peers.length _ h; rw [hyl, hy1]; exact hh) ?_
 refine Xu (A := ndB b v x) (B := ndB b v y1) fd_ (fun h hh => by rw [hy1]; exact hh) ?_
 refine Xu (A := lgN b v x) (B := lgN b v y1) fd_ (fun h hh => by rw [hy1]; exact hh) ?_
 refine Xu (A := XQ v x) (B := XQ v y1) fd_ (fun h hh => by rw [hy1]; exact hh) ?_
 refine Xu (A := mpA v.vm x.votes) (B := mpA v.vm y1.votes) fd_ (fun h hh => by rw [hy1]; exact hh) ?_
 refine Ra call70 (hft) ?_
 rintro r R2 L' hR2 ⟨vo, css, hels, hvo2, rfl⟩
 try simp only [cB]
 refine Qe (hK10 _ _ _ ?_)
 refine Ql eN ?_
 refine Qi (hret _ _ _ ?_)
 refine Ea results79 .nil (ndL b (v.sent vo css) (y1.feed to) D) (by first | exact Hp.le_refl _ | assumption) ?_
 rw [hN, ← hy1]; exact ⟨rfl, _, hyv.sent (y := y1.feed to) hR2 ⟨rfl, rfl⟩ hels hvo2, by rw [hy1]⟩
 have f3 : ¬ m.ok = false := by simpa using hc29
 rw [if_neg f3] at hN
 refine Qj (hK6 _ _ _ (Qd fun K11 hK11 => ?_))
 refine Xd (L := [blk b3 (QT m ve) 117, prA v x, ndB b v x, lgN b v x]) [0, 1, 2, 3, 4, 5, 6, 7, 8, 9, 10, 11, 12, 13, 14, 15] [] [16] _ sb_ (by kernel_rfl) (by kernel_rfl) (by kernel_rfl) rfl ?_
 refine Wa rfl (fun R1 hR1 G => (Qg rfl)) ?_
 refine Wa rfl (fun R1 hR1 G => (Qg rfl)) ?_
 refine Wa rfl (fun R1 hR1 G => (Qf rfl)) ?_
 refine Wa rfl (fun R1 hR1 G => (Ga underlying161 sizeOf36)) ?_
 refine Wa rfl (fun R1 hR1 G => (XD (v := v.vp) o36 (by rw [hvp, qh, ← Nat.add_assoc]; rfl) fd_ hn1)) ?_
 refine Wa rfl (fun R1 hR1 G => (Ga underlying117 sizeOf36)) ?_
 refine Wa rfl (fun R1 hR1 G => (La o36)) ?_
 refine Wa rfl (fun R1 hR1 G => (Qg rfl)) ?_
 refine Wa rfl (fun R1 hR1 G => (Qf rfl)) ?_
 refine Wa rfl (fun R1 hR1 G => (Ga underlying109 sizeOf55)) ?_
 refine Wa rfl (fun R1 hR1 G => (La o55)) ?_
 refine Wa rfl (fun R1 hR1 G => (Ca call60 (YC b.l (some ⟨b.d, 0, none⟩) v.va x.g hg (hv.va.mono hR1)))) ?_
 refine Wa rfl (fun R1 hR1 G => (Qa8 rfl rfl)) ?_
 refine Wa rfl (fun R1 hR1 G => (jN rfl rfl)) ?_
 refine Wa rfl (fun R1 hR1 G => (Qf rfl)) ?_
 refine Wa rfl (fun R1 hR1 G => (Ga underlying161 sizeOf36)) ?_
 refine Xc ?_
 refine Xe ?_
 try simp only [cC]
 refine ZF (v := v.vp) (ys := Xv (x.setPeer to (x.nxt to, k1)).peers) o36 (wn0 rfl) (j := m.frm.toNat * 2 + 1) (by rw [hvp, qh, ← Nat.add_assoc]; rfl) rfl rfl fd_ (by rw [zW]; omega) (by rw [(Qaa x.peers to m.frm _ hfto htl).2, ← hk1]; rfl) (by omega) ?_
 refine Qe (hK11 _ _ _ ?_)
 refine Ql (eL 0 rfl (eL 3 rfl (eL 4 rfl eN))) ?_
 refine Qd fun K12 hK12 => Qc (Pm (Pm ?_))
 refine Pa (Qf rfl) ?_
 refine Pa (Ga underlying161 sizeOf36) ?_
 refine Pa ((XD (v := v.vp) o36 (by rw [hvp, qh, ← Nat.add_assoc]; rfl) fd_ (show nth (Xv (x.setPeer to (x.nxt to, k1)).peers) (m.frm.toNat * 2 + 1) = some (.int .u64 k1) by have h := (yp (x.setPeer to (x.nxt to, k1)).peers to m.frm hfto (by show to < (x.peers.set to _).length; rw [List.length_set]; exact htl)).2; rw [show ((x.setPeer to (x.nxt to, k1)).peers.getD to (0, 0)) = (x.nxt to, k1) from QaH htl _] at h; exact h))) ?_
 refine Pa ((Zq rfl rfl (by omega))) ?_
 refine Pa (Qf rfl) ?_
 refine Pa (Ga underlying161 sizeOf36) ?_
 refine ZF (v := v.vp) (ys := Xv (x.setPeer to (k1 + 1, k1)).peers) o36 (wn0 rfl) (j := m.frm.toNat * 2 + 0) (by rw [hvp, qh, ← Nat.add_assoc]; rfl) rfl rfl fd_ (by rw [zW]; show _ < (x.peers.set to _).length * 2; rw [List.length_set]; omega) (by rw [(Qaa (x.setPeer to (x.nxt to, k1)).peers to m.frm _ hfto (by show to < (x.peers.set to _).length; rw [List.length_set]; exact htl)).1]; show Xv ((x.peers.set to _).set to (_, ((x.peers.set to _).getD to (0, 0)).2)) = _; rw [QaH htl, List.set_set]; rfl) (by omega) ?_
 refine Qe (hK12 _ _ _ (Qd fun K13 hK13 => Qc (Pm ?_)))
 obtain ⟨y2, hy2⟩ : ∃ y, y = x.setPeer to (k1 + 1, k1) := ⟨_, rfl⟩
 have hyn : NIn k y2 := by rw [hy2]; exact hx.setPeer to (by dsimp only; omega)
 have hyl : y2.peers.length = x.peers.length := by rw [hy2]; exact List.length_set
 refine Xu (A := slc 161 2 v.vp x.peers.length (Xv (x.setPeer to (k1 + 1, k1)).peers)) (B := prA v y2) fd_ (fun h hh => by show slc _ _ _ y2.peers.length _ h; rw [hyl, hy2]; exact hh) ?_
 refine Xu (A := ndB b v x) (B := ndB b v y2) fd_ (fun h hh => by rw [hy2]; exact hh) ?_
 refine Xu (A := lgN b v x) (B := lgN b v y2) fd_ (fun h hh => by rw [hy2]; exact hh) ?_
 refine Xu (A := XQ v x) (B := XQ v y2) fd_ (fun h hh => by rw [hy2]; exact hh) ?_
 refine Xu (A := mpA v.vm x.votes) (B := mpA v.vm y2.votes) fd_ (fun h hh => by rw [hy2]; exact hh) ?_
 refine Ra call88 (QgW b v y2 k (by omega) hyn (by rw [hy2]; exact hv.va) hv.vp (by rw [hyl, hy2]; exact hpl)) ?_
 rintro r R5 L' hR5 rfl
 have hyc := NIn.count (by omega) hyn
 rw [← hy2] at hN
 obtain ⟨c, hc⟩ := QfB y2
 rw [hc] at hN hyc ⊢
 have hyv : NOk R5 v { y2 with commit := c } := by rw [hy2]; exact hv.to hR5 ⟨rfl, rfl, rfl⟩
 have hgy := hyc.g (by omega)
 have hn2 : nth (Xv y2.peers) (m.frm.toNat * 2 + 0) = some (.int .u64 (k1 + 1)) := by have h := (yp y2.peers to m.frm hfto (by omega)).1; rw [show (y2.peers.getD to (0, 0)) = (k1 + 1, k1) by rw [hy2]; exact QaH htl _] at h; exact h
 try simp only [cB]
 refine Qe (hK13 _ _ _ (Qd fun K14 hK14 => ?_))
 refine Xr (by kernel_rfl) (by kernel_rfl) ?_
 refine Qa (Qg rfl) ?_
 refine Qa (Qf rfl) ?_
 refine Qa (Ga underlying161 sizeOf36) ?_
 refine Qa ((XD (v := v.vp) o36 (by rw [hvp, qh, ← Nat.add_assoc]; rfl) fd_ hn2)) ?_
 refine Qa (Qg rfl) ?_
 refine Qa (Qf rfl) ?_
 refine Qa (Ga underlying109 sizeOf55) ?_
 refine Qa (La o55) ?_
 refine Qa (Ca call60 (YC b.l (some ⟨b.d, 0, none⟩) v.va y2.g hgy hyv.va)) ?_
 refine Qa (zG rfl rfl) ?_
 refine Xb ?_
 refine hK14 _ _ _ ?_
 refine Ql (eL 0 rfl (eL 3 rfl (eL 87 rfl eN))) ?_
 refine Qm rfl (fun hc87 => ?_) (fun hc87 => ?_)
 have f4 : k1 + 1 ≤ y2.g.last := by simpa using hc87
 rw [if_pos f4] at hN
 have hft := Qfq (R := R5) b v { y2 with commit := c } k (by omega) hyc hyv to (by show to < y2.peers.length; omega)
 rw [← hfto] at hft
 refine Qc (Pm ?_)
 refine Pa (Ga underlying117 sizeOf3) ?_
 refine Pa (La o3) ?_
 refine Ra call70 (hft) ?_
 rintro r R6 L' hR6 ⟨vo, css, hels, hvo2, rfl⟩
 have hR56 := Hp.le_trans hR5 hR6
 try simp only [cB]
 refine Qe (hend _ _ _ ?_)
 apply QD results79 .nil _ (ndL b (v.sent vo css) (ND.feed { y2 with commit := c } to) D) (by first | exact Hp.le_refl _ | assumption) rfl
 case hp => rw [hN]; exact ⟨rfl, _, hyv.sent (y := ND.feed { y2 with commit := c } to) hR6 ⟨rfl, rfl⟩ hels hvo2, rfl⟩
 case hS => exact sb_
 have f4 : ¬ k1 + 1 ≤ y2.g.last := by simpa using hc87
 rw [if_neg f4] at hN
 refine Qj (hend _ _ _ ?_)
 apply QD results79 .nil _ (ndL b v { y2 with commit := c } D) (by first | exact Hp.le_refl _ | assumption) rfl
 case hp => rw [hN]; exact ⟨rfl, _, hyv, rfl⟩
 case hS => exact sb_
theorem qM {g : LG} {e : Ent} {l : List Ent} {i : Int} (h : (g.at i).map (·.1) = some e.1) : ND.fits g (e :: l) i = ND.fits g l (i + 1) := by show (if _ then _ else _) = _; rw [if_pos h]
theorem qS {g : LG} {e : Ent} {l : List Ent} {i : Int} (h : ¬ (g.at i).map (·.1) = some e.1) : ND.fits g (e :: l) i = some (i, e :: l) := by show (if _ then _ else _) = _; rw [if_neg h]
theorem NIn.commits {k : Nat} {x : ND} (h : NIn k x) (m : Msg) (hm : 0 ≤ m.commit) {last : Int} (hl : 0 ≤ last ∧ last ≤ 150000000000000) : NIn k (x.commits m last) :=
 ⟨h.idn, h.term, h.vote, h.base, h.baseT, h.state, h.alln, h.all, by have := h.commit; show 0 ≤ max x.commit (min m.commit last) ∧ max x.commit (min m.commit last) ≤ _; omega, h.patience, h.peers, h.peer, h.votes, h.out⟩
theorem Qfz {k : Nat} {x : ND} {m : Msg} (hx : NIn k x) (hm : MIn k x.n m) : (0 ≤ (x.cutM m).1 ∧ (x.cutM m).1 ≤ 100000000000000) ∧ (x.cutM m).2.length ≤ 20 ∧ ∀ e ∈ (x.cutM m).2, (0 ≤ e.1 ∧ e.1 ≤ 2305843009213693952 + k) ∧ e.2.length ≤ 100 := by
 have h1 := hx.base
 have h2 := hm.index
 have h3 := hm.es
 unfold ND.cutM
 split
 ·exact ⟨h1, by simp; omega, fun e he => h3.2 e (List.mem_of_mem_drop he)⟩
 ·exact ⟨h2, h3⟩
theorem termAt_some {g : LG} {i t : Int} : ¬ g.termAt i = some t ↔ (g.termAt i).isSome = false ∨ ¬ (g.termAt i).getD 0 = t := by
 cases g.termAt i <;> simp
theorem QcI {l : List Ent} (h : l.length ≤ 20) (hb : ∀ e ∈ l, e.2.length ≤ 100) : XG l ≤ 16000000 := by
 have : ∀ (l : List Ent), (∀ e ∈ l, e.2.length ≤ 100) → XG l ≤ 120 * l.length := by
  intro l
  induction l with
  | nil => intro _; simp [XG]
  | cons e l ih =>
   intro h
   have h1 := ih (fun x hx => h x (by simp [hx]))
   have h2 := h e (by simp)
   simp [XG] at h1 ⊢; omega
 have := this l hb
 omega
def yE (x : ND) (D : DK) (m : Msg) (c : Int × List Ent) : Bool × NS := match ND.fits x.g c.2 (c.1 + 1) with
 | none => (true, ((x.commits m (c.1 + c.2.length)).answer m true (c.1 + c.2.length), D))
 | some (i, l) => if i ≤ x.commit then (true, (x, D)) else QU (QP (x, D) (x.g.addD D (i - 1) l)) fun s => (true, ((s.1.commits m (c.1 + c.2.length)).answer m true (c.1 + c.2.length), s.2))
theorem Qbp {x : ND} {D : DK} {m : Msg} (h1 : ¬ (m.index < x.g.base ∧ (m.es.length : Int) < x.g.base - m.index)) (h2 : ¬ (¬ m.index < x.g.base ∧ ¬ x.g.termAt m.index = some m.logTerm)) :
  Zr (x, D) m = yE x D m (x.cutM m) := by
 unfold Zr
 rw [if_neg h1, if_neg h2]
 rfl
theorem Qhv {x : ND} {D : DK} {m : Msg} {bh : Int} {l : List Ent} (h : ND.fits x.g l (bh + 1) = none) : yE x D m (bh, l) = (true, ((x.commits m (bh + l.length)).answer m true (bh + l.length), D)) := by
 unfold yE; simp only [h]
theorem Qcn {x : ND} {D : DK} {m : Msg} {bh i : Int} {l l2 : List Ent} (h : ND.fits x.g l (bh + 1) = some (i, l2)) : yE x D m (bh, l) = if i ≤ x.commit then (true, (x, D)) else QU (QP (x, D) (x.g.addD D (i - 1) l2)) fun s => (true, ((s.1.commits m (bh + l.length)).answer m true (bh + l.length), s.2)) := by
 unfold yE; simp only [h]
theorem yN {α : Type} {l : List α} {i : Nat} {e : α} (h : l[i]? = some e) : l.drop i = e :: l.drop (i + 1) := by
 have hi := (List.getElem?_eq_some_iff.1 h).1
 rw [List.drop_eq_getElem_cons hi]
 rw [List.getElem?_eq_getElem hi] at h
 cases h; rfl
theorem Qn5 {R : Hp} (b : NB) (v : NV) (x : ND) (D : DK) (m : Msg) (ve : Value) (k n : Nat) (hk : k ≤ 50) (hx : NIn k x) (hv : NOk R v x) (hm : MIn k x.n m) (hve : FrX entE R m.es ve) (hD : D.ok n) (hn : n ≤ 800000000) :
   Tri prog 98 [.pointer (some ⟨b.x, 0, none⟩), .agg ⟨QT m ve⟩] R (ndL b v x D) (jn b (Zr (x, D) m)) (jo b (Zr (x, D) m)) := by
 have hidn := hx.idn
 have hveo := hve.one
 have hidx := hm.index
 have hbs := hx.base
 have hob := hx.out
 have hes := hm.es
 have hg := hx.g (by omega)
 have hlb := LG.last_b hg
 have hcm := hm.commit
 have hco := hx.commit
 obtain ⟨hc1, hc2, hc3⟩ := Qfz hx hm
 obtain ⟨qe, ce, rfl, hqe1, hqe2⟩ := hve.shape
 have hva := hv.va
 have hterm := hx.term
 refine Qn func98 rfl ntmps98 rfl (fun σ F Q hret hend hpan => ?_)
 try simp only [cB]
 refine Qd fun K1 hK1 => ?_
 refine Qc ?_
 refine Xa (wn0 rfl) rfl rfl rfl (fun b3 => ?_)
 refine Qe ?_
 refine hK1 _ _ _ ?_
 refine Qd fun K2 hK2 => ?_
 refine Xr (by kernel_rfl) (by kernel_rfl) ?_
 refine Qa (Ga underlying117 sizeOf36) ?_
 refine Qa (La o36) ?_
 refine Qa (Ga underlying117 sizeOf76) ?_
 refine Qa (La o76) ?_
 refine Qa (Xj rfl) ?_
 refine Qa (Xj rfl) ?_
 refine Xb ?_
 refine hK2 _ _ _ ?_
 refine Qd fun K3 hK3 => ?_
 have hJ11 : ∀ (x1 : Int × List Ent × Value), (x1.1, x1.2.1) = x.cutM m ∧ FrX entE R x1.2.1 x1.2.2 ∧ Zr (x, D) m = yE x D m (x1.1, x1.2.1) → EJ ⟨prog, 150, σ⟩ K3 [(0, .pointer (some ⟨b.x, 0, none⟩)), (3, .pointer (some ⟨b3, 0, none⟩)), (4, .int .u64 x1.1), (5, x1.2.2)] R (blk b3 (QT m (.slice qe m.es.length ce)) 117 :: ndB b v x :: lgN b v x :: dkB b.d v.u D :: dkS v.u D :: prA v x :: mpA v.vm x.votes :: XQ v x :: F) := by
  rintro ⟨bh, l, vl⟩ ⟨hcut, hl, hnot⟩
  try dsimp only
  dsimp only at hcut hl hnot
  have hbh := hc1
  rw [← hcut] at hbh hc2 hc3
  dsimp only at hbh hc2 hc3
  obtain ⟨ql, cl, rfl, hql1, hql2⟩ := hl.shape
  refine hK3 _ _ _ ?_
  refine Qd fun K4 hK4 => ?_
  refine Qc ?_
  refine Pm ?_
  refine Pm ?_
  refine Pa (QR underlying76 rfl) ?_
  refine Pa ((Xp underlying3 underlying36 rfl (by (simp only [IntKind.min, IntKind.max, IntKind.signed, IntKind.bits, Bool.false_eq_true, ite_false, ite_true]; omega)))) ?_
  refine Pa ((Zq rfl rfl (by omega))) ?_
  refine Ps ?_
  refine Qe ?_
  refine hK4 _ _ _ ?_
  refine Qd fun K5 hK5 => ?_
  have hJ21 : ∀ (x2 : ND × NV × DK × Hp), NIn (k + 1) x2.1 ∧ NOk x2.2.2.2 x2.2.1 x2.1 ∧ R.le x2.2.2.2 ∧ Zr (x, D) m = (true, ((x2.1.commits m (bh + l.length)).answer m true (bh + l.length), x2.2.2.1)) → EJ ⟨prog, 150, σ⟩ K5 [(0, .pointer (some ⟨b.x, 0, none⟩)), (3, .pointer (some ⟨b3, 0, none⟩)), (12, .int .u64 (bh + (l.length : Int)))] x2.2.2.2 (blk b3 (QT m (.slice qe m.es.length ce)) 117 :: ndB b x2.2.1 x2.1 :: lgN b x2.2.1 x2.1 :: dkB b.d x2.2.1.u x2.2.2.1 :: dkS x2.2.1.u x2.2.2.1 :: prA x2.2.1 x2.1 :: mpA x2.2.1.vm x2.1.votes :: XQ x2.2.1 x2.1 :: F) := by
   rintro ⟨y, v2, D2, R2⟩ ⟨hy, hv2, hR2, hF⟩
   try dsimp only
   dsimp only at hy hv2 hR2 hF
   have hyo := hy.out
   have hyc := hy.commits m hcm.1 (last := bh + l.length) (by omega)
   refine hK5 _ _ _ ?_
   refine Qd fun K6 hK6 => ?_
   refine Xd (L := [blk b3 (QT m (.slice qe m.es.length ce)) 117, ndB b v2 y]) [0, 1, 2, 3, 4, 5, 6, 7, 8, 9, 10, 11] [] [12] _ sb_ (by kernel_rfl) (by kernel_rfl) (by kernel_rfl) rfl ?_
   refine Wa rfl (fun R1 hR1 G => (Qg rfl)) ?_
   refine Wa rfl (fun R1 hR1 G => (Qg rfl)) ?_
   refine Wa rfl (fun R1 hR1 G => (Qf rfl)) ?_
   refine Wa rfl (fun R1 hR1 G => (Ga underlying109 sizeOf36)) ?_
   refine Wa rfl (fun R1 hR1 G => (La o36)) ?_
   refine Wa rfl (fun R1 hR1 G => (Ga underlying117 sizeOf36)) ?_
   refine Wa rfl (fun R1 hR1 G => (La o36)) ?_
   refine Wa rfl (fun R1 hR1 G => (Qg rfl)) ?_
   refine Wa rfl (fun R1 hR1 G => (Qa8 rfl rfl)) ?_
   refine Wa rfl (fun R1 hR1 G => (jN rfl rfl)) ?_
   refine Wa rfl (fun R1 hR1 G => (Qf rfl)) ?_
   refine Wa rfl (fun R1 hR1 G => (Ga underlying109 sizeOf36)) ?_
   refine Xc ?_
   refine Xe ?_
   try simp only [cC]
   refine Sa o36 ?_
   refine Qe ?_
   refine hK6 _ _ _ ?_
   refine Ql (eL 0 rfl (eL 3 rfl (eL 12 rfl eN))) ?_
   refine Qc ?_
   refine Pm ?_
   refine Pa (Lb XO) ?_
   refine Pm ?_
   refine Ra call97 (yz b v2 (y.commits m (bh + l.length)) m (.slice qe m.es.length ce) true (bh + l.length) hv2.out hv2.vo (by show y.out.length ≤ _; omega) hveo) ?_
   rintro r R6 L' hR6 ⟨vo, css, hels, hvo2, rfl⟩
   have hR26 := Hp.le_trans hR2 hR6
   try simp only [cB]
   refine Qe ?_
   refine hend _ _ _ ?_
   apply QD results98 .nil _ (ndL b (v2.sent vo css) ((y.commits m (bh + l.length)).answer m true (bh + l.length)) D2) (by first | exact Hp.le_refl _ | assumption) rfl
   case hp => rw [hF]; exact ⟨rfl, _, hv2.sent (y := (y.commits m (bh + l.length)).answer m true (bh + l.length)) hR6 ⟨rfl, rfl⟩ hels hvo2, rfl⟩
   case hS => exact sb_
  refine Qd fun K7 hK7 => ?_
  refine Qc ?_
  refine Pm ?_
  refine Pa (QR underlying76 rfl) ?_
  refine Pm ?_
  refine Qe ?_
  refine hK7 _ _ _ ?_
  refine Qp ?_
  refine Ql (E' := (fun (x3 : Nat) => [(0, .pointer (some ⟨b.x, 0, none⟩)), (3, .pointer (some ⟨b3, 0, none⟩)), (4, .int .u64 bh), (5, .slice ql l.length cl), (12, .int .u64 (bh + (l.length : Int))), (86, .slice ql l.length cl), (87, .int .i64 (l.length : Int)), (88, .int .i64 (x3 : Int))]) 0) (eC rfl (eC rfl (eC rfl (eC rfl (eC rfl (eC rfl (eC rfl (eC rfl eN)))))))) ?_
  refine Xi (M := (fun (x3 : Nat) => blk b3 (QT m (.slice qe m.es.length ce)) 117 :: ndB b v x :: lgN b v x :: dkB b.d v.u D :: dkS v.u D :: prA v x :: mpA v.vm x.votes :: XQ v x :: F) 0) sb_ ?_
  refine QY (fun (x3 : Nat) => [(0, .pointer (some ⟨b.x, 0, none⟩)), (3, .pointer (some ⟨b3, 0, none⟩)), (4, .int .u64 bh), (5, .slice ql l.length cl), (12, .int .u64 (bh + (l.length : Int))), (86, .slice ql l.length cl), (87, .int .i64 (l.length : Int)), (88, .int .i64 (x3 : Int))]) (fun (x3 : Nat) => R) (fun (x3 : Nat) => blk b3 (QT m (.slice qe m.es.length ce)) 117 :: ndB b v x :: lgN b v x :: dkB b.d v.u D :: dkS v.u D :: prA v x :: mpA v.vm x.votes :: XQ v x :: F) (fun (x3 : Nat) => x3 ≤ l.length ∧ ND.fits x.g l (bh + 1) = ND.fits x.g (l.drop x3) (bh + 1 + x3)) (fun (x3 : Nat) => l.length - x3) 0 (⟨by simp, by simp⟩) ?_
  rintro i ⟨hi, hfk⟩
  try dsimp only
  refine Qd fun K8 hK8 => ?_
  refine Qc ?_
  refine Pa (QO rfl rfl) ?_
  refine Qe ?_
  refine hK8 _ _ _ ?_
  refine Qd fun K9 hK9 => ?_
  refine Qm rfl (fun hc89 => ?_) (fun hc89 => ?_)
  ·try simp only [dx] at hc89
   refine Qj ?_
   refine hK9 _ _ _ ?_
   refine Qd fun K11 hK11 => ?_
   refine Qp ?_
   refine Qd fun K12 hK12 => ?_
   refine Qc ?_
   have hin : i < l.length := by (try simp at hc89); omega
   obtain ⟨e, he⟩ : ∃ e, l[i]? = some e := ⟨_, List.getElem?_eq_getElem hin⟩
   obtain ⟨be, oe, ce', cse, hee, rfl, _, hcell⟩ := hl.at he
   obtain ⟨rfl, rfl⟩ : ql = some ⟨be, oe, none⟩ ∧ cl = ce' := by cases hee; exact ⟨rfl, rfl⟩
   have hat := Qcu (R := R) b.l (some ⟨b.d, 0, none⟩) v.va x.g hg hva (bh + 1 + i) (by unfold QM; omega)
   obtain ⟨eo, ok, hev, hok1, hok2⟩ := Qak (x.g.at (bh + 1 + i))
   have heb := hc3 e (List.mem_of_getElem? he)
   refine Pm ?_
   refine Pa (Qy underlying76 sizeOf93 rfl rfl om_) ?_
   refine Pa ((XT m93 (vs := Yu e) rfl rfl (fun j u hj => hcell j u hj))) ?_
   refine QA (wn0 rfl) rfl zeroValue93 rfl (fun b14 => ?_)
   refine Ps ?_
   refine Sm (vs := Yu e) m93 (entE.one (R := R) (x := e) rfl) ?_
   refine Qe ?_
   refine hK12 _ _ _ ?_
   refine Qd fun K13 hK13 => ?_
   refine Qc ?_
   refine Pm ?_
   refine Pa ((Zq rfl rfl (by omega))) ?_
   refine Pm ?_
   refine Pa ((Xp underlying3 underlying36 rfl (by (simp only [IntKind.min, IntKind.max, IntKind.signed, IntKind.bits, Bool.false_eq_true, ite_false, ite_true]; omega)))) ?_
   refine Pa ((Zq rfl rfl (by omega))) ?_
   refine Ps ?_
   refine Qe ?_
   refine hK13 _ _ _ ?_
   refine Qd fun K14 hK14 => ?_
   refine Qd fun K15 hK15 => ?_
   refine Qc ?_
   refine Pm ?_
   refine Pa (Qf rfl) ?_
   refine Pa (Ga underlying109 sizeOf55) ?_
   refine Pa (La o55) ?_
   refine Pm ?_
   refine Pa (Ca call40 (hat)) ?_
   refine Xg 104 rfl (v' := QF [.agg ⟨Yu eo⟩, .bool ok]) hev ?_
   refine Pm ?_
   refine Pa (Qq rfl rfl) ?_
   refine Pa (Qq rfl rfl) ?_
   refine QA (wn0 rfl) rfl zeroValue93 rfl (fun b16 => ?_)
   refine Sm (vs := Yu eo) m93 (entE.one (R := R) (x := eo) rfl) ?_
   refine Ps ?_
   refine Qe ?_
   refine hK15 _ _ _ ?_
   refine Ql (eL 0 rfl (eL 3 rfl (eL 4 rfl (eL 5 rfl (eL 12 rfl (eL 13 rfl (eL 14 rfl (eL 15 rfl (eL 16 rfl (eL 17 rfl (eL 86 rfl (eL 87 rfl (eL 88 rfl eN))))))))))))) ?_
   refine Qd fun K16 hK16 => ?_
   refine Qc ?_
   refine Pm ?_
   refine Pm ?_
   refine QE 108 rfl (fun hg108 => ?_) (fun hg108 => ?_)
   ·have g1 := hok1 (by simpa using hg108)
    refine Pb (Ga underlying93 sizeOf36) ?_
    refine Pb (La o36) ?_
    refine Pb (Ga underlying93 sizeOf36) ?_
    refine Pb (La o36) ?_
    refine Pb (QB rfl rfl) ?_
    refine Pa (Qr rfl rfl) ?_
    refine Qe ?_
    refine hK16 _ _ _ ?_
    refine Qm rfl (fun hc114 => ?_) (fun hc114 => ?_)
    ·first|(have hyes : (x.g.at (bh + 1 + i)).map (·.1) = some e.1 := by rw [g1]; simpa using hc114)|skip
     refine QL ?_
     refine hK11 _ _ _ ?_
     refine Qc ?_
     refine Pa (Qt rfl rfl om_) ?_
     refine Pm ?_
     refine Qe ?_
     refine Xl (q' := QS _ _ _ _ _ _ _) rfl ?_
     refine QC (i + 1) (⟨by omega, by rw [hfk, yN he, qM hyes]; congr 1; omega⟩) (by omega) (eC rfl (eC rfl (eC rfl (eC rfl (eC rfl (eC rfl (eC rfl (eC rfl eN)))))))) rfl sb_
    ·first|(have hno : ¬ (x.g.at (bh + 1 + i)).map (·.1) = some e.1 := by rw [g1]; simpa using hc114)|skip
     refine Qj ?_
     refine hK14 _ _ _ ?_
     refine Qd fun K18 hK18 => ?_
     refine Qd fun K19 hK19 => ?_
     have hfs : Zr (x, D) m = if bh + 1 + i ≤ x.commit then (true, (x, D)) else QU (QP (x, D) (x.g.addD D (bh + 1 + i - 1) (l.drop i))) fun s => (true, ((s.1.commits m (bh + l.length)).answer m true (bh + l.length), s.2)) := by rw [hnot, Qcn (by rw [hfk, yN he, qS hno])]; rw [yN he]
     refine Qc ?_
     refine Pm ?_
     refine Pm ?_
     refine Pa (Qf rfl) ?_
     refine Pa (Ga underlying109 sizeOf36) ?_
     refine Pa (La o36) ?_
     refine Pa (zG rfl rfl) ?_
     refine Qe ?_
     refine hK19 _ _ _ ?_
     refine Qm rfl (fun hc120 => ?_) (fun hc120 => ?_)
     ·have g2 : bh + 1 + i ≤ x.commit := by simpa using hc120
      rw [if_pos g2] at hfs
      refine Qi ?_
      refine hret _ _ _ ?_
      refine Ea results98 .nil (ndL b v x D) (by first | exact Hp.le_refl _ | assumption) ?_
      rw [hfs]; exact ⟨rfl, v, hv, rfl⟩
     ·have g2 : ¬ bh + 1 + i ≤ x.commit := by simpa using hc120
      rw [if_neg g2] at hfs
      obtain ⟨ra, hra⟩ : ∃ r, r = x.g.addD D (bh + 1 + i - 1) (l.drop i) := ⟨_, rfl⟩
      rw [← hra] at hfs
      have hAs := hfs
      have hsd := hl.sub (a := i) (b := l.length) (by omega) (by omega)
      rw [List.take_of_length_le (by simp)] at hsd
      have hdl : (l.drop i).length ≤ 20 := by simp; omega
      have hdb : ∀ e ∈ l.drop i, (0 ≤ e.1 ∧ e.1 ≤ 2305843009213693952 + k) ∧ e.2.length ≤ 100 := fun e he => hc3 e (List.mem_of_mem_drop he)
      have hdE : XG (l.drop i) ≤ 16000000 := QcI hdl (fun e he => (hdb e he).2)
      refine Qj ?_
      refine hK18 _ _ _ ?_
      refine Qd fun K21 hK21 => ?_
      refine Xd (L := [ndB b v x]) [0, 1, 2, 3, 4, 5, 6, 7, 8, 9] [10] [11] _ sb_ (by kernel_rfl) (by kernel_rfl) (by kernel_rfl) rfl ?_
      refine Wa rfl (fun R1 hR1 G => (Qg rfl)) ?_
      refine Wa rfl (fun R1 hR1 G => (Qg rfl)) ?_
      refine Wa rfl (fun R1 hR1 G => (Qf rfl)) ?_
      refine Wa rfl (fun R1 hR1 G => (Ga underlying109 sizeOf55)) ?_
      refine Wa rfl (fun R1 hR1 G => (La o55)) ?_
      refine Wa rfl (fun R1 hR1 G => (Qg rfl)) ?_
      refine Wa rfl (fun R1 hR1 G => (ZE rfl rfl (by omega))) ?_
      refine Wa rfl (fun R1 hR1 G => (Qg rfl)) ?_
      refine Wa rfl (fun R1 hR1 G => (Qg rfl)) ?_
      refine Wa rfl (fun R1 hR1 G => (Zk (l := i) (h := l.length) underlying76 sizeOf93 rfl ⟨.i64, rfl⟩ rfl (by omega))) ?_
      refine Xc ?_
      refine QH rfl ?_
      try simp only [cC]
      refine Ra call87 (Qdc b.l b.d v.va v.u _ x.g D n (bh + 1 + i - 1) (l.drop i) hg (by unfold QM; omega) hva hsd (by omega) (fun e he => ⟨by have := (hdb e he).1; unfold QM; omega, by have := (hdb e he).2; omega⟩) hdE hD (by omega)) ?_
      rintro r R4 L' hR4 ⟨rfl, u2, va2, hva2, rfl⟩
      rw [← hra] at hva2 ⊢
      try simp only [cB]
      refine QI le_ sb_ ?_
      refine Xe ?_
      try simp only [cC]
      refine XE (wn0 rfl) rfl call74 rfl (zx b (v.logd u2 va2) x _) sp_ (fun ch Rp Lp hRp hpp => ?_) ?_
      · obtain ⟨he1, rfl, rfl⟩ := hpp
        try simp only [cB]
        refine hpan _ _ _ _ ?_
        refine Yz _ (ndL b (v.logd u2 va2) { x with g := ra.2.1, down := true } ra.2.2) (by first | exact Hp.le_refl _ | assumption | exact Hp.le_trans ‹_› ‹_› | exact Hp.le_trans hR4 hRp) rfl sb_ ?_
        exact ⟨by rw [hAs]; simp [QU, QP, he1], rfl, v.logd u2 va2, by rw [hAs]; simp only [QU, QP, if_neg he1]; exact hv.logd (y := { x with g := ra.2.1, down := true }) (Hp.le_trans hR4 hRp) ⟨rfl, rfl⟩ (hva2.mono hRp), by rw [hAs]; simp [QU, QP, he1]⟩
      rintro r R5 L' hR5 ⟨he0, rfl⟩
      have hx1 : NIn (k + 1) { x with g := ra.2.1 } := by rw [hra, Qbq (by rw [← hra]; exact he0)]; exact hx.add hdb hdl
      have hR35 := Hp.le_trans hR4 hR5
      have hv1 : NOk R5 (v.logd u2 va2) { x with g := ra.2.1 } := hv.logd (y := { x with g := ra.2.1 }) hR35 ⟨rfl, rfl⟩ (hva2.mono hR5)
      try simp only [cB]
      refine Qe ?_
      refine hK21 _ _ _ ?_
      refine Ql (eL 0 rfl (eL 3 rfl (eL 12 rfl eN))) ?_
      refine QL ?_
      refine QG hJ21 (({ x with g := ra.2.1 }, v.logd u2 va2, ra.2.2, R5)) (⟨hx1, hv1, hR35, by rw [hAs]; simp [QU, QP, he0]⟩) (eC rfl (eC rfl (eC rfl eN))) rfl sb_
   ·have g1 := hok2 (by simpa using hg108)
    have hno : ¬ (x.g.at (bh + 1 + i)).map (·.1) = some e.1 := by rw [g1]; simp
    refine Pk ?_
    refine Pk ?_
    refine Pk ?_
    refine Pk ?_
    refine Pk ?_
    refine Pa (Qo rfl rfl) ?_
    refine Qe ?_
    refine hK16 _ _ _ ?_
    refine Qs rfl ?_
    refine Qj ?_
    refine hK14 _ _ _ ?_
    refine Qd fun K22 hK22 => ?_
    refine Qd fun K23 hK23 => ?_
    have hfs : Zr (x, D) m = if bh + 1 + i ≤ x.commit then (true, (x, D)) else QU (QP (x, D) (x.g.addD D (bh + 1 + i - 1) (l.drop i))) fun s => (true, ((s.1.commits m (bh + l.length)).answer m true (bh + l.length), s.2)) := by rw [hnot, Qcn (by rw [hfk, yN he, qS hno])]; rw [yN he]
    refine Qc ?_
    refine Pm ?_
    refine Pm ?_
    refine Pa (Qf rfl) ?_
    refine Pa (Ga underlying109 sizeOf36) ?_
    refine Pa (La o36) ?_
    refine Pa (zG rfl rfl) ?_
    refine Qe ?_
    refine hK23 _ _ _ ?_
    refine Qm rfl (fun hc120 => ?_) (fun hc120 => ?_)
    ·have g2 : bh + 1 + i ≤ x.commit := by simpa using hc120
     rw [if_pos g2] at hfs
     refine Qi ?_
     refine hret _ _ _ ?_
     refine Ea results98 .nil (ndL b v x D) (by first | exact Hp.le_refl _ | assumption) ?_
     rw [hfs]; exact ⟨rfl, v, hv, rfl⟩
    ·have g2 : ¬ bh + 1 + i ≤ x.commit := by simpa using hc120
     rw [if_neg g2] at hfs
     obtain ⟨ra, hra⟩ : ∃ r, r = x.g.addD D (bh + 1 + i - 1) (l.drop i) := ⟨_, rfl⟩
     rw [← hra] at hfs
     have hAs := hfs
     have hsd := hl.sub (a := i) (b := l.length) (by omega) (by omega)
     rw [List.take_of_length_le (by simp)] at hsd
     have hdl : (l.drop i).length ≤ 20 := by simp; omega
     have hdb : ∀ e ∈ l.drop i, (0 ≤ e.1 ∧ e.1 ≤ 2305843009213693952 + k) ∧ e.2.length ≤ 100 := fun e he => hc3 e (List.mem_of_mem_drop he)
     have hdE : XG (l.drop i) ≤ 16000000 := QcI hdl (fun e he => (hdb e he).2)
     refine Qj ?_
     refine hK22 _ _ _ ?_
     refine Qd fun K25 hK25 => ?_
     refine Xd (L := [ndB b v x]) [0, 1, 2, 3, 4, 5, 6, 7, 8, 9] [10] [11] _ sb_ (by kernel_rfl) (by kernel_rfl) (by kernel_rfl) rfl ?_
     refine Wa rfl (fun R1 hR1 G => (Qg rfl)) ?_
     refine Wa rfl (fun R1 hR1 G => (Qg rfl)) ?_
     refine Wa rfl (fun R1 hR1 G => (Qf rfl)) ?_
     refine Wa rfl (fun R1 hR1 G => (Ga underlying109 sizeOf55)) ?_
     refine Wa rfl (fun R1 hR1 G => (La o55)) ?_
     refine Wa rfl (fun R1 hR1 G => (Qg rfl)) ?_
     refine Wa rfl (fun R1 hR1 G => (ZE rfl rfl (by omega))) ?_
     refine Wa rfl (fun R1 hR1 G => (Qg rfl)) ?_
     refine Wa rfl (fun R1 hR1 G => (Qg rfl)) ?_
     refine Wa rfl (fun R1 hR1 G => (Zk (l := i) (h := l.length) underlying76 sizeOf93 rfl ⟨.i64, rfl⟩ rfl (by omega))) ?_
     refine Xc ?_
     refine QH rfl ?_
     try simp only [cC]
     refine Ra call87 (Qdc b.l b.d v.va v.u _ x.g D n (bh + 1 + i - 1) (l.drop i) hg (by unfold QM; omega) hva hsd (by omega) (fun e he => ⟨by have := (hdb e he).1; unfold QM; omega, by have := (hdb e he).2; omega⟩) hdE hD (by omega)) ?_
     rintro r R4 L' hR4 ⟨rfl, u2, va2, hva2, rfl⟩
     rw [← hra] at hva2 ⊢
     try simp only [cB]
     refine QI le_ sb_ ?_
     refine Xe ?_
     try simp only [cC]
     refine XE (wn0 rfl) rfl call74 rfl (zx b (v.logd u2 va2) x _) sp_ (fun ch Rp Lp hRp hpp => ?_) ?_
     · obtain ⟨he1, rfl, rfl⟩ := hpp
       try simp only [cB]
       refine hpan _ _ _ _ ?_
       refine Yz _ (ndL b (v.logd u2 va2) { x with g := ra.2.1, down := true } ra.2.2) (by first | exact Hp.le_refl _ | assumption | exact Hp.le_trans ‹_› ‹_› | exact Hp.le_trans hR4 hRp) rfl sb_ ?_
       exact ⟨by rw [hAs]; simp [QU, QP, he1], rfl, v.logd u2 va2, by rw [hAs]; simp only [QU, QP, if_neg he1]; exact hv.logd (y := { x with g := ra.2.1, down := true }) (Hp.le_trans hR4 hRp) ⟨rfl, rfl⟩ (hva2.mono hRp), by rw [hAs]; simp [QU, QP, he1]⟩
     rintro r R5 L' hR5 ⟨he0, rfl⟩
     have hx1 : NIn (k + 1) { x with g := ra.2.1 } := by rw [hra, Qbq (by rw [← hra]; exact he0)]; exact hx.add hdb hdl
     have hR35 := Hp.le_trans hR4 hR5
     have hv1 : NOk R5 (v.logd u2 va2) { x with g := ra.2.1 } := hv.logd (y := { x with g := ra.2.1 }) hR35 ⟨rfl, rfl⟩ (hva2.mono hR5)
     try simp only [cB]
     refine Qe ?_
     refine hK25 _ _ _ ?_
     refine Ql (eL 0 rfl (eL 3 rfl (eL 12 rfl eN))) ?_
     refine QL ?_
     refine QG hJ21 (({ x with g := ra.2.1 }, v.logd u2 va2, ra.2.2, R5)) (⟨hx1, hv1, hR35, by rw [hAs]; simp [QU, QP, he0]⟩) (eC rfl (eC rfl (eC rfl eN))) rfl sb_
  ·try simp only [dx] at hc89
   refine QL ?_
   refine QG hJ21 ((x, v, D, R)) (⟨hx.le (by omega), hv, Hp.le_refl _, by rw [hnot, Qhv (by rw [hfk, List.drop_of_length_le (by (try simp at hc89); omega)]; rfl)]⟩) (eC rfl (eC rfl (eC rfl eN))) rfl sb_
 refine Qd fun K26 hK26 => ?_
 refine Qc ?_
 refine Pm ?_
 refine Pa (Qf rfl) ?_
 refine Pa (Ga underlying109 sizeOf55) ?_
 refine Pa (La o55) ?_
 refine Pa (Ca call25 (yw b.l (some ⟨b.d, 0, none⟩) v.va x.g)) ?_
 refine Pm ?_
 refine Pa (Qq rfl rfl) ?_
 refine Pa (Qq rfl rfl) ?_
 refine Pa (Qq rfl rfl) ?_
 refine Ps ?_
 refine Ps ?_
 refine Ps ?_
 refine Qe ?_
 refine hK26 _ _ _ ?_
 refine Qd fun K27 hK27 => ?_
 refine Qc ?_
 refine Pm ?_
 refine Pm ?_
 refine Pa (QO rfl rfl) ?_
 refine Qe ?_
 refine hK27 _ _ _ ?_
 refine Qm rfl (fun hc33 => ?_) (fun hc33 => ?_)
 ·have f1 : m.index < x.g.base := by simpa using hc33
  refine Qd fun K29 hK29 => ?_
  refine Qd fun K30 hK30 => ?_
  refine Qc ?_
  refine Pm ?_
  refine Pa (QR underlying76 rfl) ?_
  refine Pa ((Xp underlying3 underlying36 rfl (by (simp only [IntKind.min, IntKind.max, IntKind.signed, IntKind.bits, Bool.false_eq_true, ite_false, ite_true]; omega)))) ?_
  refine Pm ?_
  refine Pm ?_
  refine Pa ((ZE rfl rfl (by omega))) ?_
  refine Pa (QO rfl rfl) ?_
  refine Qe ?_
  refine hK30 _ _ _ ?_
  refine Ql (eL 0 rfl (eL 3 rfl (eL 4 rfl (eL 5 rfl (eL 6 rfl (eL 40 rfl eN)))))) ?_
  refine Qm rfl (fun hc40 => ?_) (fun hc40 => ?_)
  ·have f2 : (m.es.length : Int) < x.g.base - m.index := by (try simp at hc40); omega
   refine Qd fun K32 hK32 => ?_
   refine Qc ?_
   refine Pm ?_
   refine Pa (Lb XO) ?_
   refine Pm ?_
   refine Ra call97 (yz b v x m (.slice qe m.es.length ce) _ _ hv.out hv.vo (by omega) hveo) ?_
   rintro r R2 L' hR2 ⟨vo, css, hels, hvo2, rfl⟩
   try simp only [cB]
   refine Qe ?_
   refine hK32 _ _ _ ?_
   refine Ql eN ?_
   refine Qi ?_
   refine hret _ _ _ ?_
   apply XL results98 .nil _ (ndL b (v.sent vo css) (x.answer m _ _) D) (by first | exact Hp.le_refl _ | assumption) rfl
   case hp => unfold Zr; first|(rw [if_pos ⟨f1, f2⟩]; exact ⟨rfl, _, hv.sent (y := x.answer m true x.g.base) hR2 ⟨rfl, rfl⟩ hels hvo2, rfl⟩)|(rw [if_neg (fun h => f1 h.1), if_pos ⟨f1, f4⟩]; exact ⟨rfl, _, hv.sent (y := x.answer m false (min x.g.last (max m.index 1 - 1))) hR2 ⟨rfl, rfl⟩ hels hvo2, rfl⟩)
   case hS => exact sb_
  ·have f2 : ¬ (m.es.length : Int) < x.g.base - m.index := by (try simp at hc40); omega
   refine Qj ?_
   refine hK29 _ _ _ ?_
   refine Xr (by kernel_rfl) (by kernel_rfl) ?_
   have hsub := hve.sub (a := (x.g.base - m.index).toNat) (b := m.es.length) (by omega) (by omega)
   rw [List.take_of_length_le (by simp)] at hsub
   have hA1 := Qbp (x := x) (D := D) (m := m) (fun h => f2 h.2) (fun h => h.1 f1)
   rw [show x.cutM m = (x.g.base, m.es.drop (x.g.base - m.index).toNat) by unfold ND.cutM; rw [if_pos f1]] at hA1
   refine Qa (Qg rfl) ?_
   refine Qa (Qg rfl) ?_
   refine Qa (Qg rfl) ?_
   refine Qa (Qg rfl) ?_
   refine Qa ((ZE rfl rfl (by omega))) ?_
   refine Qa ((Zk (l := (x.g.base - m.index).toNat) (h := m.es.length) underlying76 sizeOf93 rfl ⟨.u64, by rw [show (((x.g.base - m.index).toNat : Nat) : Int) = x.g.base - m.index by omega]; rfl⟩ rfl (by omega))) ?_
   refine Qa (Xj rfl) ?_
   refine Qa (Xj rfl) ?_
   refine Xb ?_
   refine QG hJ11 ((x.g.base, m.es.drop (x.g.base - m.index).toNat, _)) (⟨by unfold ND.cutM; rw [if_pos f1], hsub, hA1⟩) (eC rfl (eC rfl (eC rfl (eC rfl eN)))) rfl sb_
 ·have f1 : ¬ m.index < x.g.base := by simpa using hc33
  refine Qd fun K33 hK33 => ?_
  refine Qc ?_
  refine Pm ?_
  refine Pa (Qf rfl) ?_
  refine Pa (Ga underlying109 sizeOf55) ?_
  refine Pa (La o55) ?_
  refine Pm ?_
  refine Pa (Ca call100 (yW b.l (some ⟨b.d, 0, none⟩) v.va x.g hg hva m.index (by unfold QM; omega))) ?_
  refine Xg 57 rfl (v' := QF [.int .u64 ((x.g.termAt m.index).getD 0), .bool (x.g.termAt m.index).isSome]) (Qbg _) ?_
  refine Pm ?_
  refine Pa (Qq rfl rfl) ?_
  refine Pa (Qq rfl rfl) ?_
  refine Ps ?_
  refine Ps ?_
  refine Qe ?_
  refine hK33 _ _ _ ?_
  refine Ql (eL 0 rfl (eL 3 rfl (eL 4 rfl (eL 5 rfl (eL 9 rfl (eL 10 rfl eN)))))) ?_
  refine Qd fun K34 hK34 => ?_
  refine Qc ?_
  refine Pm ?_
  refine Pa (Yq rfl) ?_
  refine Pm ?_
  refine QE 62 rfl (fun hg62 => ?_) (fun hg62 => ?_)
  ·have f3 : (x.g.termAt m.index).isSome = false := by simpa using hg62
   have f4 : ¬ x.g.termAt m.index = some m.logTerm := termAt_some.2 (.inl f3)
   refine Pk ?_
   refine Pk ?_
   refine Pk ?_
   refine Pk ?_
   refine Pa (Qr rfl rfl) ?_
   refine Qe ?_
   refine hK34 _ _ _ ?_
   refine Qv rfl ?_
   refine Qd fun K35 hK35 => ?_
   refine Qc ?_
   refine Pm ?_
   refine Pa (Qf rfl) ?_
   refine Pa (Ga underlying109 sizeOf55) ?_
   refine Pa (La o55) ?_
   refine Pa (Ca call60 (YC b.l (some ⟨b.d, 0, none⟩) v.va x.g hg hva)) ?_
   refine Pm ?_
   refine Pa (jN rfl rfl) ?_
   refine Pa ((ZE rfl rfl (by omega))) ?_
   refine Pa (Qa8 rfl rfl) ?_
   refine Ps ?_
   refine Qe ?_
   refine hK35 _ _ _ ?_
   refine Ql (eL 0 rfl (eL 3 rfl (eL 11 rfl eN))) ?_
   refine Qd fun K36 hK36 => ?_
   refine Qc ?_
   refine Pm ?_
   refine Pa (Lb XO) ?_
   refine Pm ?_
   refine Ra call97 (yz b v x m (.slice qe m.es.length ce) _ _ hv.out hv.vo (by omega) hveo) ?_
   rintro r R2 L' hR2 ⟨vo, css, hels, hvo2, rfl⟩
   try simp only [cB]
   refine Qe ?_
   refine hK36 _ _ _ ?_
   refine Ql eN ?_
   refine Qi ?_
   refine hret _ _ _ ?_
   apply XL results98 .nil _ (ndL b (v.sent vo css) (x.answer m _ _) D) (by first | exact Hp.le_refl _ | assumption) rfl
   case hp => unfold Zr; first|(rw [if_pos ⟨f1, f2⟩]; exact ⟨rfl, _, hv.sent (y := x.answer m true x.g.base) hR2 ⟨rfl, rfl⟩ hels hvo2, rfl⟩)|(rw [if_neg (fun h => f1 h.1), if_pos ⟨f1, f4⟩]; exact ⟨rfl, _, hv.sent (y := x.answer m false (min x.g.last (max m.index 1 - 1))) hR2 ⟨rfl, rfl⟩ hels hvo2, rfl⟩)
   case hS => exact sb_
  ·have f3 : (x.g.termAt m.index).isSome = true := by simpa using hg62
   refine Pb (Qg rfl) ?_
   refine Pb (Ga underlying117 sizeOf36) ?_
   refine Pb (La o36) ?_
   refine Pb (XU rfl rfl) ?_
   refine Pa (Qo rfl rfl) ?_
   refine Qe ?_
   refine hK34 _ _ _ ?_
   refine Qm rfl (fun hc67 => ?_) (fun hc67 => ?_)
   ·first|(have f4 : ¬ x.g.termAt m.index = some m.logTerm := termAt_some.2 (.inr (by simpa using hc67)))|skip
    refine Qd fun K38 hK38 => ?_
    refine Qc ?_
    refine Pm ?_
    refine Pa (Qf rfl) ?_
    refine Pa (Ga underlying109 sizeOf55) ?_
    refine Pa (La o55) ?_
    refine Pa (Ca call60 (YC b.l (some ⟨b.d, 0, none⟩) v.va x.g hg hva)) ?_
    refine Pm ?_
    refine Pa (jN rfl rfl) ?_
    refine Pa ((ZE rfl rfl (by omega))) ?_
    refine Pa (Qa8 rfl rfl) ?_
    refine Ps ?_
    refine Qe ?_
    refine hK38 _ _ _ ?_
    refine Ql (eL 0 rfl (eL 3 rfl (eL 11 rfl eN))) ?_
    refine Qd fun K39 hK39 => ?_
    refine Qc ?_
    refine Pm ?_
    refine Pa (Lb XO) ?_
    refine Pm ?_
    refine Ra call97 (yz b v x m (.slice qe m.es.length ce) _ _ hv.out hv.vo (by omega) hveo) ?_
    rintro r R2 L' hR2 ⟨vo, css, hels, hvo2, rfl⟩
    try simp only [cB]
    refine Qe ?_
    refine hK39 _ _ _ ?_
    refine Ql eN ?_
    refine Qi ?_
    refine hret _ _ _ ?_
    apply XL results98 .nil _ (ndL b (v.sent vo css) (x.answer m _ _) D) (by first | exact Hp.le_refl _ | assumption) rfl
    case hp => unfold Zr; first|(rw [if_pos ⟨f1, f2⟩]; exact ⟨rfl, _, hv.sent (y := x.answer m true x.g.base) hR2 ⟨rfl, rfl⟩ hels hvo2, rfl⟩)|(rw [if_neg (fun h => f1 h.1), if_pos ⟨f1, f4⟩]; exact ⟨rfl, _, hv.sent (y := x.answer m false (min x.g.last (max m.index 1 - 1))) hR2 ⟨rfl, rfl⟩ hels hvo2, rfl⟩)
    case hS => exact sb_
   ·have f4 : ¬ ¬ x.g.termAt m.index = some m.logTerm := fun h => by (rcases termAt_some.1 h with h | h <;> first | (rw [f3] at h; cases h; done) | (simp at hc67; exact h hc67))
    have hA2 := Qbp (x := x) (D := D) (m := m) (fun h => f1 h.1) (fun h => f4 h.2)
    rw [show x.cutM m = (m.index, m.es) by unfold ND.cutM; rw [if_neg f1]] at hA2
    refine Qj ?_
    refine QG hJ11 ((m.index, m.es, _)) (⟨by unfold ND.cutM; rw [if_neg f1], hve, hA2⟩) (eC rfl (eC rfl (eC rfl (eC rfl eN)))) rfl sb_
theorem jJ {l : List Ent} (hb : ∀ e ∈ l, e.2.length ≤ 100) : XG l ≤ 120 * l.length := by
 induction l with
 | nil => simp [XG]
 | cons e l ih =>
  have h1 := ih (fun x hx => hb x (by simp [hx]))
  have h2 := hb e (by simp)
  simp [XG] at h1 ⊢; omega
def LG.inst (g : LG) (i t : Int) (s : Bs) : LG := if g.termAt i = some t then g.comp i s else g.base0 i t s
theorem Qey {g to : LG} {D : DK} (h : (g.swapD D to).1 = 0) : (g.swapD D to).2.1 = to := by
 unfold LG.swapD at h ⊢
 split
 ·rfl
 ·rename_i h1; rw [if_neg h1] at h; exact absurd h h1
theorem QkB {g : LG} {D : DK} {i : Int} {s : Bs} (h : (g.compD D i s).1 = 0) : (g.compD D i s).2.1 = g.comp i s := by
 unfold LG.compD at h ⊢
 split at h
 ·cases h
 ·split at h
  ·cases h
  ·rename_i h1 h2
   rw [if_neg h1, if_neg h2]; exact Qey h
theorem Qkf {g : LG} {D : DK} {i t : Int} {s : Bs} (h : (g.instD D i t s).1 = 0) : (g.instD D i t s).2.1 = g.inst i t s := by
 unfold LG.instD at h ⊢
 split at h
 ·cases h
 ·split at h
  ·cases h
  ·rename_i h1 h2
   rw [if_neg h1, if_neg h2]
   unfold LG.inst
   split
   ·rename_i h3; rw [if_pos h3] at h; exact QkB h
   ·rename_i h3; rw [if_neg h3] at h; exact Qey h
theorem Qih {k : Nat} {x : ND} (hx : NIn k x) (i : Int) : 0 ≤ (x.g.termAt i).getD 0 ∧ (x.g.termAt i).getD 0 ≤ 2305843009213693952 + k := by
 unfold LG.termAt
 split
 ·exact hx.baseT
 ·cases h : x.g.at i with
  | none => simp; omega
  | some e => exact (hx.all e (LG.at_mem h)).1
theorem NIn.inst {k : Nat} {x : ND} (h : NIn k x) {i t : Int} {s : Bs} (hi : 0 ≤ i ∧ i ≤ 100000000000000) (ht : 0 ≤ t ∧ t ≤ 2305843009213693952 + k) (hs : s.length ≤ 1000000) : NIn k { x with g := x.g.inst i t s } := by
 unfold LG.inst
 split
 ·exact ⟨h.idn, h.term, h.vote, hi, Qih h i, hs, by have := h.alln; show (x.g.all.drop _).length ≤ _; simp; omega, fun e he => h.all e (List.mem_of_mem_drop he), h.commit, h.patience, h.peers, h.peer, h.votes, h.out⟩
 ·exact ⟨h.idn, h.term, h.vote, hi, ht, hs, by show 0 ≤ _; omega, fun e he => (by cases he), h.commit, h.patience, h.peers, h.peer, h.votes, h.out⟩
theorem NIn.comm {k : Nat} {x : ND} (h : NIn k x) {c : Int} (hc : 0 ≤ c ∧ c ≤ 150000000000000) : NIn k { x with commit := c } :=
 ⟨h.idn, h.term, h.vote, h.base, h.baseT, h.state, h.alln, h.all, hc, h.patience, h.peers, h.peer, h.votes, h.out⟩
theorem NIn.follows {k : Nat} {x : ND} (h : NIn k x) (m : Msg) : NIn k (x.follows m) :=
 ⟨h.idn, h.term, h.vote, h.base, h.baseT, h.state, h.alln, h.all, h.commit, ⟨by show (0 : Int) ≤ 0; omega, by show (0 : Int) ≤ _; omega⟩, fun hr => absurd (show (0 : Int) = 2 from hr) (by decide), h.peer, h.votes, h.out⟩
theorem NOk.follows {R : Hp} {v : NV} {x : ND} (h : NOk R v x) (m : Msg) : NOk R v (x.follows m) := ⟨h.va, h.out, h.vm, h.vp, h.vo, fun hr => absurd (show (0 : Int) = 1 from hr) (by decide)⟩
theorem QkZ {R : Hp} (b : NB) (v : NV) (x : ND) (D : DK) (m : Msg) (ve : Value) (k n : Nat) (hk : k ≤ 50) (hx : NIn k x) (hv : NOk R v x) (hm : MIn k x.n m) (hve : FrX entE R m.es ve) (hD : D.ok n) (hn : n ≤ 800000000) :
   Tri prog 78 [.pointer (some ⟨b.x, 0, none⟩), .agg ⟨QT m ve⟩] R (ndL b v x D) (jn b (YP (x, D) m)) (jo b (YP (x, D) m)) := by
 have hveo := hve.one
 have hob := hx.out
 have hg := hx.g (by omega)
 have hlb := LG.last_b hg
 have hidx := hm.index
 have hlt := hm.logTerm
 have hco := hx.commit
 have hbs := hx.base
 have hle : x.g.last = x.g.base + x.g.all.length := rfl
 have hfo := hx.follows m
 have hfv := hv.follows m
 have hal := hx.alln
 have hen := jJ (fun e he => (hx.all e he).2)
 refine Qn func78 rfl ntmps78 rfl (fun σ F Q hret hend hpan => ?_)
 try simp only [cB]
 refine Qd fun K1 hK1 => ?_
 refine Qc ?_
 refine Xa (wn0 rfl) rfl rfl rfl (fun b3 => ?_)
 refine Qe ?_
 refine hK1 _ _ _ ?_
 refine Qd fun K2 hK2 => ?_
 refine Qp ?_
 refine Qd fun K3 hK3 => ?_
 refine Xr (by kernel_rfl) (by kernel_rfl) ?_
 refine Qa (Ga underlying117 sizeOf36) ?_
 refine Qa (La o36) ?_
 refine Qa (Qg rfl) ?_
 refine Qa (Qf rfl) ?_
 refine Qa (Ga underlying109 sizeOf55) ?_
 refine Qa (La o55) ?_
 refine Qa (Ca call24 (YV b.l (some ⟨b.d, 0, none⟩) v.va x.g)) ?_
 refine Qa (QO rfl rfl) ?_
 refine Qa (Xj rfl) ?_
 refine Xb ?_
 refine hK3 _ _ _ ?_
 refine Qm rfl (fun hc4 => ?_) (fun hc4 => ?_)
 ·have f1 : m.term < x.g.term := by simpa using hc4
  have hN : YP (x, D) m = (true, (x.answer m false 0, D)) := by unfold YP; rw [if_pos f1]
  refine Qd fun K5 hK5 => ?_
  refine Qc ?_
  refine Pm ?_
  refine Pa (Lb XO) ?_
  refine Ra call97 (yz b v x m ve false 0 hv.out hv.vo (by omega) hveo) ?_
  rintro r R2 L' hR2 ⟨vo, css, hels, hvo2, rfl⟩
  try simp only [cB]
  refine Qe ?_
  refine hK5 _ _ _ ?_
  refine Ql eN ?_
  refine Qi ?_
  refine hret _ _ _ ?_
  refine Ea results78 .nil (ndL b (v.sent vo css) (x.answer m false 0) D) (by first | exact Hp.le_refl _ | assumption) ?_
  rw [hN]; exact ⟨rfl, _, hv.sent (y := x.answer m false 0) hR2 ⟨rfl, rfl⟩ hels hvo2, rfl⟩
 ·have f1 : ¬ m.term < x.g.term := by simpa using hc4
  refine Qd fun K6 hK6 => ?_
  refine Qc ?_
  refine Pm ?_
  refine Pa (Qf rfl) ?_
  refine Pa (Ga underlying109 sizeOf3) ?_
  refine Pa (La o3) ?_
  refine Pa (QB rfl rfl) ?_
  refine Ps ?_
  refine Qe ?_
  refine hK6 _ _ _ ?_
  refine Qm rfl (fun hc16 => ?_) (fun hc16 => ?_)
  ·have f2 : x.role = 2 := by simpa using hc16
   have hN : YP (x, D) m = (true, (x, D)) := by unfold YP; rw [if_neg f1, if_pos f2]
   refine Qi ?_
   refine hret _ _ _ ?_
   refine Ea results78 .nil (ndL b v x D) (by first | exact Hp.le_refl _ | assumption) ?_
   rw [hN]; exact ⟨rfl, v, hv, rfl⟩
  ·have f2 : ¬ x.role = 2 := by simpa using hc16
   refine Qj ?_
   refine hK2 _ _ _ ?_
   refine Qd fun K8 hK8 => ?_
   refine Xd (L := [blk b3 (QT m ve) 117]) [0, 1, 2, 3, 4, 5, 6] [7, 8, 9, 10] [11, 12, 13] _ sb_ (by kernel_rfl) (by kernel_rfl) (by kernel_rfl) rfl ?_
   refine Wa rfl (fun R1 hR1 G => (Qg rfl)) ?_
   refine Wa rfl (fun R1 hR1 G => (Qg rfl)) ?_
   refine Wa rfl (fun R1 hR1 G => (Qg rfl)) ?_
   refine Wa rfl (fun R1 hR1 G => (Ga underlying117 sizeOf3)) ?_
   refine Wa rfl (fun R1 hR1 G => (La o3)) ?_
   refine Wa rfl (fun R1 hR1 G => (Qf rfl)) ?_
   refine Wa rfl (fun R1 hR1 G => (Ga underlying109 sizeOf3)) ?_
   refine Xc ?_
   refine QH rfl ?_
   try simp only [cC]
   refine Sa o3 ?_
   refine QI le_ sb_ ?_
   refine QH rfl ?_
   try simp only [cC]
   refine Pa (Qf rfl) ?_
   refine QI le_ sb_ ?_
   refine QH rfl ?_
   try simp only [cC]
   refine Pa (Ga underlying109 sizeOf3) ?_
   refine QI le_ sb_ ?_
   refine QH rfl ?_
   try simp only [cC]
   refine Sa o3 ?_
   refine QI le_ sb_ ?_
   refine Xe ?_
   try simp only [cC]
   refine Pa (Qf rfl) ?_
   refine Pa (Ga underlying109 sizeOf3) ?_
   refine Sa o3 ?_
   refine Qe ?_
   refine hK8 _ _ _ ?_
   refine Ql (eL 0 rfl (eL 3 rfl eN)) ?_
   refine Qd fun K9 hK9 => ?_
   refine Qd fun K10 hK10 => ?_
   refine Qc ?_
   refine Pa (Ga underlying117 sizeOf3) ?_
   refine Pa (La o3) ?_
   refine Pa (QB rfl rfl) ?_
   refine Qe ?_
   refine hK10 _ _ _ ?_
   refine Qm rfl (fun hc35 => ?_) (fun hc35 => ?_)
   ·have f3 : m.kind = 2 := by simpa using hc35
    have hN : YP (x, D) m = Zr (x.follows m, D) m := by unfold YP; rw [if_neg f1, if_neg f2, if_pos f3]
    refine Qd fun K12 hK12 => ?_
    refine Qc ?_
    refine Pm ?_
    refine Pa (Lb XO) ?_
    refine XE (wn0 rfl) rfl call98 rfl (Qn5 b v (x.follows m) D m ve k n hk hfo hfv hm hve hD hn) sp_ (fun ch Rp Lp hRp hpp => ?_) ?_
    · obtain ⟨hF, rfl, v3, hv3, rfl⟩ := hpp
      try simp only [cB]
      refine hpan _ _ _ _ ?_
      refine Yz _ (ndL b v3 (Zr (x.follows m, D) m).2.1 (Zr (x.follows m, D) m).2.2) (by first | exact Hp.le_refl _ | assumption | exact Hp.le_trans ‹_› ‹_›) rfl sb_ ?_
      exact ⟨by rw [hN]; exact hF, rfl, v3, by rw [hN]; exact hv3, by rw [hN]⟩
    rintro r R8 L' hR8 ⟨hF, v3, hv3, rfl⟩
    try simp only [cB]
    refine Qe ?_
    refine hK12 _ _ _ ?_
    refine Ql eN ?_
    refine Qi ?_
    refine hret _ _ _ ?_
    refine Ea results78 .nil (ndL b v3 (Zr (x.follows m, D) m).2.1 (Zr (x.follows m, D) m).2.2) (by first | exact Hp.le_refl _ | assumption) ?_
    rw [hN]; exact ⟨hF, v3, hv3, rfl⟩
   ·have f3 : ¬ m.kind = 2 := by simpa using hc35
    have hN : YP (x, D) m = yC (x.follows m, D) m := by unfold YP; rw [if_neg f1, if_neg f2, if_neg f3]
    refine Qj ?_
    refine hK9 _ _ _ ?_
    refine Qd fun K13 hK13 => ?_
    have hJ10 : ∀ (x9 : ND × NV × DK × Hp), NIn (k + 1) x9.1 ∧ NOk x9.2.2.2 x9.2.1 x9.1 ∧ R.le x9.2.2.2 ∧ YP (x, D) m = (true, (x9.1.answer m true x9.1.commit, x9.2.2.1)) → EJ ⟨prog, 71, σ⟩ K13 [(0, .pointer (some ⟨b.x, 0, none⟩)), (3, .pointer (some ⟨b3, 0, none⟩))] x9.2.2.2 (blk b3 (QT m ve) 117 :: ndB b x9.2.1 x9.1 :: lgN b x9.2.1 x9.1 :: dkB b.d x9.2.1.u x9.2.2.1 :: dkS x9.2.1.u x9.2.2.1 :: prA x9.2.1 x9.1 :: mpA x9.2.1.vm x9.1.votes :: XQ x9.2.1 x9.1 :: F) := by
     rintro ⟨y, v2, D2, R2⟩ ⟨hy, hv2, hR2, hF⟩
     try dsimp only
     dsimp only at hy hv2 hR2 hF
     have hyo := hy.out
     refine hK13 _ _ _ ?_
     refine Xd (L := [blk b3 (QT m ve) 117, ndB b v2 y]) [0, 1, 2, 3, 4, 5] [] [6] _ sb_ (by kernel_rfl) (by kernel_rfl) (by kernel_rfl) rfl ?_
     refine Wa rfl (fun R1 hR1 G => (Qg rfl)) ?_
     refine Wa rfl (fun R1 hR1 G => (Lb XO)) ?_
     refine Wa rfl (fun R1 hR1 G => (Qg rfl)) ?_
     refine Wa rfl (fun R1 hR1 G => (Qf rfl)) ?_
     refine Wa rfl (fun R1 hR1 G => (Ga underlying109 sizeOf36)) ?_
     refine Wa rfl (fun R1 hR1 G => (La o36)) ?_
     refine Xc ?_
     refine Xe ?_
     try simp only [cC]
     refine Ra call97 (yz b v2 y m ve true y.commit hv2.out hv2.vo (by omega) hveo) ?_
     rintro r R6 L' hR6 ⟨vo, css, hels, hvo2, rfl⟩
     have hR26 := Hp.le_trans hR2 hR6
     try simp only [cB]
     refine Qe ?_
     refine hend _ _ _ ?_
     apply QD results78 .nil _ (ndL b (v2.sent vo css) (y.answer m true y.commit) D2) (by first | exact Hp.le_refl _ | assumption) rfl
     case hp => rw [hF]; exact ⟨rfl, _, hv2.sent (y := y.answer m true y.commit) hR6 ⟨rfl, rfl⟩ hels hvo2, rfl⟩
     case hS => exact sb_
    refine Qd fun K14 hK14 => ?_
    refine Xr (by kernel_rfl) (by kernel_rfl) ?_
    refine Qa (Ga underlying117 sizeOf36) ?_
    refine Qa (La o36) ?_
    refine Qa (Qg rfl) ?_
    refine Qa (Qf rfl) ?_
    refine Qa (Ga underlying109 sizeOf36) ?_
    refine Qa (La o36) ?_
    refine Qa (Xs rfl rfl) ?_
    refine Xb ?_
    refine hK14 _ _ _ ?_
    refine Ql (eL 0 rfl (eL 3 rfl (eL 45 rfl eN))) ?_
    refine Qm rfl (fun hc45 => ?_) (fun hc45 => ?_)
    ·have f4 : m.index > x.commit := by (try simp at hc45); omega
     obtain ⟨ra, hra⟩ : ∃ r, r = x.g.instD D m.index m.logTerm m.state := ⟨_, rfl⟩
     have hS : yC (x.follows m, D) m = QU (QP (x.follows m, D) ra) fun s => (true, ({ s.1 with commit := m.index }.answer m true m.index, s.2)) := by unfold yC; rw [if_pos (show m.index > (x.follows m).commit from f4), hra]; rfl
     rw [hS] at hN
     refine Qd fun K16 hK16 => ?_
     refine Xd (L := [blk b3 (QT m ve) 117, ndB b v (x.follows m)]) [0, 1, 2, 3, 4, 5, 6, 7, 8, 9, 10] [11] [12] _ sb_ (by kernel_rfl) (by kernel_rfl) (by kernel_rfl) rfl ?_
     refine Wa rfl (fun R1 hR1 G => (Qg rfl)) ?_
     refine Wa rfl (fun R1 hR1 G => (Qg rfl)) ?_
     refine Wa rfl (fun R1 hR1 G => (Qf rfl)) ?_
     refine Wa rfl (fun R1 hR1 G => (Ga underlying109 sizeOf55)) ?_
     refine Wa rfl (fun R1 hR1 G => (La o55)) ?_
     refine Wa rfl (fun R1 hR1 G => (Ga underlying117 sizeOf36)) ?_
     refine Wa rfl (fun R1 hR1 G => (La o36)) ?_
     refine Wa rfl (fun R1 hR1 G => (Ga underlying117 sizeOf36)) ?_
     refine Wa rfl (fun R1 hR1 G => (La o36)) ?_
     refine Wa rfl (fun R1 hR1 G => (Ga underlying117 sizeOf9)) ?_
     refine Wa rfl (fun R1 hR1 G => (La o9)) ?_
     refine Xc ?_
     refine QH rfl ?_
     try simp only [cC]
     refine Ra call99 (Qf3 b.l b.d v.va v.u x.g D n m.index m.logTerm m.state hg (by omega) (by unfold QM; omega) hv.va hm.state (by omega) (by omega) hD) ?_
     rintro r R4 L' hR4 ⟨rfl, u2, va2, hva2, rfl⟩
     rw [← hra] at hva2 ⊢
     try simp only [cB]
     refine QI le_ sb_ ?_
     refine Xe ?_
     try simp only [cC]
     refine XE (wn0 rfl) rfl call74 rfl (zx b (v.logd u2 va2) (x.follows m) _) sp_ (fun ch Rp Lp hRp hpp => ?_) ?_
     · obtain ⟨he1, rfl, rfl⟩ := hpp
       try simp only [cB]
       refine hpan _ _ _ _ ?_
       refine Yz _ (ndL b (v.logd u2 va2) { (x.follows m) with g := ra.2.1, down := true } ra.2.2) (by first | exact Hp.le_refl _ | assumption | exact Hp.le_trans ‹_› ‹_› | exact Hp.le_trans hR4 hRp) rfl sb_ ?_
       exact ⟨by rw [hN]; simp [QU, QP, he1], rfl, v.logd u2 va2, by rw [hN]; simp only [QU, QP, if_neg he1]; exact hfv.logd (y := { (x.follows m) with g := ra.2.1, down := true }) (Hp.le_trans hR4 hRp) ⟨rfl, rfl⟩ (hva2.mono hRp), by rw [hN]; simp [QU, QP, he1]⟩
     rintro r R5 L' hR5 ⟨he0, rfl⟩
     have hx1 : NIn (k + 1) { (x.follows m) with g := ra.2.1, commit := m.index } := by rw [hra, Qkf (by rw [← hra]; exact he0)]; exact ((hfo.inst hidx hlt hm.state).comm (by omega)).le (by omega)
     have hR45 := Hp.le_trans hR4 hR5
     have hv1 : NOk R5 (v.logd u2 va2) { (x.follows m) with g := ra.2.1, commit := m.index } := hfv.logd (y := { (x.follows m) with g := ra.2.1, commit := m.index }) hR45 ⟨rfl, rfl⟩ (hva2.mono hR5)
     try simp only [cB]
     refine Qe ?_
     refine hK16 _ _ _ ?_
     refine Qc ?_
     refine Pm ?_
     refine Pa (Ga underlying117 sizeOf36) ?_
     refine Pa (La o36) ?_
     refine Pa (Qf rfl) ?_
     refine Pa (Ga underlying109 sizeOf36) ?_
     refine Sa o36 ?_
     refine Qe ?_
     refine QG hJ10 (({ (x.follows m) with g := ra.2.1, commit := m.index }, v.logd u2 va2, ra.2.2, R5)) (⟨hx1, hv1, hR45, by rw [hN]; simp [QU, QP, he0]⟩) (eC rfl (eC rfl eN)) rfl sb_
    ·have f4 : ¬ m.index > x.commit := by (try simp at hc45); omega
     have hS : yC (x.follows m, D) m = (true, ((x.follows m).answer m true x.commit, D)) := by unfold yC; rw [if_neg (show ¬ m.index > (x.follows m).commit from f4)]; rfl
     rw [hS] at hN
     refine Qj ?_
     refine QG hJ10 ((x.follows m, v, D, R)) (⟨hfo.le (by omega), hfv, Hp.le_refl _, hN⟩) (eC rfl (eC rfl eN)) rfl sb_
structure MIm (k : Nat) (m : Msg) : Prop where
 term : 0 ≤ m.term ∧ m.term ≤ 2305843009213693952 + k
 index : 0 ≤ m.index ∧ m.index ≤ 100000000000000
 logTerm : 0 ≤ m.logTerm ∧ m.logTerm ≤ 2305843009213693952 + k
 commit : 0 ≤ m.commit ∧ m.commit < 18446744073709551616
 es : m.es.length ≤ 20 ∧ ∀ e ∈ m.es, (0 ≤ e.1 ∧ e.1 ≤ 2305843009213693952 + k) ∧ e.2.length ≤ 100
 state : m.state.length ≤ 1000000
theorem MIm.to {k j n : Nat} {m : Msg} (h : MIm k m) (hf : 0 ≤ m.frm ∧ m.frm < n) (hk : k ≤ j) : MIn j n m := MIn.le (k := k) ⟨hf, h.term, h.index, h.logTerm, h.commit, h.es, h.state⟩ hk
theorem NIn.newTerm {k : Nat} {x : ND} (h : NIn k x) : NIn k x.newTerm :=
 ⟨h.idn, h.term, h.vote, h.base, h.baseT, h.state, h.alln, h.all, h.commit, h.patience, fun hr => absurd (show (0 : Int) = 2 from hr) (by decide), h.peer, h.votes, h.out⟩
theorem NOk.newTerm {R : Hp} {v : NV} {x : ND} (h : NOk R v x) : NOk R v x.newTerm := ⟨h.va, h.out, h.vm, h.vp, h.vo, fun hr => absurd (show (0 : Int) = 1 from hr) (by decide)⟩
theorem DK.ok_le {D : DK} {n m : Nat} (h : D.ok n) (hm : n ≤ m) : D.ok m := ⟨h.1, by have := h.2.1; omega, h.2.2⟩
theorem Qhx {R : Hp} (b : NB) (v : NV) (x : ND) (D : DK) (m : Msg) (ve : Value) (k n bX bM : Nat) (hk : k ≤ 40) (hx : NIn k x) (hv : NOk R v x) (hm : MIm k m) (hve : FrX entE R m.es ve) (hD : D.ok n) (hn : n ≤ 700000000) :
   Tri prog 73 [.pointer (some ⟨bM, 0, none⟩), .pointer (some ⟨bX, 0, none⟩)] R (blk bX [.pointer (some ⟨b.x, 0, none⟩)] 56 :: blk bM (QT m ve) 117 :: ndL b v x D) (jn b (Xk (x, D) m)) (jo b (Xk (x, D) m)) := by
 have hg := hx.g (by omega)
 have hmt := hm.term
 refine Qn func73 rfl ntmps73 rfl (fun σ F Q hret hend hpan => ?_)
 try simp only [cB]
 refine Qd fun K1 hK1 => ?_
 refine Qd fun K2 hK2 => ?_
 refine Xr (by kernel_rfl) (by kernel_rfl) ?_
 refine Qa (Ga underlying117 sizeOf3) ?_
 refine Qa (La o3) ?_
 refine Qa (La o56) ?_
 refine Qa (Qf rfl) ?_
 refine Qa (Ga underlying109 sizeOf3) ?_
 refine Qa (La o3) ?_
 refine Qa (XU rfl rfl) ?_
 refine Qa (Qg rfl) ?_
 refine YU 9 rfl (fun hg9 => ?_) (fun hg9 => ?_)
 ·have f0 : ¬ m.to = x.id ∨ m.frm = x.id ∨ m.frm < 0 ∨ m.frm ≥ x.n := .inl (by simpa using hg9)
  refine Qk ?_
  refine Qk ?_
  refine Qk ?_
  refine Qk ?_
  refine Qk ?_
  refine Qk ?_
  refine Qk ?_
  refine Qa (Qr rfl rfl) ?_
  refine Qa (Qg rfl) ?_
  refine Qk ?_
  refine Qk ?_
  refine Qk ?_
  refine Qa (Qr rfl rfl) ?_
  refine Qa (Qg rfl) ?_
  refine Qk ?_
  refine Qk ?_
  refine Qk ?_
  refine Qk ?_
  refine Qk ?_
  refine Qk ?_
  refine Qk ?_
  refine Qa (Qr rfl rfl) ?_
  refine Xb ?_
  refine hK2 _ _ _ ?_
  refine Ql (eL 0 rfl (eL 1 rfl (eL 31 rfl eN))) ?_
  refine Qv rfl ?_
  refine Qi ?_
  refine hret _ _ _ ?_
  refine Ea results73 .nil (ndL b v x D) (by first | exact Hp.le_refl _ | assumption) ?_
  rw [show Xk (x, D) m = (true, (x, D)) by unfold Xk; rw [if_pos f0]]; exact ⟨rfl, v, hv, rfl⟩
 ·have f1 : m.to = x.id := by simpa using hg9
  refine Qb (Ga underlying117 sizeOf3) ?_
  refine Qb (La o3) ?_
  refine Qb (La o56) ?_
  refine Qb (Qf rfl) ?_
  refine Qb (Ga underlying109 sizeOf3) ?_
  refine Qb (La o3) ?_
  refine Qb (QB rfl rfl) ?_
  refine Qa (Qo rfl rfl) ?_
  refine Qa (Qg rfl) ?_
  refine YU 18 rfl (fun hg18 => ?_) (fun hg18 => ?_)
  ·first|(have f0 : ¬ m.to = x.id ∨ m.frm = x.id ∨ m.frm < 0 ∨ m.frm ≥ x.n := .inr (.inl (by simpa using hg18)))|skip
   refine Qk ?_
   refine Qk ?_
   refine Qk ?_
   refine Qa (Qr rfl rfl) ?_
   refine Qa (Qg rfl) ?_
   refine Qk ?_
   refine Qk ?_
   refine Qk ?_
   refine Qk ?_
   refine Qk ?_
   refine Qk ?_
   refine Qk ?_
   refine Qa (Qr rfl rfl) ?_
   refine Xb ?_
   refine hK2 _ _ _ ?_
   refine Ql (eL 0 rfl (eL 1 rfl (eL 31 rfl eN))) ?_
   refine Qv rfl ?_
   refine Qi ?_
   refine hret _ _ _ ?_
   refine Ea results73 .nil (ndL b v x D) (by first | exact Hp.le_refl _ | assumption) ?_
   rw [show Xk (x, D) m = (true, (x, D)) by unfold Xk; rw [if_pos f0]]; exact ⟨rfl, v, hv, rfl⟩
  ·first|(have f2 : ¬ m.frm = x.id := by simpa using hg18)|skip
   refine Qb (Ga underlying117 sizeOf3) ?_
   refine Qb (La o3) ?_
   refine Qb (QO rfl rfl) ?_
   refine Qa (Qo rfl rfl) ?_
   refine Qa (Qg rfl) ?_
   refine YU 23 rfl (fun hg23 => ?_) (fun hg23 => ?_)
   ·first|(have f0 : ¬ m.to = x.id ∨ m.frm = x.id ∨ m.frm < 0 ∨ m.frm ≥ x.n := .inr (.inr (.inl (by simpa using hg23))))|skip
    refine Qk ?_
    refine Qk ?_
    refine Qk ?_
    refine Qk ?_
    refine Qk ?_
    refine Qk ?_
    refine Qk ?_
    refine Qa (Qr rfl rfl) ?_
    refine Xb ?_
    refine hK2 _ _ _ ?_
    refine Qv rfl ?_
    refine Qi ?_
    refine hret _ _ _ ?_
    refine Ea results73 .nil (ndL b v x D) (by first | exact Hp.le_refl _ | assumption) ?_
    rw [show Xk (x, D) m = (true, (x, D)) by unfold Xk; rw [if_pos f0]]; exact ⟨rfl, v, hv, rfl⟩
   ·first|(have f3 : ¬ m.frm < 0 := by simpa using hg23)|skip
    refine Qb (Ga underlying117 sizeOf3) ?_
    refine Qb (La o3) ?_
    refine Qb (La o56) ?_
    refine Qb (Qf rfl) ?_
    refine Qb (Ga underlying109 sizeOf3) ?_
    refine Qb (La o3) ?_
    refine Qb (YX rfl rfl) ?_
    refine Qa (Qo rfl rfl) ?_
    refine Xb ?_
    refine hK2 _ _ _ ?_
    refine Ql (eL 0 rfl (eL 1 rfl (eL 31 rfl eN))) ?_
    refine Qm rfl (fun hc31 => ?_) (fun hc31 => ?_)
    ·first|(have f0 : ¬ m.to = x.id ∨ m.frm = x.id ∨ m.frm < 0 ∨ m.frm ≥ x.n := .inr (.inr (.inr (by simpa using hc31))))|skip
     refine Qi ?_
     refine hret _ _ _ ?_
     refine Ea results73 .nil (ndL b v x D) (by first | exact Hp.le_refl _ | assumption) ?_
     rw [show Xk (x, D) m = (true, (x, D)) by unfold Xk; rw [if_pos f0]]; exact ⟨rfl, v, hv, rfl⟩
    ·have f4 : ¬ m.frm ≥ x.n := by (try simp at hc31); omega
     have f0 : ¬ (¬ m.to = x.id ∨ m.frm = x.id ∨ m.frm < 0 ∨ m.frm ≥ x.n) := by omega
     have hfr : 0 ≤ m.frm ∧ m.frm < x.n := by omega
     refine Qj ?_
     refine hK1 _ _ _ ?_
     refine Qd fun K4 hK4 => ?_
     have hJ4 : ∀ (x9 : ND × NV × DK × Hp), NIn (k + 1) x9.1 ∧ NOk x9.2.2.2 x9.2.1 x9.1 ∧ R.le x9.2.2.2 ∧ Xk (x, D) m = Yc (x9.1, x9.2.2.1) m ∧ x9.1.n = x.n ∧ x9.2.2.1.ok (n + 44) → EJ ⟨prog, 78, σ⟩ K4 [(0, .pointer (some ⟨bM, 0, none⟩)), (1, .pointer (some ⟨bX, 0, none⟩))] x9.2.2.2 (blk bX [.pointer (some ⟨b.x, 0, none⟩)] 56 :: blk bM (QT m ve) 117 :: ndB b x9.2.1 x9.1 :: lgN b x9.2.1 x9.1 :: dkB b.d x9.2.1.u x9.2.2.1 :: dkS x9.2.1.u x9.2.2.1 :: prA x9.2.1 x9.1 :: mpA x9.2.1.vm x9.1.votes :: XQ x9.2.1 x9.1 :: F) := by
      rintro ⟨y, v2, D2, R2⟩ ⟨hy, hv2, hR2, hF, hyn, hD2⟩
      try dsimp only
      dsimp only at hy hv2 hR2 hF hyn hD2
      have hmy : MIn (k + 1) y.n m := hm.to (by rw [hyn]; exact hfr) (by omega)
      have hve2 := hve.mono hR2
      refine hK4 _ _ _ ?_
      refine Qd fun K5 hK5 => ?_
      refine Qc ?_
      refine Pa (Ga underlying117 sizeOf3) ?_
      refine Pa (La o3) ?_
      refine Qe ?_
      refine hK5 _ _ _ ?_
      refine Qp ?_
      refine Qd fun K6 hK6 => ?_
      refine Qc ?_
      refine Pa (QB rfl rfl) ?_
      refine Ps ?_
      refine Qe ?_
      refine hK6 _ _ _ ?_
      refine Qm rfl (fun hc57 => ?_) (fun hc57 => ?_)
      ·have e0 : m.kind = 0 := by simpa using hc57
       have hK : Yc (y, D2) m = Zd (y, D2) m := by unfold Yc; rw [if_pos e0]
       refine Qc ?_
       refine Pa (La o56) ?_
       refine Pa ((Lm (vs := QT m ve) XO)) ?_
       refine XE (wn0 rfl) rfl call76 rfl (Qmv b v2 y D2 m ve (k + 1) (n + 44) (by omega) hy hv2 hmy hve2 hD2 (by omega)) sp_ (fun ch Rp Lp hRp hpp => ?_) ?_
       · obtain ⟨hG, rfl, v3, hv3, rfl⟩ := hpp
         try simp only [cB]
         refine hpan _ _ _ _ ?_
         refine Yz _ (ndL b v3 (Zd (y, D2) m).2.1 (Zd (y, D2) m).2.2) (by first | exact Hp.le_refl _ | assumption | exact Hp.le_trans ‹_› ‹_› | exact Hp.le_trans hR2 hRp) rfl sb_ ?_
         exact ⟨by rw [hF, hK]; exact hG, rfl, v3, by rw [hF, hK]; exact hv3, by rw [hF, hK]⟩
       rintro r R8 L' hR8 ⟨hG, v3, hv3, rfl⟩
       have hR28 := Hp.le_trans hR2 hR8
       try simp only [cB]
       refine Qe ?_
       refine hend _ _ _ ?_
       apply QD results73 .nil _ (ndL b v3 (Zd (y, D2) m).2.1 (Zd (y, D2) m).2.2) (by first | exact Hp.le_refl _ | assumption) rfl
       case hp => rw [hF, hK]; exact ⟨hG, v3, hv3, rfl⟩
       case hS => exact sb_
      ·have e0 : ¬ m.kind = 0 := by simpa using hc57
       refine Qd fun K8 hK8 => ?_
       refine Qc ?_
       refine Pa (QB rfl rfl) ?_
       refine Ps ?_
       refine Qe ?_
       refine hK8 _ _ _ ?_
       refine Qm rfl (fun hc62 => ?_) (fun hc62 => ?_)
       ·have e1 : m.kind = 1 := by simpa using hc62
        have hK : Yc (y, D2) m = Yg (y, D2) m := by unfold Yc; rw [if_neg e0, if_pos e1]
        refine Qc ?_
        refine Pa (La o56) ?_
        refine Pa ((Lm (vs := QT m ve) XO)) ?_
        refine XE (wn0 rfl) rfl call77 rfl (Qlb b v2 y D2 m ve (k + 1) (n + 44) (by omega) hy hv2 hmy hve2 hD2 (by omega)) sp_ (fun ch Rp Lp hRp hpp => ?_) ?_
        · obtain ⟨hG, rfl, v3, hv3, rfl⟩ := hpp
          try simp only [cB]
          refine hpan _ _ _ _ ?_
          refine Yz _ (ndL b v3 (Yg (y, D2) m).2.1 (Yg (y, D2) m).2.2) (by first | exact Hp.le_refl _ | assumption | exact Hp.le_trans ‹_› ‹_› | exact Hp.le_trans hR2 hRp) rfl sb_ ?_
          exact ⟨by rw [hF, hK]; exact hG, rfl, v3, by rw [hF, hK]; exact hv3, by rw [hF, hK]⟩
        rintro r R8 L' hR8 ⟨hG, v3, hv3, rfl⟩
        have hR28 := Hp.le_trans hR2 hR8
        try simp only [cB]
        refine Qe ?_
        refine hend _ _ _ ?_
        apply QD results73 .nil _ (ndL b v3 (Yg (y, D2) m).2.1 (Yg (y, D2) m).2.2) (by first | exact Hp.le_refl _ | assumption) rfl
        case hp => rw [hF, hK]; exact ⟨hG, v3, hv3, rfl⟩
        case hS => exact sb_
       ·have e1 : ¬ m.kind = 1 := by simpa using hc62
        refine Qd fun K10 hK10 => ?_
        refine Qd fun K11 hK11 => ?_
        refine Qc ?_
        refine Pa (QB rfl rfl) ?_
        refine Ps ?_
        refine Qe ?_
        refine hK11 _ _ _ ?_
        refine Qm rfl (fun hc67 => ?_) (fun hc67 => ?_)
        ·first|(have e6 : m.kind = 2 := by simpa using hc67)|(have e7 : m.kind = 4 := by simpa using hc67)|skip
         first|(have e2 : m.kind = 2 ∨ m.kind = 4 := .inl (by simpa using hc67))|(have e2 : m.kind = 2 ∨ m.kind = 4 := .inr (by simpa using hc67))|skip
         first|(have hK : Yc (y, D2) m = YP (y, D2) m := by unfold Yc; rw [if_neg e0, if_neg e1, if_pos e2])|skip
         refine Qj ?_
         refine hK10 _ _ _ ?_
         refine Qm rfl (fun hc67 => ?_) (fun hc67 => ?_)
         ·first|(have e6 : m.kind = 2 := by simpa using hc67)|(have e7 : m.kind = 4 := by simpa using hc67)|skip
          first|(have e2 : m.kind = 2 ∨ m.kind = 4 := .inl (by simpa using hc67))|(have e2 : m.kind = 2 ∨ m.kind = 4 := .inr (by simpa using hc67))|skip
          first|(have hK : Yc (y, D2) m = YP (y, D2) m := by unfold Yc; rw [if_neg e0, if_neg e1, if_pos e2])|skip
          refine Qc ?_
          refine Pa (La o56) ?_
          refine Pa ((Lm (vs := QT m ve) XO)) ?_
          refine XE (wn0 rfl) rfl call78 rfl (QkZ b v2 y D2 m ve (k + 1) (n + 44) (by omega) hy hv2 hmy hve2 hD2 (by omega)) sp_ (fun ch Rp Lp hRp hpp => ?_) ?_
          · obtain ⟨hG, rfl, v3, hv3, rfl⟩ := hpp
            try simp only [cB]
            refine hpan _ _ _ _ ?_
            refine Yz _ (ndL b v3 (YP (y, D2) m).2.1 (YP (y, D2) m).2.2) (by first | exact Hp.le_refl _ | assumption | exact Hp.le_trans ‹_› ‹_› | exact Hp.le_trans hR2 hRp) rfl sb_ ?_
            exact ⟨by rw [hF, hK]; exact hG, rfl, v3, by rw [hF, hK]; exact hv3, by rw [hF, hK]⟩
          rintro r R8 L' hR8 ⟨hG, v3, hv3, rfl⟩
          have hR28 := Hp.le_trans hR2 hR8
          try simp only [cB]
          refine Qe ?_
          refine hend _ _ _ ?_
          apply QD results73 .nil _ (ndL b v3 (YP (y, D2) m).2.1 (YP (y, D2) m).2.2) (by first | exact Hp.le_refl _ | assumption) rfl
          case hp => rw [hF, hK]; exact ⟨hG, v3, hv3, rfl⟩
          case hS => exact sb_
         ·first|(have e3 : ¬ m.kind = 2 := by simpa using hc67)|(have e4 : ¬ m.kind = 4 := by simpa using hc67)|skip
          refine Qd fun K14 hK14 => ?_
          refine Qc ?_
          refine Pa (QB rfl rfl) ?_
          refine Ps ?_
          refine Qe ?_
          refine hK14 _ _ _ ?_
          refine Qm rfl (fun hc73 => ?_) (fun hc73 => ?_)
          ·have e5 : m.kind = 3 := by simpa using hc73
           have hK : Yc (y, D2) m = Yb (y, D2) m := by unfold Yc; rw [if_neg e0, if_neg e1, if_neg (fun h => by omega), if_pos e5]
           refine Qc ?_
           refine Pa (La o56) ?_
           refine Pa ((Lm (vs := QT m ve) XO)) ?_
           refine XE (wn0 rfl) rfl call79 rfl (QgJ b v2 y D2 m ve (k + 1) (by omega) hy hv2 hmy hve2) sp_ (fun ch Rp Lp hRp hpp => ?_) ?_
           · obtain ⟨hG, rfl, v3, hv3, rfl⟩ := hpp
             try simp only [cB]
             refine hpan _ _ _ _ ?_
             refine Yz _ (ndL b v3 (Yb (y, D2) m).2.1 (Yb (y, D2) m).2.2) (by first | exact Hp.le_refl _ | assumption | exact Hp.le_trans ‹_› ‹_› | exact Hp.le_trans hR2 hRp) rfl sb_ ?_
             exact ⟨by rw [hF, hK]; exact hG, rfl, v3, by rw [hF, hK]; exact hv3, by rw [hF, hK]⟩
           rintro r R8 L' hR8 ⟨hG, v3, hv3, rfl⟩
           have hR28 := Hp.le_trans hR2 hR8
           try simp only [cB]
           refine Qe ?_
           refine hend _ _ _ ?_
           apply QD results73 .nil _ (ndL b v3 (Yb (y, D2) m).2.1 (Yb (y, D2) m).2.2) (by first | exact Hp.le_refl _ | assumption) rfl
           case hp => rw [hF, hK]; exact ⟨hG, v3, hv3, rfl⟩
           case hS => exact sb_
          ·have e5 : ¬ m.kind = 3 := by simpa using hc73
           have hK : Yc (y, D2) m = (true, (y, D2)) := by unfold Yc; rw [if_neg e0, if_neg e1, if_neg (fun h => by omega), if_neg e5]
           refine Qj ?_
           refine hend _ _ _ ?_
           apply QD results73 .nil _ (ndL b v2 y D2) (by first | exact Hp.le_refl _ | assumption) rfl
           case hp => rw [hF, hK]; exact ⟨rfl, v2, hv2, rfl⟩
           case hS => exact sb_
        ·first|(have e3 : ¬ m.kind = 2 := by simpa using hc67)|(have e4 : ¬ m.kind = 4 := by simpa using hc67)|skip
         refine Qc ?_
         refine Pa (QB rfl rfl) ?_
         refine Ps ?_
         refine Qe ?_
         refine hK10 _ _ _ ?_
         refine Ql (eL 0 rfl (eL 1 rfl (eL 56 rfl (eL 67 rfl eN)))) ?_
         refine Qm rfl (fun hc67 => ?_) (fun hc67 => ?_)
         ·first|(have e6 : m.kind = 2 := by simpa using hc67)|(have e7 : m.kind = 4 := by simpa using hc67)|skip
          first|(have e2 : m.kind = 2 ∨ m.kind = 4 := .inl (by simpa using hc67))|(have e2 : m.kind = 2 ∨ m.kind = 4 := .inr (by simpa using hc67))|skip
          first|(have hK : Yc (y, D2) m = YP (y, D2) m := by unfold Yc; rw [if_neg e0, if_neg e1, if_pos e2])|skip
          refine Qc ?_
          refine Pa (La o56) ?_
          refine Pa ((Lm (vs := QT m ve) XO)) ?_
          refine XE (wn0 rfl) rfl call78 rfl (QkZ b v2 y D2 m ve (k + 1) (n + 44) (by omega) hy hv2 hmy hve2 hD2 (by omega)) sp_ (fun ch Rp Lp hRp hpp => ?_) ?_
          · obtain ⟨hG, rfl, v3, hv3, rfl⟩ := hpp
            try simp only [cB]
            refine hpan _ _ _ _ ?_
            refine Yz _ (ndL b v3 (YP (y, D2) m).2.1 (YP (y, D2) m).2.2) (by first | exact Hp.le_refl _ | assumption | exact Hp.le_trans ‹_› ‹_› | exact Hp.le_trans hR2 hRp) rfl sb_ ?_
            exact ⟨by rw [hF, hK]; exact hG, rfl, v3, by rw [hF, hK]; exact hv3, by rw [hF, hK]⟩
          rintro r R8 L' hR8 ⟨hG, v3, hv3, rfl⟩
          have hR28 := Hp.le_trans hR2 hR8
          try simp only [cB]
          refine Qe ?_
          refine hend _ _ _ ?_
          apply QD results73 .nil _ (ndL b v3 (YP (y, D2) m).2.1 (YP (y, D2) m).2.2) (by first | exact Hp.le_refl _ | assumption) rfl
          case hp => rw [hF, hK]; exact ⟨hG, v3, hv3, rfl⟩
          case hS => exact sb_
         ·first|(have e3 : ¬ m.kind = 2 := by simpa using hc67)|(have e4 : ¬ m.kind = 4 := by simpa using hc67)|skip
          refine Qd fun K17 hK17 => ?_
          refine Qc ?_
          refine Pa (QB rfl rfl) ?_
          refine Ps ?_
          refine Qe ?_
          refine hK17 _ _ _ ?_
          refine Qm rfl (fun hc73 => ?_) (fun hc73 => ?_)
          ·have e5 : m.kind = 3 := by simpa using hc73
           have hK : Yc (y, D2) m = Yb (y, D2) m := by unfold Yc; rw [if_neg e0, if_neg e1, if_neg (fun h => by omega), if_pos e5]
           refine Qc ?_
           refine Pa (La o56) ?_
           refine Pa ((Lm (vs := QT m ve) XO)) ?_
           refine XE (wn0 rfl) rfl call79 rfl (QgJ b v2 y D2 m ve (k + 1) (by omega) hy hv2 hmy hve2) sp_ (fun ch Rp Lp hRp hpp => ?_) ?_
           · obtain ⟨hG, rfl, v3, hv3, rfl⟩ := hpp
             try simp only [cB]
             refine hpan _ _ _ _ ?_
             refine Yz _ (ndL b v3 (Yb (y, D2) m).2.1 (Yb (y, D2) m).2.2) (by first | exact Hp.le_refl _ | assumption | exact Hp.le_trans ‹_› ‹_› | exact Hp.le_trans hR2 hRp) rfl sb_ ?_
             exact ⟨by rw [hF, hK]; exact hG, rfl, v3, by rw [hF, hK]; exact hv3, by rw [hF, hK]⟩
           rintro r R8 L' hR8 ⟨hG, v3, hv3, rfl⟩
           have hR28 := Hp.le_trans hR2 hR8
           try simp only [cB]
           refine Qe ?_
           refine hend _ _ _ ?_
           apply QD results73 .nil _ (ndL b v3 (Yb (y, D2) m).2.1 (Yb (y, D2) m).2.2) (by first | exact Hp.le_refl _ | assumption) rfl
           case hp => rw [hF, hK]; exact ⟨hG, v3, hv3, rfl⟩
           case hS => exact sb_
          ·have e5 : ¬ m.kind = 3 := by simpa using hc73
           have hK : Yc (y, D2) m = (true, (y, D2)) := by unfold Yc; rw [if_neg e0, if_neg e1, if_neg (fun h => by omega), if_neg e5]
           refine Qj ?_
           refine hend _ _ _ ?_
           apply QD results73 .nil _ (ndL b v2 y D2) (by first | exact Hp.le_refl _ | assumption) rfl
           case hp => rw [hF, hK]; exact ⟨rfl, v2, hv2, rfl⟩
           case hS => exact sb_
     refine Qd fun K19 hK19 => ?_
     refine Xr (by kernel_rfl) (by kernel_rfl) ?_
     refine Qa (Ga underlying117 sizeOf36) ?_
     refine Qa (La o36) ?_
     refine Qa (La o56) ?_
     refine Qa (Qf rfl) ?_
     refine Qa (Ga underlying109 sizeOf55) ?_
     refine Qa (La o55) ?_
     refine Qa (Ca call24 (YV b.l (some ⟨b.d, 0, none⟩) v.va x.g)) ?_
     refine Qa (Xs rfl rfl) ?_
     refine Xb ?_
     refine hK19 _ _ _ ?_
     refine Qm rfl (fun hc39 => ?_) (fun hc39 => ?_)
     ·have f5 : m.term > x.g.term := by (try simp at hc39); omega
      obtain ⟨ra, hra⟩ : ∃ r, r = x.g.setTermD D m.term (-1) := ⟨_, rfl⟩
      have hN : Xk (x, D) m = QU (QP (x, D) ra) fun s => Yc (s.1.newTerm, s.2) m := by unfold Xk; rw [if_neg f0, if_pos f5, hra]
      refine Qd fun K21 hK21 => ?_
      refine Xd (L := [blk bX [.pointer (some ⟨b.x, 0, none⟩)] 56, blk bM (QT m ve) 117, ndB b v x]) [0, 1, 2, 3, 4, 5, 6] [7] [8] _ sb_ (by kernel_rfl) (by kernel_rfl) (by kernel_rfl) rfl ?_
      refine Wa rfl (fun R1 hR1 G => (La o56)) ?_
      refine Wa rfl (fun R1 hR1 G => (La o56)) ?_
      refine Wa rfl (fun R1 hR1 G => (Qf rfl)) ?_
      refine Wa rfl (fun R1 hR1 G => (Ga underlying109 sizeOf55)) ?_
      refine Wa rfl (fun R1 hR1 G => (La o55)) ?_
      refine Wa rfl (fun R1 hR1 G => (Ga underlying117 sizeOf36)) ?_
      refine Wa rfl (fun R1 hR1 G => (La o36)) ?_
      refine Xc ?_
      refine QH rfl ?_
      try simp only [cC]
      refine Ra call75 (je b.l b.d v.va v.u x.g D n m.term (-1) hg (by unfold QM; omega) (by omega) (by omega) hv.va.one hD (by omega)) ?_
      rintro r R4 L' hR4 ⟨rfl, u2, rfl⟩
      rw [← hra]
      have hall : ra.2.1.all = x.g.all := by rw [hra]; exact QbM
      have hDk : ra.2.2.ok (n + 44) := by rw [hra]; exact Qgq hD (by unfold QM; omega) (by omega)
      try simp only [cB]
      refine QI le_ sb_ ?_
      refine Xe ?_
      try simp only [cC]
      refine XE (wn0 rfl) rfl call74 rfl (zx b (v.logd u2 v.va) x _) sp_ (fun ch Rp Lp hRp hpp => ?_) ?_
      · obtain ⟨he1, rfl, rfl⟩ := hpp
        try simp only [cB]
        refine hpan _ _ _ _ ?_
        refine Yz _ (ndL b (v.logd u2 v.va) { x with g := ra.2.1, down := true } ra.2.2) (by first | exact Hp.le_refl _ | assumption | exact Hp.le_trans ‹_› ‹_› | exact Hp.le_trans hR4 hRp) rfl sb_ ?_
        exact ⟨by rw [hN]; simp [QU, QP, he1], rfl, v.logd u2 v.va, by rw [hN]; simp only [QU, QP, if_neg he1]; exact hv.logd (y := { x with g := ra.2.1, down := true }) (Hp.le_trans hR4 hRp) ⟨rfl, rfl⟩ (by show FrX entE Rp ra.2.1.all v.va; rw [hall]; exact hv.va.mono (Hp.le_trans hR4 hRp)), by rw [hN]; simp [QU, QP, he1]⟩
      rintro r R5 L' hR5 ⟨he0, rfl⟩
      have hx1 : NIn (k + 1) (ND.newTerm { x with g := ra.2.1 }) := by rw [hra, Qc0 (by rw [← hra]; exact he0)]; exact (hx.set (t := m.term) (vt := -1) (by omega) (by omega)).newTerm
      have hR45 := Hp.le_trans hR4 hR5
      have hv1 : NOk R5 (v.logd u2 v.va) (ND.newTerm { x with g := ra.2.1 }) := NOk.newTerm (hv.logd (y := { x with g := ra.2.1 }) hR45 ⟨rfl, rfl⟩ (by show FrX entE R5 ra.2.1.all v.va; rw [hall]; exact hv.va.mono hR45))
      try simp only [cB]
      refine Qe ?_
      refine hK21 _ _ _ ?_
      refine Ql (eL 0 rfl (eL 1 rfl eN)) ?_
      refine Qc ?_
      refine Pa (La o56) ?_
      refine Pa (La o56) ?_
      refine Pa (Qf rfl) ?_
      refine Pa (Ga underlying109 sizeOf3) ?_
      refine Sa o3 ?_
      refine Pa (Qf rfl) ?_
      refine Pa (Ga underlying109 sizeOf3) ?_
      refine Sa o3 ?_
      refine Qe ?_
      refine QG hJ4 ((ND.newTerm { x with g := ra.2.1 }, v.logd u2 v.va, ra.2.2, R5)) (⟨hx1, hv1, hR45, by rw [hN]; simp [QU, QP, he0], rfl, hDk⟩) (eC rfl (eC rfl eN)) rfl sb_
     ·have f5 : ¬ m.term > x.g.term := by (try simp at hc39); omega
      have hN : Xk (x, D) m = Yc (x, D) m := by unfold Xk; rw [if_neg f0, if_neg f5]
      refine Qj ?_
      refine QG hJ4 ((x, v, D, R)) (⟨hx.le (by omega), hv, Hp.le_refl _, hN, rfl, DK.ok_le hD (by omega)⟩) (eC rfl (eC rfl eN)) rfl sb_
theorem QhC {R : Hp} (b : NB) (v : NV) (x : ND) (D : DK) (cmd : Bs) (k n bX bC : Nat) (hk : k ≤ 40) (hx : NIn k x) (hv : NOk R v x) (hr : x.role = 2) (hc : cmd.length ≤ 100) (hD : D.ok n) (hn : n ≤ 700000000) :
  Tri prog 63 [.pointer (some ⟨bX, 0, none⟩), .pointer (some ⟨bC, 0, none⟩)] R (blk bX [.pointer (some ⟨b.x, 0, none⟩)] 56 :: blk bC [.string (str cmd)] 9 :: ndL b v x D) (fun r R' L' => (QQ (x, D) cmd).1 = true ∧ ∃ v', NOk R' v' (QQ (x, D) cmd).2.1 ∧ L' = ndL b v' (QQ (x, D) cmd).2.1 (QQ (x, D) cmd).2.2 ++ [blk bX [.pointer (some ⟨b.x, 0, none⟩)] 56, blk bC [.string (str cmd)] 9]) (fun ch R' L' => (QQ (x, D) cmd).1 = false ∧ ch = [Qae] ∧ ∃ v', NOk R' v' (QQ (x, D) cmd).2.1 ∧ L' = ndL b v' (QQ (x, D) cmd).2.1 (QQ (x, D) cmd).2.2 ++ [blk bX [.pointer (some ⟨b.x, 0, none⟩)] 56, blk bC [.string (str cmd)] 9]) := by
 refine Qn func63 rfl ntmps63 rfl (fun σ F Q hret hend hpan => ?_)
 try simp only [cB]
 refine Qc ?_
 refine Pa (La o56) ?_
 refine Pa (La o9) ?_
 refine XE (wn0 rfl) rfl call64 rfl (QgP b v x D cmd k n (by omega) hx hv (hx.peers hr) hc hD (by omega)) sp_ (fun ch Rp Lp hRp hpp => ?_) ?_
 ·obtain ⟨hF, rfl, v2, hv2, rfl⟩ := hpp
  try simp only [cB]
  refine hpan _ _ _ _ ?_
  refine Yz _ (ndL b v2 (QQ (x, D) cmd).2.1 (QQ (x, D) cmd).2.2 ++ [blk bX [.pointer (some ⟨b.x, 0, none⟩)] 56, blk bC [.string (str cmd)] 9]) (by first | exact Hp.le_refl _ | assumption | exact Hp.le_trans ‹_› ‹_›) rfl sb_ ?_
  exact ⟨hF, rfl, v2, hv2, rfl⟩
 rintro r R8 L' hR8 ⟨hF, v2, hv2, rfl⟩
 try simp only [cB]
 refine Qe ?_
 refine hend _ _ _ ?_
 apply QD results63 .nil _ (ndL b v2 (QQ (x, D) cmd).2.1 (QQ (x, D) cmd).2.2 ++ [blk bX [.pointer (some ⟨b.x, 0, none⟩)] 56, blk bC [.string (str cmd)] 9]) hR8 rfl
 case hp => exact ⟨hF, v2, hv2, rfl⟩
 case hS => exact sb_
end V
end Go.Proofs.YtenfjpigffjgmaaGreat
