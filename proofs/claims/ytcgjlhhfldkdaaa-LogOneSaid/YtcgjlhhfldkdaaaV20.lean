/- Regions that draw their order: operations that only look, each behind the last writing one that it waits for; the writing ones come in one row. -/
import Derived.Test.YtcgjlhhfldkdaaaV19
import Derived.Test.YtcgjlhhfldkdaaaV10
set_option linter.unusedSimpArgs false
set_option linter.unusedVariables false
namespace Go.Proofs.Ytcgjlhhfldkdaaa
open Go.RowKit
namespace V
/-- each behind the last of the row ahead of it; looks and places apart -/
def segP (ops : Array Oper) (fl : List Nat) : Option Nat → List Nat → Bool
  | _, [] => true
  | r, i :: l => (match r with | none => true | some k => ancB ops ops.size i k) &&
      (l.all fun j => !(fl.contains i || fl.contains j) || (!looksB ops i j && !sameDst ops i j && !sameDst ops j i && (!looksB ops j i || ancB ops ops.size j i))) &&
      segP ops fl (if fl.contains i then r else some i) l
def segB (ops : Array Oper) (fl l : List Nat) : Bool :=
  lowB ops && ((List.range ops.size).all fun i => l.contains i) && l.Nodup && (l.all fun i => Nat.blt i ops.size && noSel ops i) && (fl.all fun i => !looksB ops i i) && segP ops fl none l
section
variable {c : Cx} {ops : Array Oper} {Q : Exit → Act → World → Prop} {R : Hp} {L : List Asn}
def SJ (c : Cx) (ops : Array Oper) (L : List Asn) (Q : Exit → Act → World → Prop) (fl : List Nat) : List Nat → Env → Hp → List Asn → Prop
  | [], E, R, G => EJ c (Q .normal) E R (L ++ G)
  | i :: is, E, R, G => (i ∈ fl ∧ ∃ v E', FSpec c ops R L i E v E' ∧ SJ c ops L Q fl is E' R G) ∨
      (i ∉ fl ∧ ∃ o, ops[i]? = some o ∧ ∀ a w, Fr c.n E a → Sat c.σ R (L ++ G) w →
        if Region.wanted o (yielded ops a.tmps) then o.wp c.P a w (fun a' w' => ∃ u E' R' G', R.le R' ∧ a' = a.put o.dst u ∧ Fr c.n E' a' ∧ Sat c.σ R' (L ++ G') w' ∧ SJ c ops L Q fl is E' R' G') (fun _ _ _ => False)
        else ∃ E' R' G', R.le R' ∧ Fr c.n E' (a.put o.dst undef) ∧ Sat c.σ R' (L ++ G') w ∧ SJ c ops L Q fl is E' R' G')
theorem QK.mono {x : Nat × Value} {a : Act} {R' : Hp} (hR : R.le R') (q : QK c ops R L x a) : QK c ops R' L x a := by
  obtain ⟨o, ho, hs, hq⟩ := q
  exact ⟨o, ho, hs, fun R2 hR2 G w hw => hq R2 (Hp.le_trans hR hR2) G w hw⟩
theorem QK.spec {i : Nat} {E E' : Env} {v : Value} {a : Act} (hs : noSel ops i = true) (h : FSpec c ops R L i E v E') (hf : Fr c.n E a) : QK c ops R L (i, v) a ∧ Fr c.n E' (a.put (dstAt ops i) v) := by
  obtain ⟨o, d, ho, hd, hn, rfl, hspec⟩ := h
  have hda : dstAt ops i = some d := by simp [dstAt, ho, hd]
  refine ⟨⟨o, ho, noSel_spec ho hs, fun R' hR G w hw => ?_⟩, by rw [hda]; exact hf.put hn v⟩
  rcases hspec with ⟨hw1, hy⟩ | ⟨hw1, hy⟩
  · exact .inl ⟨hw1 a hf, hy R' hR G a w hf hw⟩
  · exact .inr ⟨hw1 a hf, hy⟩
/-- what is asked of two, the one ahead of the other -/
def apart (ops : Array Oper) (i j : Nat) : Prop := looksB ops i j = false ∧ sameDst ops i j = false ∧ sameDst ops j i = false ∧ (looksB ops j i = false ∨ ancB ops ops.size j i = true)
theorem segP_cons {fl : List Nat} {r : Option Nat} {i : Nat} {l : List Nat} (h : segP ops fl r (i :: l) = true) :
    (∀ k, r = some k → ancB ops ops.size i k = true) ∧ (∀ j ∈ l, i ∈ fl ∨ j ∈ fl → apart ops i j) ∧ segP ops fl (if i ∈ fl then r else some i) l = true := by
  unfold segP at h
  simp only [Bool.and_eq_true, List.all_eq_true, Bool.or_eq_true, Bool.not_eq_true'] at h
  obtain ⟨⟨h1, h2⟩, h3⟩ := h
  refine ⟨fun k hk => by subst hk; exact h1, fun j hj hij => ?_, ?_⟩
  · rcases h2 j hj with h | h
    · simp only [Bool.or_eq_false_iff] at h
      rcases hij with hx | hx
      · have := h.1; rw [show fl.contains i = true from by simpa using hx] at this; cases this
      · have := h.2; rw [show fl.contains j = true from by simpa using hx] at this; cases this
    · exact ⟨h.1.1.1, h.1.1.2, h.1.2, h.2⟩
  · by_cases hi : i ∈ fl
    · rw [if_pos hi]; rw [if_pos (by simpa using hi)] at h3; exact h3
    · rw [if_neg hi]; rw [if_neg (by simpa using hi)] at h3; exact h3
theorem segP_row {fl : List Nat} : ∀ {l : List Nat} {k i : Nat}, segP ops fl (some k) l = true → i ∈ l → ∃ j, (j = k ∨ j ∈ l) ∧ ancB ops ops.size i j = true
  | [], _, _, _, h => by cases h
  | m :: l, k, i, h, hi => by
    obtain ⟨h1, _, h3⟩ := segP_cons h
    rcases List.mem_cons.1 hi with rfl | hi'
    · exact ⟨k, .inl rfl, h1 k rfl⟩
    · by_cases hm : m ∈ fl
      · rw [if_pos hm] at h3
        obtain ⟨j, hj, ha⟩ := segP_row h3 hi'
        exact ⟨j, hj.imp id (fun h => by simp [h]), ha⟩
      · rw [if_neg hm] at h3
        obtain ⟨j, hj, ha⟩ := segP_row h3 hi'
        rcases hj with rfl | hj
        · exact ⟨j, .inr (by simp), ha⟩
        · exact ⟨j, .inr (by simp [hj]), ha⟩
/-- what holds on the way -/
structure SegI (c : Cx) (ops : Array Oper) (Q : Exit → Act → World → Prop) (L : List Asn) (fl : List Nat) (listed : Array Bool) (a : Act) (w : World) (pend : List (Nat × Value)) (l : List Nat) (r : Option Nat) (E : Env) (R : Hp) (G : List Asn) : Prop where
  pf : ∀ x ∈ pend, x.1 ∈ fl ∧ x.1 < ops.size ∧ noSel ops x.1 = true ∧ looksB ops x.1 x.1 = false
  pp : ∀ x ∈ pend, ∀ y ∈ pend, x.1 ≠ y.1 → (looksB ops x.1 y.1 = false ∨ ancB ops ops.size x.1 y.1 = true) ∧ sameDst ops x.1 y.1 = false
  pl : ∀ x ∈ pend, ∀ j ∈ l, apart ops x.1 j
  nd : (pend.map (·.1) ++ l).Nodup
  lb : ∀ j ∈ l, j < ops.size ∧ noSel ops j = true ∧ (j ∈ fl → looksB ops j j = false)
  sp : segP ops fl r l = true
  sj : SJ c ops L Q fl l E R G
  fr : Fr c.n E (virt ops a pend)
  sat : Sat c.σ R (L ++ G) w
  qk : ∀ x ∈ pend, QK c ops R L x (virt ops a pend)
  un : ∀ j, j < ops.size → (listed.getD j false = false ↔ j ∈ pend.map (·.1) ∨ j ∈ l)
theorem SegI.float {fl : List Nat} {listed : Array Bool} {a : Act} {w : World} {pend : List (Nat × Value)} {i : Nat} {l : List Nat} {r : Option Nat} {E : Env} {R : Hp} {G : List Asn} (h : SegI c ops Q L fl listed a w pend (i :: l) r E R G) (hi : i ∈ fl) :
    ∃ v E', SegI c ops Q L fl listed a w ((i, v) :: pend) l r E' R G := by
  obtain ⟨h1, h2, h3⟩ := segP_cons h.sp
  rw [if_pos hi] at h3
  rcases h.sj with ⟨_, v, E', hsp, hsj⟩ | ⟨hn, _⟩
  · obtain ⟨hlt, hns, hself⟩ := h.lb i (by simp)
    obtain ⟨q0, hf'⟩ := QK.spec hns hsp h.fr
    have hnd := h.nd
    have hne : ∀ x ∈ pend, x.1 ≠ i := fun x hx he => by
      rw [List.nodup_append] at hnd
      exact hnd.2.2 x.1 (List.mem_map.2 ⟨x, hx, rfl⟩) i (by simp) he
    have hvirt : virt ops a ((i, v) :: pend) = (virt ops a pend).put (dstAt ops i) v := rfl
    refine ⟨v, E', ?_, ?_, ?_, ?_, fun j hj => h.lb j (by simp [hj]), h3, hsj, hf', h.sat, ?_, fun j hj => ?_⟩
    · intro x hx
      rcases List.mem_cons.1 hx with rfl | hx
      · exact ⟨hi, hlt, hns, hself hi⟩
      · exact h.pf x hx
    · intro x hx y hy hxy
      rcases List.mem_cons.1 hx with rfl | hx
      · rcases List.mem_cons.1 hy with rfl | hy
        · exact absurd rfl hxy
        · have := h.pl y hy i (by simp)
          exact ⟨this.2.2.2, this.2.2.1⟩
      · rcases List.mem_cons.1 hy with rfl | hy
        · have := h.pl x hx i (by simp)
          exact ⟨.inl this.1, this.2.1⟩
        · exact h.pp x hx y hy hxy
    · intro x hx j hj
      rcases List.mem_cons.1 hx with rfl | hx
      · exact h2 j hj (.inl hi)
      · exact h.pl x hx j (by simp [hj])
    · rw [List.map_cons, List.cons_append]
      rw [List.nodup_append] at hnd
      obtain ⟨n1, n2, n3⟩ := hnd
      obtain ⟨n4, n5⟩ := List.nodup_cons.1 n2
      refine List.nodup_cons.2 ⟨fun hm => ?_, List.nodup_append.2 ⟨n1, n5, fun u hu v hv => n3 u hu v (by simp [hv])⟩⟩
      rcases List.mem_append.1 hm with hm | hm
      · obtain ⟨x, hx, he⟩ := List.mem_map.1 hm; exact hne x hx he
      · exact n4 hm
    · intro x hx
      rw [hvirt]
      rcases List.mem_cons.1 hx with rfl | hx
      · exact QK.put (hself hi) q0
      · exact QK.put (h.pl x hx i (by simp)).1 (h.qk x hx)
    · rw [h.un j hj]
      simp only [List.map_cons, List.mem_cons]
      constructor
      · rintro (h | h | h) <;> simp [h]
      · rintro ((h | h) | h) <;> simp [h]
  · exact absurd hi hn
theorem SegI.sated {fl : List Nat} {listed : Array Bool} {a : Act} {w : World} {R : Hp} {G : List Asn} : ∀ {l : List Nat} {pend : List (Nat × Value)} {r : Option Nat} {E : Env}, SegI c ops Q L fl listed a w pend l r E R G →
    ∃ pend' l' r' E', SegI c ops Q L fl listed a w pend' l' r' E' R G ∧ (l' = [] ∨ ∃ k t, l' = k :: t ∧ k ∉ fl) ∧ pend'.length + l'.length = pend.length + l.length
  | [], pend, r, E, h => ⟨pend, [], r, E, h, .inl rfl, rfl⟩
  | i :: l, pend, r, E, h => by
    by_cases hi : i ∈ fl
    · obtain ⟨v, E', h'⟩ := h.float hi
      obtain ⟨p2, l2, r2, E2, h2, h3, h4⟩ := SegI.sated h'
      exact ⟨p2, l2, r2, E2, h2, h3, by rw [h4]; simp; omega⟩
    · exact ⟨pend, i :: l, r, E, h, .inr ⟨i, l, rfl, hi⟩, rfl⟩
theorem seg_any {fl : List Nat} (hlow : lowB ops = true) : ∀ (fuel : Nat) (listed : Array Bool) (a : Act) (w : World) (pend : List (Nat × Value)) (l : List Nat) (r : Option Nat) (E : Env) (R : Hp) (G : List Asn),
    listed.size = ops.size → Closed1 ops listed → SegI c ops Q L fl listed a w pend l r E R G → (l = [] ∨ ∃ k t, l = k :: t ∧ k ∉ fl) → pend.length + l.length ≤ fuel → wpAny c.P .any ops Q fuel listed a w := by
  intro fuel
  induction fuel with
  | zero =>
    intro listed a w pend l r E R G hs hc h _ hf
    have e1 := List.eq_nil_of_length_eq_zero (l := pend) (by omega)
    have e2 := List.eq_nil_of_length_eq_zero (l := l) (by omega)
    subst e1 e2
    have hr : Region.ready .any ops listed = [] := by
      cases hr : Region.ready .any ops listed with
      | nil => rfl
      | cons j t =>
        have hj : j ∈ Region.ready .any ops listed := by rw [hr]; simp
        obtain ⟨h0, o, ho, _⟩ := mem_ready.1 hj
        have hlt := (Array.getElem?_eq_some_iff.1 ho).1
        have hu : listed.getD j false = false := by
          rw [Array.getD_eq_getD_getElem?] at h0 ⊢
          rw [Array.getElem?_eq_getElem (by omega)] at h0 ⊢
          simpa using h0
        have := (h.un j hlt).1 hu
        simp at this
    exact wpAny_done hr (h.sj _ _ h.fr h.sat) 0
  | succ fuel ih =>
    intro listed a w pend l r E R G hs hc h hsat hf
    by_cases hall : pend = [] ∧ l = []
    · obtain ⟨rfl, rfl⟩ := hall
      have hr : Region.ready .any ops listed = [] := by
        cases hr : Region.ready .any ops listed with
        | nil => rfl
        | cons j t =>
          have hj : j ∈ Region.ready .any ops listed := by rw [hr]; simp
          obtain ⟨h0, o, ho, _⟩ := mem_ready.1 hj
          have hlt := (Array.getElem?_eq_some_iff.1 ho).1
          have hu : listed.getD j false = false := by
            rw [Array.getD_eq_getD_getElem?] at h0 ⊢
            rw [Array.getElem?_eq_getElem (by omega)] at h0 ⊢
            simpa using h0
          have := (h.un j hlt).1 hu
          simp at this
      exact wpAny_done hr (h.sj _ _ h.fr h.sat) (fuel + 1)
    have hpu : ∀ y ∈ pend, listed.getD y.1 false = false := fun y hy => (h.un _ (h.pf y hy).2.1).2 (.inl (List.mem_map.2 ⟨y, hy, rfl⟩))
    have hlu : ∀ j ∈ l, listed.getD j false = false := fun j hj => (h.un _ (h.lb j hj).1).2 (.inr hj)
    refine ⟨fun hr => ?_, fun i hi => ?_⟩
    · exfalso
      have : ∃ j, j < ops.size ∧ listed.getD j false = false := by
        cases hpe : pend with
        | cons y p => exact ⟨y.1, (h.pf y (by rw [hpe]; simp)).2.1, hpu y (by rw [hpe]; simp)⟩
        | nil => cases hle : l with
          | cons k p => exact ⟨k, (h.lb k (by rw [hle]; simp)).1, hlu k (by rw [hle]; simp)⟩
          | nil => exact absurd ⟨hpe, hle⟩ hall
      obtain ⟨j, hj, hu⟩ := this
      obtain ⟨k, hk⟩ := exists_ready hlow hs j hj hu
      rw [hr] at hk; cases hk
    · obtain ⟨h0, o, ho, hdeps⟩ := mem_ready.1 hi
      have hilt : i < ops.size := (Array.getElem?_eq_some_iff.1 ho).1
      have hu : listed.getD i false = false := by
        rw [Array.getD_eq_getD_getElem?] at h0 ⊢
        rw [Array.getElem?_eq_getElem (by omega)] at h0 ⊢
        simpa using h0
      have hanc : ∀ j, ancB ops ops.size i j = true → listed.getD j false = true := fun j hj => anc_listed hc _ i j hj fun o' ho' => by rw [ho] at ho'; cases ho'; exact hdeps
      have hs' : (listed.setIfInBounds i true).size = ops.size := by simpa using hs
      have hc' : Closed1 ops (listed.setIfInBounds i true) := hc.set hs hi
      have hgd : ∀ j, (listed.setIfInBounds i true).getD j false = if j = i then true else listed.getD j false := fun j => set_getD (by omega)
      have hod : o.dst = dstAt ops i := by simp [dstAt, ho]
      by_cases hip : i ∈ pend.map (·.1)
      · obtain ⟨x, hx, rfl⟩ := List.mem_map.1 hip
        obtain ⟨p1, p2, rfl⟩ := List.append_of_mem hx
        have hnd := h.nd
        have hnot : ∀ y ∈ p1 ++ p2, y.1 ≠ x.1 := by
          intro y hy he
          have hpn := (List.nodup_append.1 hnd).1
          simp only [List.map_append, List.map_cons] at hpn
          have hn := List.nodup_append.1 hpn
          rcases List.mem_append.1 hy with h | h
          · exact hn.2.2 y.1 (List.mem_map.2 ⟨y, h, rfl⟩) x.1 (by simp) he
          · exact (List.nodup_cons.1 hn.2.1).1 (List.mem_map.2 ⟨y, h, he⟩)
        have hsub : ∀ y ∈ p1 ++ p2, y ∈ p1 ++ x :: p2 := fun y hy => by simp at hy ⊢; rcases hy with h | h <;> simp [h]
        have hlook : ∀ y ∈ p1 ++ x :: p2, looksB ops x.1 y.1 = false := by
          intro y hy
          by_cases he : y.1 = x.1
          · rw [he]; exact (h.pf x hx).2.2.2
          · rcases (h.pp x hx y hy (Ne.symm he)).1 with h | h
            · exact h
            · have := hanc _ h; rw [hpu y hy] at this; cases this
        have hqa : QK c ops R L x a := QK.unvirt hlook (h.qk x hx)
        obtain ⟨o', ho', hsel, hqq⟩ := hqa
        rw [ho] at ho'; cases ho'
        have hvt := virt_take (ops := ops) (x := x) p1 p2 a fun y hy e he => not_same (h.pf y (hsub y hy)).2.1 (h.pp y (hsub y hy) x hx (hnot y hy)).2 e he
        have next : ∀ w', Sat c.σ R (L ++ G) w' → wpAny c.P .any ops Q fuel (listed.setIfInBounds x.1 true) (a.put o.dst x.2) w' := by
          intro w' hw'
          rw [hod]
          refine ih _ _ _ (p1 ++ p2) l r E R G hs' hc' ⟨fun y hy => h.pf y (hsub y hy), fun y hy z hz => h.pp y (hsub y hy) z (hsub z hz), fun y hy => h.pl y (hsub y hy), ?_, h.lb, h.sp, h.sj, by rw [← hvt]; exact h.fr, hw', fun y hy => by rw [← hvt]; exact h.qk y (hsub y hy), fun j hj => ?_⟩ hsat (by simp at hf ⊢; omega)
          · have hp : (p1.map (·.1) ++ (p2.map (·.1) ++ l)).Nodup := by
              simp only [List.map_append, List.map_cons, List.append_assoc, List.cons_append] at hnd
              have hn := List.nodup_append.1 hnd
              exact List.nodup_append.2 ⟨hn.1, (List.nodup_cons.1 hn.2.1).2, fun u hu v hv => hn.2.2 u hu v (by simp at hv ⊢; exact .inr hv)⟩
            simpa [List.map_append, List.append_assoc] using hp
          · rw [hgd]
            by_cases hji : j = x.1
            · rw [if_pos hji]
              simp only [Bool.true_eq_false, false_iff, not_or]
              subst hji
              refine ⟨fun h => ?_, fun hm => ?_⟩
              · obtain ⟨y, hy, he⟩ := List.mem_map.1 h; exact hnot y hy he
              · exact (List.nodup_append.1 hnd).2.2 x.1 (List.mem_map.2 ⟨x, hx, rfl⟩) x.1 hm rfl
            · rw [if_neg hji, h.un j hj]
              simp only [List.map_append, List.map_cons, List.mem_append, List.mem_cons]
              constructor
              · rintro ((h | h | h) | h) <;> first | exact absurd h hji | simp [h]
              · rintro ((h | h) | h) <;> simp [h]
        unfold wpOp
        rw [ho]
        simp only
        cases hwt : Region.wanted o (yielded ops a.tmps) with
        | true =>
          rw [if_pos rfl]
          refine .inl (Oper.wp_of_quiet (C := Sat c.σ R (L ++ G)) (K := fun a' => a' = a.put o.dst x.2) h.sat (fun a' w' hw' ha' => by subst ha'; exact next w' hw') ⟨x.2, fun w' hw' => ?_, rfl⟩)
          rcases hqq R (Hp.le_refl R) G w' hw' with h | h
          · exact h.2
          · rw [hwt] at h; cases h.1
        | false =>
          rw [if_neg (by decide)]
          rcases hqq R (Hp.le_refl R) G w h.sat with h1 | h1
          · rw [hwt] at h1; cases h1.1
          · have := next w h.sat; rw [h1.2] at this; exact this
      · have hmem : i ∈ l := ((h.un i hilt).1 hu).resolve_left hip
        rcases hsat with rfl | ⟨k, t, rfl, hk⟩
        · cases hmem
        obtain ⟨s1, s2, s3⟩ := segP_cons h.sp
        rw [if_neg hk] at s3
        have hik : i = k := by
          rcases List.mem_cons.1 hmem with e | hm
          · exact e
          · exfalso
            obtain ⟨j, hj, ha⟩ := segP_row s3 hm
            have := hanc j ha
            rw [hlu j (by rcases hj with rfl | hj <;> simp [*])] at this; cases this
        subst hik
        rcases h.sj with ⟨hn, _⟩ | ⟨_, o', ho', hstep⟩
        · exact absurd hn hk
        rw [ho] at ho'; cases ho'
        have hlk : ∀ y ∈ pend, ∀ d, dstAt ops y.1 = some d → d ∉ o.looksAt ops := by
          intro y hy
          refine not_looks ho ?_
          rcases (h.pl y hy i (by simp)).2.2.2 with h | h
          · exact h
          · have := hanc _ h; rw [hpu y hy] at this; cases this
        have hsel := noSel_spec ho (h.lb i (by simp)).2.1
        have hst := hstep _ w h.fr h.sat
        rw [wanted_virt hlk] at hst
        have hvp : ∀ u, virt ops (a.put o.dst u) pend = (virt ops a pend).put o.dst u := fun u => virt_put pend a fun y hy e he => by
          rw [hod] at he
          exact not_same (h.pf y hy).2.1 (h.pl y hy i (by simp)).2.1 e he
        have next : ∀ u w' E' R2 G', R.le R2 → Fr c.n E' ((virt ops a pend).put o.dst u) → Sat c.σ R2 (L ++ G') w' → SJ c ops L Q fl t E' R2 G' →
            wpAny c.P .any ops Q fuel (listed.setIfInBounds i true) (a.put o.dst u) w' := by
          intro u w' E' R2 G' hle hE' hw' hX'
          have hnd := h.nd
          have h2 : SegI c ops Q L fl (listed.setIfInBounds i true) (a.put o.dst u) w' pend t (some i) E' R2 G' := by
            refine ⟨h.pf, h.pp, fun y hy j hj => h.pl y hy j (by simp [hj]), ?_, fun j hj => h.lb j (by simp [hj]), s3, hX', by rw [hvp]; exact hE', hw', fun y hy => ?_, fun j hj => ?_⟩
            · have hn := List.nodup_append.1 hnd
              exact List.nodup_append.2 ⟨hn.1, (List.nodup_cons.1 hn.2.1).2, fun u hu v hv => hn.2.2 u hu v (by simp [hv])⟩
            · rw [hvp, hod]
              exact QK.put (h.pl y hy i (by simp)).1 ((h.qk y hy).mono hle)
            · rw [hgd]
              by_cases hji : j = i
              · rw [if_pos hji]
                simp only [Bool.true_eq_false, false_iff, not_or]
                subst hji
                exact ⟨hip, fun hm => (List.nodup_cons.1 (List.nodup_append.1 hnd).2.1).1 hm⟩
              · rw [if_neg hji, h.un j hj]
                simp only [List.mem_cons]
                constructor
                · rintro (h | h | h) <;> first | exact absurd h hji | simp [h]
                · rintro (h | h) <;> simp [h]
          obtain ⟨p3, l3, r3, E3, h3, h4, h5⟩ := h2.sated
          exact ih _ _ _ p3 l3 r3 E3 R2 G' hs' hc' h3 h4 (by rw [h5]; simp at hf; omega)
        unfold wpOp
        rw [ho]
        simp only
        cases hwt : Region.wanted o (yielded ops a.tmps) with
        | true =>
          rw [hwt, if_pos rfl] at hst
          rw [if_pos rfl]
          refine .inl ?_
          unfold Oper.wp at hst ⊢
          rw [execOp_virt hsel hlk] at hst
          refine upon_move hst ?_ ?_
          · rintro u w' ⟨u', E', R2, G', hle, he, h1, h2, h3⟩
            exact next u w' E' R2 G' hle h1 h2 h3
          · rintro q w' ⟨u', E', R2, G', hle, he, h1, h2, h3⟩
            have := h1.dfs
            cases hd2 : o.dst <;> simp [Act.put, hd2] at this
        | false =>
          rw [hwt, if_neg (by decide)] at hst
          rw [if_neg (by decide)]
          obtain ⟨E', R2, G', hle, h1, h2, h3⟩ := hst
          exact next undef w E' R2 G' hle h1 h2 h3
end
section
variable {c : Cx} {l : List Oper} {Q : Exit → Act → World → Prop} {E : Env} {R : Hp} {L : List Asn}
theorem cj_seg {id : Nat} (fl is : List Nat) (G0 : List Asn) {L0 : List Asn} (hL : Sub L0 (L ++ G0)) (hm : c.P.follows .mixedOrders = true) (hB : segB l.toArray fl is = true)
    (h : SJ c l.toArray L Q fl is E R G0) : CJ c (.region id l.toArray true) Q E R L0 := by
  have hB' := hB
  simp only [segB, Bool.and_eq_true, List.all_eq_true, Bool.not_eq_true', decide_eq_true_eq] at hB'
  obtain ⟨⟨⟨⟨⟨hlow, hcover⟩, hnd⟩, hlt⟩, hself⟩, hP⟩ := hB'
  intro a w hf hs
  refine wp_region_any hm ?_
  have hrep : ∀ j, (Array.replicate l.toArray.size false).getD j false = false := fun j => by
    rw [Array.getD_eq_getD_getElem?, Array.getElem?_replicate]; split <;> rfl
  have hI : SegI c l.toArray Q L fl (Array.replicate l.toArray.size false) a w.drew [] is none E R G0 := by
    refine ⟨fun x hx => (by cases hx), fun x hx => (by cases hx), fun x hx => (by cases hx), by simpa using hnd, fun j hj => ?_, hP, h, hf, (hs.sub hL).drew, fun x hx => (by cases hx), fun j hj => ?_⟩
    · have := hlt j hj
      exact ⟨Nat.lt_of_lt_of_le (Nat.lt_succ_self _) (Nat.le_of_ble_eq_true this.1), this.2, fun hfl => hself j hfl⟩
    · rw [hrep]
      have := hcover j (by simpa using hj)
      simp only [List.contains_iff_mem] at this
      simp [this]
  obtain ⟨p3, l3, r3, E3, h3, h4, h5⟩ := hI.sated
  refine seg_any hlow _ _ _ _ p3 l3 r3 E3 R G0 (by simp) (fun i o _ hl => (by rw [hrep] at hl; cases hl)) h3 h4 ?_
  rw [h5]
  simp only [List.length_nil, Nat.zero_add]
  exact nodup_len _ _ hnd fun x hx => Nat.lt_of_lt_of_le (Nat.lt_succ_self _) (Nat.le_of_ble_eq_true (hlt x hx).1)
variable {fl is : List Nat} {G : List Asn}
theorem sj_val {i d : Nat} {o : Oper} {v : Value} (hi : i ∈ fl) (ho : nthO l i = some o) (hd : o.dst = some d) (hn : Nat.blt d c.n = true) (hw : Wn c l.toArray E o true) (y : ∀ R', R.le R' → ∀ G, Yld c E R' (L ++ G) o v)
    (h : SJ c l.toArray L Q fl is ((d, v) :: E) R G) : SJ c l.toArray L Q fl (i :: is) E R G :=
  .inl ⟨hi, v, _, ⟨o, d, by rw [nthO_eq] at ho; simpa using ho, hd, hn, rfl, .inl ⟨hw, y⟩⟩, h⟩
theorem sj_skip {i d : Nat} {o : Oper} (hi : i ∈ fl) (ho : nthO l i = some o) (hd : o.dst = some d) (hn : Nat.blt d c.n = true) (hw : Wn c l.toArray E o false)
    (h : SJ c l.toArray L Q fl is ((d, undef) :: E) R G) : SJ c l.toArray L Q fl (i :: is) E R G :=
  .inl ⟨hi, undef, _, ⟨o, d, by rw [nthO_eq] at ho; simpa using ho, hd, hn, rfl, .inr ⟨hw, rfl⟩⟩, h⟩
theorem sj_nil (h : EJ c (Q .normal) E R (L ++ G)) : SJ c l.toArray L Q fl [] E R G := h
theorem sj_part (t : Nat) {b : Bool} (e : lk E t = some (.bool b)) (ht : b = true → SJ c l.toArray L Q fl is E R G) (hf : b = false → SJ c l.toArray L Q fl is E R G) : SJ c l.toArray L Q fl is E R G := by
  cases b with
  | true => exact ht rfl
  | false => exact hf rfl
theorem sj_row {i : Nat} {o : Oper} (hi : i ∉ fl) (ho : nthO l i = some o)
    (h : RJ c l.toArray (Exit.then (fun a w => ∃ E' R' G', R.le R' ∧ Fr c.n E' a ∧ Sat c.σ R' (L ++ G') w ∧ SJ c l.toArray L Q fl is E' R' G') (fun _ _ _ => False)) [o] E R (L ++ G)) : SJ c l.toArray L Q fl (i :: is) E R G := by
  refine .inr ⟨hi, o, by rw [nthO_eq] at ho; simpa using ho, fun a w hf hs => ?_⟩
  have := upon_next (Q' := fun _ _ _ => False) (h a w hf hs) (K' := fun a w => ∃ E' R' G', R.le R' ∧ Fr c.n E' a ∧ Sat c.σ R' (L ++ G') w ∧ SJ c l.toArray L Q fl is E' R' G') (fun _ _ h => h)
  split
  · rename_i hw
    rw [if_pos hw] at this
    exact Oper.wp_mono (fun a' w' ⟨⟨u, hu⟩, E', R', G', h1, h2, h3, h4⟩ => ⟨u, E', R', G', h1, hu, h2, h3, h4⟩) (upon_put this fun a' w' ⟨E', R', G', _, h1, _⟩ => h1.dfs)
  · rename_i hw
    rw [if_neg hw] at this
    obtain ⟨E', R', G', h1, h2, h3, h4⟩ := this
    exact ⟨E', R', G', h1, h2, h3, h4⟩
theorem rj_sk {R1 : Hp} {Qx : Exit → Act → World → Prop} {ops : Array Oper} {M G' : List Asn} (hR : R.le R1) (hS : Sub M (L ++ G')) (h : SJ c l.toArray L Q fl is E R1 G') :
    RJ c ops (Exit.then (fun a w => ∃ E' R' G', R.le R' ∧ Fr c.n E' a ∧ Sat c.σ R' (L ++ G') w ∧ SJ c l.toArray L Q fl is E' R' G') Qx) [] E R1 M :=
  rj_nil fun a w hf hs => ⟨E, R1, G', hR, hf, hs.sub hS, h⟩
end
end V
end Go.Proofs.Ytcgjlhhfldkdaaa
