/- Slices of our own: appended to, cut, read; max and min; bytes and texts. -/
import Derived.Test.YtcgjlhhfldkdaaaV7
import Derived.Deep.AppendSrc
set_option linter.unusedSimpArgs false
set_option linter.unusedVariables false
namespace Go.Proofs.Ytcgjlhhfldkdaaa
open Go.RowKit
namespace V
/-- a slice whose row is ours: n elements of sz cells each: xs; v is nil, or stands in a row with room -/
def slc (e : TypeId) (sz : Nat) (v : Value) (n : Nat) (xs : List Value) : Asn := fun h => xs.length = n * sz ∧
  ((v = .slice none 0 0 ∧ n = 0) ∨ ∃ g cap fz pre post, v = .slice (some ⟨g, List.length pre, none⟩) n cap ∧ h g = some (.cells ⟨pre ++ (xs ++ post)⟩ e fz) ∧ (∀ o, o < (pre ++ (xs ++ post)).length → ¬ (fz.1 ≤ o ∧ o < fz.2)) ∧
    n ≤ cap ∧ cap ≤ maxLen ∧ cap * sz ≤ (xs ++ post).length)
theorem slc_nil (e : TypeId) (sz : Nat) (h : Hp) : slc e sz (.slice none 0 0) 0 [] h := ⟨by simp, .inl ⟨rfl, rfl⟩⟩
theorem Sat.add {σ : World} {R : Hp} {L : List Asn} {w : World} {A : Asn} (hA : ∀ h, A h) (s : Sat σ R L w) : Sat σ R (A :: L) w :=
  ⟨s.os, s.tape, s.output, s.ro, let ⟨g, a, b, c⟩ := s.own; ⟨g, a, b, Hp.emp, g, fun _ _ h => (by cases h), Hp.le_refl g, fun _ => .inl rfl, hA _, c⟩⟩
theorem Sat.pure {σ : World} {R : Hp} {L : List Asn} {w : World} {A : Asn} {p : Prop} (hA : ∀ h, A h → p) (s : Sat σ R (A :: L) w) : p :=
  let ⟨g, a, b, h1, h2, c⟩ := s.own; hA _ c.2.2.2.1
section
variable {c : Cx} {ops : Array Oper} {Q : Exit → Act → World → Prop} {E : Env} {R : Hp} {L M : List Asn} {A B : Asn}
/-- what an assertion says of plain things -/
theorem rj_pure {l : List Oper} {p : Prop} (f : Find A L M) (hA : ∀ h, A h → p) (h : p → RJ c ops Q l E R L) : RJ c ops Q l E R L :=
  fun a w ha hs => h (Sat.pure hA (hs.find f)) a w ha hs
theorem cj_pure {x : Code} {p : Prop} (f : Find A L M) (hA : ∀ h, A h → p) (h : p → CJ c x Q E R L) : CJ c x Q E R L :=
  fun a w ha hs => h (Sat.pure hA (hs.find f)) a w ha hs
theorem rj_turn {l : List Oper} (f : Find A L M) (k : ∀ h, A h → B h) (h : RJ c ops Q l E R (B :: M)) : RJ c ops Q l E R L :=
  fun a w ha hs => h a w ha ((hs.find f).turn k)
theorem cj_turn {x : Code} (f : Find A L M) (k : ∀ h, A h → B h) (h : CJ c x Q E R (B :: M)) : CJ c x Q E R L :=
  fun a w ha hs => h a w ha ((hs.find f).turn k)
theorem rj_add {l : List Oper} (hA : ∀ h, A h) (h : RJ c ops Q l E R (A :: L)) : RJ c ops Q l E R L := fun a w ha hs => h a w ha (hs.add hA)
theorem cj_add {x : Code} (hA : ∀ h, A h) (h : CJ c x Q E R (A :: L)) : CJ c x Q E R L := fun a w ha hs => h a w ha (hs.add hA)
/-- one assertion taken apart into several -/
theorem Sat.split {σ : World} {w : World} {As : List Asn} (k : ∀ h, A h → stars As h) (s : Sat σ R (A :: L) w) : Sat σ R (As ++ L) w := by
  obtain ⟨g, a, b, h1, h2, c1, c2, c3, c4, c5⟩ := s.own
  refine ⟨s.os, s.tape, s.output, s.ro, g, a, b, ?_⟩
  have key : ∀ (As : List Asn) (h1 : Hp), h1.le g → h1.dis h2 → stars As h1 → stars (As ++ L) g := by
    intro As
    induction As with
    | nil => intro h1 _ _ _; exact stars_le c2 c5
    | cons B As ih =>
      rintro h1 l1 d1 ⟨k1, k2, e1, e2, e3, e4, e5⟩
      have hd2 : k2.dis h2 := Hp.dis_symm (Hp.dis_le (Hp.dis_symm d1) e2)
      have hd1 : k1.dis h2 := Hp.dis_symm (Hp.dis_le (Hp.dis_symm d1) e1)
      -- what is left lies in k2 and h2
      have key2 : ∀ (As : List Asn) (k2 : Hp), k2.dis h2 → stars As k2 → stars (As ++ L) (k2.un h2) := by
        intro As
        induction As with
        | nil => intro k2 hd _; exact stars_le (Hp.le_un_right hd) c5
        | cons C As ih2 =>
          rintro k2 hd ⟨m1, m2, f1, f2, f3, f4, f5⟩
          have hm2 : m2.dis h2 := Hp.dis_symm (Hp.dis_le (Hp.dis_symm hd) f2)
          have hm1 : m1.dis h2 := Hp.dis_symm (Hp.dis_le (Hp.dis_symm hd) f1)
          exact ⟨m1, m2.un h2, Hp.le_trans f1 (Hp.le_un_left _ _), Hp.un_le (Hp.le_trans f2 (Hp.le_un_left _ _)) (Hp.le_un_right hd), Hp.dis_un f3 hm1, f4, ih2 m2 hm2 f5⟩
      exact ⟨k1, k2.un h2, Hp.le_trans e1 l1, Hp.un_le (Hp.le_trans e2 l1) c2, Hp.dis_un e3 hd1, e4, key2 As k2 hd2 e5⟩
  exact key As h1 c1 c3 (k _ c4)
/-- several put together into one -/
theorem Sat.join {σ : World} {w : World} : ∀ {As : List Asn} (k : ∀ h, stars As h → A h), Sat σ R (As ++ L) w → Sat σ R (A :: L) w := by
  intro As k s
  obtain ⟨g, a, b, c1⟩ := s.own
  refine ⟨s.os, s.tape, s.output, s.ro, g, a, b, ?_⟩
  have key : ∀ (As : List Asn) (g : Hp), stars (As ++ L) g → ∃ h1 h2 : Hp, h1.le g ∧ h2.le g ∧ h1.dis h2 ∧ stars As h1 ∧ stars L h2 := by
    intro As
    induction As with
    | nil => intro g s; exact ⟨Hp.emp, g, fun _ _ h => (by cases h), Hp.le_refl g, fun _ => .inl rfl, trivial, s⟩
    | cons B As ih =>
      rintro g ⟨k1, k2, e1, e2, e3, e4, e5⟩
      obtain ⟨m1, m2, f1, f2, f3, f4, f5⟩ := ih k2 e5
      have d1 : k1.dis m1 := Hp.dis_le e3 f1
      have d2 : k1.dis m2 := Hp.dis_le e3 f2
      exact ⟨k1.un m1, m2, Hp.un_le e1 (Hp.le_trans f1 e2), Hp.le_trans f2 e2, Hp.dis_symm (Hp.dis_un (Hp.dis_symm d2) (Hp.dis_symm f3)), ⟨k1, m1, Hp.le_un_left _ _, Hp.le_un_right d1, d1, e4, f4⟩, f5⟩
  obtain ⟨h1, h2, d1, d2, d3, d4, d5⟩ := key As g c1
  exact ⟨h1, h2, d1, d2, d3, k _ d4, d5⟩
end
/-! ### appending -/
theorem setCells_heap {g : Nat} {e : TypeId} {fz : Nat × Nat} : ∀ (vs : List Value) (pre post : List Value) (w : World), w.heap[g]? = some (.cells ⟨pre ++ post⟩ e fz) → vs.length ≤ post.length →
    (w.setCells g pre.length vs).heap[g]? = some (.cells ⟨pre ++ (vs ++ post.drop vs.length)⟩ e fz)
  | [], pre, post, w, hg, _ => by simpa [World.setCells] using hg
  | v :: vs, pre, [], w, hg, hl => by simp at hl
  | v :: vs, pre, u :: post, w, hg, hl => by
    have hlt2 := (Array.getElem?_eq_some_iff.1 hg).1
    have hg' : (w.setCell ⟨g, pre.length, none⟩ v).heap[g]? = some (.cells ⟨(pre ++ [v]) ++ post⟩ e fz) := by
      simp only [World.setCell, Array.getElem?_modify, hg]
      simp
    have := setCells_heap vs (pre ++ [v]) post _ hg' (by simpa using hl)
    simp only [List.length_append, List.length_cons, List.length_nil] at this
    simp only [World.setCells, List.length_cons, List.drop_succ_cons]
    rw [this]
    simp
theorem setCells_other {g : Nat} : ∀ (vs : List Value) (o : Nat) (w : World) (k : Nat), k ≠ g → (w.setCells g o vs).heap[k]? = w.heap[k]?
  | [], _, _, _, _ => rfl
  | v :: vs, o, w, k, hk => by rw [World.setCells, setCells_other vs _ _ k hk]; exact Below.heap_setCell _ _ _ _ hk
theorem setCells_same {g : Nat} : ∀ (vs : List Value) (o : Nat) (w : World), (w.setCells g o vs).os = w.os ∧ (w.setCells g o vs).tape = w.tape ∧ (w.setCells g o vs).output = w.output
  | [], _, _ => ⟨rfl, rfl, rfl⟩
  | v :: vs, o, w => setCells_same vs (o + 1) _
theorem row_cell {w : World} {g : Nat} {pre xs post : List Value} {e : TypeId} {fz : Nat × Nat} (hg : w.heap[g]? = some (.cells ⟨pre ++ (xs ++ post)⟩ e fz)) {j : Nat} {u : Value} (h : xs[j]? = some u) : w.cell? ⟨g, pre.length + j, none⟩ = some u := by
  have hlt := (List.getElem?_eq_some_iff.1 h).1
  simp only [World.cell?, hg]
  simp
  rw [List.getElem?_append_right (by omega), Nat.add_sub_cancel_left, List.getElem?_append_left hlt, h]
theorem Sat.slc_cases {σ : World} {R : Hp} {L : List Asn} {w : World} {e : TypeId} {sz n : Nat} {v : Value} {xs : List Value} (s : Sat σ R (slc e sz v n xs :: L) w) :
    xs.length = n * sz ∧ ((v = .slice none 0 0 ∧ n = 0 ∧ xs = []) ∨ ∃ g cap fz pre post, v = .slice (some ⟨g, List.length pre, none⟩) n cap ∧ (∀ o, o < (pre ++ (xs ++ post)).length → ¬ (fz.1 ≤ o ∧ o < fz.2)) ∧
    n ≤ cap ∧ cap ≤ maxLen ∧ cap * sz ≤ (xs ++ post).length ∧ Sat σ R ((fun h => h g = some (.cells ⟨pre ++ (xs ++ post)⟩ e fz)) :: L) w) := by
  obtain ⟨g, a, b, h1, h2, c1, c2, c3, c4, c5⟩ := s.own
  obtain ⟨hl, h⟩ := c4
  refine ⟨hl, ?_⟩
  rcases h with ⟨hv, hn⟩ | ⟨g', cap, fz, pre, post, k1, k2, k3, k4, k5, k6⟩
  · subst hn; exact .inl ⟨hv, rfl, by simpa using hl⟩
  · exact .inr ⟨g', cap, fz, pre, post, k1, k3, k4, k5, k6, s.os, s.tape, s.output, s.ro, g, a, b, h1, h2, c1, c2, c3, k2, c5⟩
theorem heap_of_one {σ : World} {R : Hp} {L : List Asn} {w : World} {g : Nat} {o : Obj} (s : Sat σ R ((fun h => h g = some o) :: L) w) : w.heap[g]? = some o := by
  obtain ⟨q, a, _, h1, h2, c⟩ := s.own
  exact a _ _ (c.1 _ _ c.2.2.2.1)
/-- a slice that stands at the head of its row, or is none -/
def headed (v : Value) : Prop := ∀ b off n k, v = .slice (some ⟨b, off, none⟩) n k → off = 0
theorem headed_nil : headed (.slice none 0 0) := fun _ _ _ _ h => by cases h
theorem headed_new (b n k : Nat) : headed (.slice (some ⟨b, 0, none⟩) n k) := fun _ _ _ _ h => by cases h; rfl
structure AppT (P : Program) (t e : TypeId) (sz by_ : Nat) : Prop where
  under : P.underlying t = some (.slice e)
  info : ∃ (i : TypeInfo) (z : Value), P.info? e = some i ∧ i.zero = some z ∧ i.size = sz ∧ i.bytes = by_ ∧ z.cells.size = sz
/-- what append does to a slice of ours, whatever it appends -/
theorem run_append {P : Program} {w : World} {t tx ty e : TypeId} {sz by_ : Nat} (hT : AppT P t e sz by_) {v x : Value} {n m : Nat} {xs news : List Value} {σ : World} {R : Hp} {L : List Asn} (hs : Sat σ R (slc e sz v n xs :: L) w)
    (hsrc : Src P sz tx x m news w) (hbd : (n + m) * by_ ≤ 140737488355328) (hmx : n + m ≤ maxLen) :
    ∃ v' w', (Builtin.append_ #[t, tx] ty #[v, x]).run P w = .ok v' w' ∧ Sat σ R (slc e sz v' (n + m) (xs ++ news) :: L) w' ∧ (headed v → headed v') := by
  obtain ⟨ht, i, z, hi, hz, rfl, rfl, hzs⟩ := hT
  obtain ⟨hxl, hc⟩ := hs.slc_cases
  have hl := hsrc.newsLen
  have hlx : (xs ++ news).length = (n + m) * i.size := by rw [List.length_append, hxl, hl, Nat.add_mul]
  have hmx' : ((n + m : Nat) : Int) ≤ 9223372036854775807 := by simp only [maxLen] at hmx; omega
  -- a new row
  have grown : ∀ old, Sat σ R (slc e i.size (.slice (some ⟨w.heap.size, 0, none⟩) (n + m) (grownCap w (n + m) old e)) (n + m) (xs ++ news) :: L)
      (w.drew.alloc (.cells ((xs ++ news).toArray ++ Builtin.zeroCells z.cells (grownCap w (n + m) old e - (n + m))) e)) := by
    intro old
    have hs2 : Sat σ R L w := hs.sub (.drop (.refl _))
    refine Sat.turn (fun h hh => ?_) (hs2.drew.alloc _)
    have hge := grownCap_ge w (n + m) old e
    refine ⟨hlx, .inr ⟨w.heap.size, _, (0, 0), [], (Builtin.zeroCells z.cells (grownCap w (n + m) old e - (n + m))).toList, rfl, ?_, fun o _ h => by simp at h, hge, grownCap_le_maxLen w _ _ _ hmx, ?_⟩⟩
    · rw [show w.drew.heap.size = w.heap.size from rfl] at hh
      rw [hh]
      congr 2
      apply Array.ext'
      simp
    · rw [List.length_append, hlx, Array.length_toList, size_zeroCells, hzs, ← Nat.add_mul]
      exact Nat.le_of_eq (by congr 1; omega)
  rcases hc with ⟨rfl, rfl, rfl⟩ | ⟨g, cap, fz, pre, post, rfl, hf, hnc, hcm, hcs, hsg⟩
  · -- nil
    rcases Nat.eq_zero_or_pos m with rfl | hm
    · have hnews : news = [] := by simpa using hl
      subst hnews
      refine ⟨.slice none 0 0, w, ?_, hs, id⟩
      have hc := hsrc.cells
      rcases hsrc.kind with ⟨e', hk⟩ | hk <;> simp [Builtin.append_, run_underlying ht, run_underlying hk, sizeOf, typeInfo, hi, hsrc.len, hc]
    · refine ⟨_, _, run_append_grow_src w t tx ty e i z ht hi hz none 0 0 [] (run_firstCells_none _ _ _ _ _) x m news hsrc (by omega) (by simpa using hmx') ?_, by simpa using grown 0, fun _ => headed_new _ _ _⟩
      exact growslice_fits (by omega) (by simpa using hbd)
  · have hg := heap_of_one hsg
    rcases Nat.lt_or_ge cap (n + m) with hlt | hroom
    · refine ⟨_, _, run_append_grow_src w t tx ty e i z ht hi hz _ n cap xs ?_ x m news hsrc hlt hmx' (growslice_fits hlt hbd), grown cap, fun _ => headed_new _ _ _⟩
      exact run_firstCells_some w.drew i.size n _ n cap xs hxl (fun j u hj => by rw [add_mk]; exact row_cell hg hj)
    · have hms : m * i.size ≤ post.length := by
        have h1 : (n + m) * i.size ≤ cap * i.size := Nat.mul_le_mul_right _ hroom
        rw [Nat.add_mul] at h1
        rw [List.length_append] at hcs
        omega
      have hpx : pre.length + n * i.size = (pre ++ xs).length := by rw [List.length_append, hxl]
      have hg2 : w.heap[g]? = some (.cells ⟨(pre ++ xs) ++ post⟩ e fz) := by rw [hg]; simp
      refine ⟨_, _, run_append_room_src w t tx ty e i ht hi g pre.length n cap x m news hsrc hroom (fun j hj => ?_) (fun j hj => ?_), ?_, fun h b off n k e => ?_⟩
      · have hj' : pre.length + n * i.size + j < ((pre ++ xs) ++ post).length := by rw [List.length_append, ← hpx]; omega
        simp only [World.cell?, hg2]
        simp at hj' ⊢
        omega
      · have hj' : pre.length + n * i.size + j < (pre ++ (xs ++ post)).length := by rw [← List.append_assoc, List.length_append, ← hpx]; omega
        have := hf _ hj'
        obtain ⟨lo, hi'⟩ := fz
        simp only at this
        simp [World.frozen?, hg]
        omega
      · have hg3 := setCells_heap news (pre ++ xs) post w hg2 (by omega)
        rw [← hpx] at hg3
        obtain ⟨o1, o2, o3⟩ := setCells_same (g := g) news (pre.length + n * i.size) w
        have hsat := Sat.put (o' := .cells ⟨pre ++ xs ++ (news ++ List.drop news.length post)⟩ e fz) hsg o1 o2 o3 (fun k hk _ => setCells_other news _ w k hk) hg3
        refine Sat.turn (fun h hh => ?_) hsat
        refine ⟨hlx, .inr ⟨g, cap, fz, pre, post.drop news.length, rfl, by rw [hh]; simp, ?_, hroom, hcm, ?_⟩⟩
        · intro o ho
          refine hf o ?_
          simp only [List.length_append, List.length_drop] at ho ⊢
          omega
        · simp only [List.length_append, List.length_drop] at hcs ⊢
          omega
      · cases e; exact h _ _ _ _ rfl
end V
end Go.Proofs.Ytcgjlhhfldkdaaa
