/- Kinds hold: plain. -/
import Derived.Test.YtghgifgmacapcaaT18k
set_option linter.unusedSimpArgs false
set_option linter.unusedVariables false
namespace Go.Proofs.Ytghgifgmacapcaa
open Go.RowKit
namespace V
set_option maxHeartbeats 4000000
def sndV (v : Vl) : Prop := isV v = true ∧ inI v.n
theorem sndV.zero : sndV Vl.zero := ⟨rfl, by decide⟩
theorem sndV.num {n : Int} (h : inI n) : sndV ⟨1, n, []⟩ := ⟨rfl, h⟩
theorem sndV.truth (b : Bool) : sndV (truthV b) := ⟨rfl, by cases b <;> decide⟩
theorem sndV.len {v : Vl} (h : sndV v) : v.s.length ≤ 200 := by
  obtain ⟨h, _⟩ := h
  unfold isV at h
  split at h
  · simp at h; simp [h.2]
  · split at h
    · simp at h; simp [h]
    · split at h
      · simp at h; exact h.2
      · cases h
theorem sndV.kok {v : Vl} (h : sndV v) : kok v.kind := isV_kok h.1
structure RowsOK (cols : List Cl) (rows : List (List Vl)) : Prop where
  len : rows.length ≤ 9223372036854775807
  all : ∀ row ∈ rows, all2 cols row = true
  num : ∀ row ∈ rows, ∀ v ∈ row, inI v.n
theorem RowsOK.one {cols : List Cl} {rows : List (List Vl)} (h : RowsOK cols rows) {row : List Vl} (hm : row ∈ rows) : RowsOK cols [row] :=
  ⟨by simp, fun r hr => by simp at hr; subst hr; exact h.all _ hm, fun r hr => by simp at hr; subst hr; exact h.num _ hm⟩
theorem okV_val {c : Cl} {v : Vl} (h : okV c v = true) : isV v = true ∧ (v.kind = 0 ∨ v.kind = c.kind) := by
  unfold okV at h; simpa using h
theorem num64_in {n m : Int} (h : num64 n = .ok m) : inI m ∧ m = n := by
  unfold num64 at h
  split at h
  · cases h; exact ⟨by assumption, rfl⟩
  · cases h
theorem numV_ok {e : Except Int Int} {v : Vl} (h : numV e = .ok v) : ∃ n, e = .ok n ∧ v = ⟨1, n, []⟩ := by
  cases e with
  | ok n => cases h; exact ⟨n, rfl, rfl⟩
  | error e => cases h
theorem reckV_in {op : Op} {a b n : Int} (hb : inI b) (h : reckV op a b = .ok n) : inI n := by
  unfold reckV at h
  split at h
  · exact (num64_in h).1
  · exact (num64_in h).1
  · exact (num64_in h).1
  · split at h
    · cases h
    · cases h; exact rem_in hb (by assumption)
  · split at h
    · cases h
    · exact (num64_in h).1
theorem decV_kind (w : Bool) (x y : Vl) : sndV (decV w x y) ∧ ((decV w x y).kind = 0 ∨ (decV w x y).kind = 1) := by
  unfold decV
  split
  · exact ⟨.truth _, .inr rfl⟩
  · split
    · exact ⟨.zero, .inl rfl⟩
    · exact ⟨.truth _, .inr rfl⟩
/-- the kind of what a plain operator hands back -/
def outK (op : Op) : Int := if op = .cat then 2 else 1
theorem vstep_ok {op : Op} {ks : List Vl} {v : Vl} (hk : ∀ k ∈ ks, sndV k) (h : vstep op ks = .ok v) : sndV v ∧ (v.kind = 0 ∨ v.kind = outK op) := by
  have hg : ∀ i, sndV (ks.getD i Vl.zero) := fun i => by
    rw [List.getD_eq_getElem?_getD]
    cases h : ks[i]? with
    | none => exact .zero
    | some k => exact hk k (List.mem_of_getElem? h)
  have hx := hg 0
  have hy := hg 1
  unfold vstep at h
  dsimp only at h
  generalize ks.getD 0 Vl.zero = x at *
  generalize ks.getD 1 Vl.zero = y at *
  unfold outK
  split at h
  · rename_i e; subst e; cases h; exact ⟨.truth _, .inr rfl⟩
  split at h
  · rename_i e
    cases h
    rcases e with rfl | rfl <;> exact ⟨(decV_kind _ _ _).1, (decV_kind _ _ _).2⟩
  split at h
  · cases h; exact ⟨.zero, .inl rfl⟩
  split at h
  · rename_i e; subst e; cases h; exact ⟨.truth _, .inr rfl⟩
  split at h
  · rename_i e; subst e
    obtain ⟨n, h1, rfl⟩ := numV_ok h
    exact ⟨.num (num64_in h1).1, .inr rfl⟩
  split at h
  · rename_i e; subst e
    split at h
    · rename_i hl; cases h
      exact ⟨⟨by simp [isV]; omega, show inI 0 by decide⟩, .inr rfl⟩
    · cases h
  split at h
  · cases h; exact ⟨.truth _, .inr (by rw [if_neg (by assumption)]; rfl)⟩
  · obtain ⟨n, h1, rfl⟩ := numV_ok h
    exact ⟨.num (reckV_in hy.2 h1), .inr (by rw [if_neg (by assumption)])⟩
theorem gstep_ok {op : Op} {out v o : Vl} {k : Int} (ho : sndV out) (hv : sndV v) (hok : out.kind = 0 ∨ out.kind = k) (hvk : v.kind = 0 ∨ v.kind = k) (hs : op = .sum → k = 0 ∨ k = 1) (h : gstep op out v = .ok o) : sndV o ∧ (o.kind = 0 ∨ o.kind = k) := by
  unfold gstep at h
  split at h
  · cases h; exact ⟨ho, hok⟩
  split at h
  · cases h; exact ⟨hv, hvk⟩
  split at h
  · rename_i h1 h2 h3
    split at h
    · rename_i n hn
      cases h
      have hk1 : out.kind = 1 := by
        rcases hs h3 with rfl | rfl
        · rcases hok with h | h <;> exact absurd h h2
        · rcases hok with h | h
          · exact absurd h h2
          · exact h
      refine ⟨⟨?_, (num64_in hn).1⟩, hok⟩
      have := ho.1
      unfold isV at this ⊢
      simp only [hk1] at this ⊢
      simpa using this
    · cases h
  split at h
  · cases h; exact ⟨hv, hvk⟩
  · cases h; exact ⟨ho, hok⟩
theorem foldE_ok {α : Type} {f : α → Except Int Vl} {op : Op} {k : Int} (hs : op = .sum → k = 0 ∨ k = 1) : ∀ {l : List α} {out o : Vl}, (∀ x ∈ l, ∀ v, f x = .ok v → sndV v ∧ (v.kind = 0 ∨ v.kind = k)) → sndV out → (out.kind = 0 ∨ out.kind = k) → foldE f (gstep op) l out = .ok o → sndV o ∧ (o.kind = 0 ∨ o.kind = k)
  | [], out, o, _, ho, hk, h => by rw [foldE] at h; cases h; exact ⟨ho, hk⟩
  | x :: l, out, o, hf, ho, hk, h => by
    rw [foldE] at h
    cases hx : f x with
    | error e => rw [hx] at h; cases h
    | ok v =>
      rw [hx] at h; simp only at h
      obtain ⟨hv, hvk⟩ := hf x (by simp) v hx
      cases hg : gstep op out v with
      | error e => rw [hg] at h; cases h
      | ok o1 =>
        rw [hg] at h; simp only at h
        obtain ⟨h1, h2⟩ := gstep_ok ho hv hk hvk hs hg
        exact foldE_ok hs (fun y hy => hf y (by simp [hy])) h1 h2 h
theorem kindsX_kid {cols : List Cl} {m : Bool} : ∀ {l : List Ex} {i : Nat} {x : Ex}, (kindsX cols m l).2 = 0 → l[i]? = some x → (kindX cols m x).2 = 0 ∧ (kindsX cols m l).1[i]? = some (kindX cols m x).1
  | [], i, x, _, h => by simp at h
  | y :: l, i, x, h0, h => by
    rw [kindsX] at h0 ⊢
    simp only at h0 ⊢
    by_cases hy : (kindX cols m y).2 = 0
    · rw [if_neg (by simpa using hy)] at h0 ⊢
      by_cases hl : (kindsX cols m l).2 = 0
      · rw [if_neg (by simpa using hl)]
        cases i with
        | zero => simp at h; subst h; exact ⟨hy, rfl⟩
        | succ i => have := kindsX_kid hl (by simpa using h : l[i]? = some x); exact ⟨this.1, by simpa using this.2⟩
      · rw [if_pos hl] at h0; exact absurd h0 hl
    · rw [if_pos hy] at h0; exact absurd h0 hy
theorem kstep_zero {cols : List Cl} {may : Bool} {op : Op} {v : Vl} {name : Bs} {r : List Int × Int} (h : (kstep cols may op v name r).2 = 0) : r.2 = 0 := by
  unfold kstep at h
  split at h
  · exact h
  · rename_i h1; simpa using h1
theorem kstep_out {cols : List Cl} {may : Bool} {op : Op} {v : Vl} {name : Bs} {r : List Int × Int} (h1 : ¬ op = .val) (h2 : ¬ op = .col) (h3 : ¬ fam op = 5) (h : (kstep cols may op v name r).2 = 0) : (kstep cols may op v name r).1 = outK op := by
  have h0 := kstep_zero h
  unfold kstep at h ⊢
  rw [if_neg (by simpa using h0)] at h ⊢
  cases op <;> first | exact absurd rfl h1 | exact absurd rfl h2 | exact absurd rfl h3 | (simp [fam] at h ⊢; done) | (simp only [fam] at h ⊢; revert h; simp [outK]; done) | (simp only [fam] at h ⊢; revert h; simp [outK]; split <;> simp)
theorem kid1 {op : Op} {kids : List Ex} (h : kids.length = arity op) (h5 : fam op = 5) (hc : ¬ op = .count) : ∃ k, kids = [k] := by
  have : arity op = 1 := by cases op <;> first | rfl | (revert h5; decide) | exact absurd rfl hc
  exact List.length_eq_one_iff.1 (by omega)
theorem evL_at {vs : Op → List Vl → Except Int Vl} {gs : Op → Vl → Vl → Except Int Vl} {cols : List Cl} {rows : List (List Vl)} : ∀ {l : List Ex} {ks : List Vl} {i : Nat} {u : Vl}, evL vs gs cols rows l = .ok ks → ks[i]? = some u → ∃ y, l[i]? = some y ∧ evX vs gs cols rows y = .ok u
  | [], ks, i, u, h, hi => by simp [evL] at h; subst h; simp at hi
  | y :: l, ks, i, u, h, hi => by
    rw [evL] at h
    cases hf : evX vs gs cols rows y with
    | error e1 => rw [hf] at h; cases h
    | ok v1 =>
      rw [hf] at h; simp only at h
      cases hl : evL vs gs cols rows l with
      | error e1 => rw [hl] at h; cases h
      | ok k1 =>
        rw [hl] at h; simp only at h; cases h
        cases i with
        | zero => simp at hi; subst hi; exact ⟨y, rfl, hf⟩
        | succ i => exact (evL_at hl (by simpa using hi)).imp fun z hz => ⟨by simpa using hz.1, hz.2⟩
theorem sound {cols : List Cl} (hck : ∀ c ∈ cols, kok c.kind) (N : Nat) : ∀ (x : Ex) (may : Bool) (rows : List (List Vl)) (v : Vl), SizeOf.sizeOf x ≤ N → WfX x → RowsOK cols rows → (kindX cols may x).2 = 0 → evX vstep gstep cols rows x = .ok v → sndV v ∧ (v.kind = 0 ∨ v.kind = (kindX cols may x).1) := by
  induction N using Nat.strongRecOn with
  | _ N ih =>
  intro x may rows v hN hw hr hk h
  obtain ⟨op, lit, name, kids⟩ := x
  have hkid : ∀ y ∈ kids, ∀ (m : Bool) (rs : List (List Vl)) (u : Vl), RowsOK cols rs → (kindX cols m y).2 = 0 → evX vstep gstep cols rs y = .ok u → sndV u ∧ (u.kind = 0 ∨ u.kind = (kindX cols m y).1) := fun y hy m rs u h1 h2 h3 =>
    ih (SizeOf.sizeOf y) (by have := List.sizeOf_lt_of_mem hy; simp at hN; omega) y m rs u (Nat.le_refl _) (hw.inv.2.2.2 y hy) h1 h2 h3
  clear ih
  rw [kindX_step] at hk ⊢
  have hk0 := kstep_zero hk
  rw [evX] at h
  split at h
  · rename_i e; subst e; cases h
    refine ⟨⟨hw.inv.2.1, hw.inv.2.2.1⟩, .inr ?_⟩
    unfold kstep; rw [if_neg (by simpa using hk0)]; simp [fam]
  split at h
  · rename_i e; subst e; cases h
    unfold kstep at hk ⊢
    rw [if_neg (by simpa using hk0)] at hk ⊢
    simp [fam] at hk ⊢
    have hp : ¬ placeC cols name < 0 := by intro hp; rw [if_pos hp] at hk; simp at hk
    rw [if_neg hp]
    obtain ⟨c, h1, h2, h3⟩ := placeC_at hp
    have h2' : (cols[(placeC cols name).toNat]?.getD ⟨[], 0, 0⟩) = c := by rw [h1]; rfl
    rw [h2']
    cases rows with
    | nil => exact ⟨.zero, .inl rfl⟩
    | cons row rows =>
      have ha := all2_iff.1 (hr.all row (by simp))
      simp
      cases hv : row[(placeC cols name).toNat]? with
      | none => exact ⟨.zero, .inl rfl⟩
      | some u =>
        have := okV_val (ha.2 _ c u h1 hv)
        exact ⟨⟨this.1, hr.num row (by simp) u (List.mem_of_getElem? hv)⟩, this.2⟩
  split at h
  · rename_i e; subst e; cases h
    refine ⟨.num ⟨by omega, by have := hr.len; omega⟩, .inr ?_⟩
    unfold kstep at hk ⊢
    rw [if_neg (by simpa using hk0)] at hk ⊢
    simp [fam] at hk ⊢
    cases may <;> simp at hk ⊢
  split at h
  · rename_i h1 h2 h3 h5
    obtain ⟨k, rfl⟩ := kid1 hw.inv.1 h5 h3
    rw [evG] at h
    obtain ⟨hky, hkk⟩ := kindsX_kid hk0 (i := 0) (x := k) rfl
    have hks : ((kindsX cols (may && decide (¬ fam op = 5)) [k]).1.contains 2 = true) ↔ (kindX cols (may && decide (¬ fam op = 5)) k).1 = 2 := by
      rw [kindsX]; simp only; rw [if_neg (by simpa using hky), kindsX]; simp [eq_comm]
    have hfold := fun hs => foldE_ok (f := fun row => evX vstep gstep cols [row] k) (op := op) (k := (kindX cols (may && decide (¬ fam op = 5)) k).1) hs (l := rows) (out := Vl.zero) (o := v) (fun row hm u hu => hkid k (by simp) _ [row] u (hr.one hm) hky hu) .zero (.inl rfl) h
    have hkk' : (kindsX cols (may && decide (¬ fam op = 5)) [k]).1.getD 0 0 = (kindX cols (may && decide (¬ fam op = 5)) k).1 := by rw [List.getD_eq_getElem?_getD, hkk]; rfl
    unfold kstep at hk ⊢
    rw [if_neg (by simpa using hk0)] at hk ⊢
    rw [if_neg (by omega), if_neg (by omega), if_neg (by omega), if_pos h5] at hk ⊢
    by_cases hsum : op = .sum
    · subst hsum
      by_cases h6 : (!may || (decide (Op.sum = Op.sum) && (kindsX cols (may && decide (¬ fam .sum = 5)) [k]).1.contains 2)) = true
      · rw [if_pos h6] at hk; cases hk
      · rw [if_neg h6]
        simp at h6
        rw [if_neg (by decide)]
        have h7 : ¬ (kindX cols (may && decide (¬ fam .sum = 5)) k).1 = 2 := by
          intro h; have := hks.2 h; simp at this; exact h6.2 this
        have h8 := kindX_kok hck (may && decide (¬ fam .sum = 5)) k (hw.inv.2.2.2 k (by simp))
        have h9 : (kindX cols (may && decide (¬ fam .sum = 5)) k).1 = 0 ∨ (kindX cols (may && decide (¬ fam .sum = 5)) k).1 = 1 := by rcases h8 with h | h | h <;> omega
        obtain ⟨g1, g2⟩ := hfold (fun _ => h9)
        refine ⟨g1, ?_⟩
        show v.kind = 0 ∨ v.kind = 1
        omega
    · have hmm : op = .min ∨ op = .max := by cases op <;> simp_all [fam]
      by_cases h6 : (!may || (decide (op = Op.sum) && (kindsX cols (may && decide (¬ fam op = 5)) [k]).1.contains 2)) = true
      · rw [if_pos h6] at hk; cases hk
      · rw [if_neg h6, if_pos hmm, hkk']
        exact hfold (fun h => absurd h hsum)
  · rename_i h1 h2 h3 h5
    rw [kstep_out h1 h2 h5 hk]
    cases hl : evL vstep gstep cols rows kids with
    | error e => rw [hl] at h; cases h
    | ok ks =>
      rw [hl] at h
      refine vstep_ok (fun u hu => ?_) h
      obtain ⟨i, hi⟩ := List.mem_iff_getElem?.1 hu
      obtain ⟨y, hy, hyu⟩ := evL_at hl hi
      exact (hkid y (List.mem_of_getElem? hy) _ rows u hr (kindsX_kid hk0 hy).1 hyu).1
end V
end Go.Proofs.Ytghgifgmacapcaa
