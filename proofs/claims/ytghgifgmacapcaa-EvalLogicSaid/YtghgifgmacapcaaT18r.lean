/- The document's value: what it needs, plain. -/
import Derived.Test.YtghgifgmacapcaaT18q
set_option linter.unusedSimpArgs false
set_option linter.unusedVariables false
namespace Go.Proofs.Ytghgifgmacapcaa
open Go.RowKit
namespace V
set_option maxHeartbeats 4000000
def err3 (e : Int) : Prop := e = 26 ∨ e = 27 ∨ e = 28
theorem num64_e {n e : Int} (h : num64 n = .error e) : err3 e := by
  unfold num64 at h
  split at h
  · cases h
  · cases h; exact .inl rfl
theorem reckV_e {op : Op} {a b e : Int} (h : reckV op a b = .error e) : err3 e := by
  unfold reckV at h
  split at h
  · exact num64_e h
  · exact num64_e h
  · exact num64_e h
  · split at h
    · cases h; exact .inr (.inl rfl)
    · cases h
  · split at h
    · cases h; exact .inr (.inl rfl)
    · exact num64_e h
theorem numV_e {r : Except Int Int} {e : Int} (h : numV r = .error e) : r = .error e := by
  cases r with
  | ok n => cases h
  | error e => cases h; rfl
theorem vstep_e {op : Op} {ks : List Vl} {e : Int} (h : vstep op ks = .error e) : err3 e := by
  unfold vstep at h
  dsimp only at h
  split at h
  · cases h
  split at h
  · cases h
  split at h
  · cases h
  split at h
  · cases h
  split at h
  · exact num64_e (numV_e h)
  split at h
  · split at h
    · cases h
    · cases h; exact .inr (.inr rfl)
  split at h
  · cases h
  · exact reckV_e (numV_e h)
theorem gstep_e {op : Op} {out v : Vl} {e : Int} (h : gstep op out v = .error e) : err3 e := by
  unfold gstep at h
  split at h
  · cases h
  split at h
  · cases h
  split at h
  · split at h
    · cases h
    · rename_i h1; cases h; exact num64_e h1
  split at h
  · cases h
  · cases h
theorem foldE_e {α : Type} {f : α → Except Int Vl} {op : Op} : ∀ {l : List α} {out : Vl} {e : Int}, (∀ x ∈ l, ∀ e, f x = .error e → err3 e) → foldE f (gstep op) l out = .error e → err3 e
  | [], out, e, _, h => by rw [foldE] at h; cases h
  | x :: l, out, e, hf, h => by
    rw [foldE] at h
    cases hx : f x with
    | error e1 => rw [hx] at h; cases h; exact hf x (by simp) _ hx
    | ok v =>
      rw [hx] at h; simp only at h
      cases hg : gstep op out v with
      | error e1 => rw [hg] at h; cases h; exact gstep_e hg
      | ok o => rw [hg] at h; exact foldE_e (fun y hy => hf y (by simp [hy])) h
theorem evL_e {cols : List Cl} {rows : List (List Vl)} : ∀ {l : List Ex} {e : Int}, (∀ y ∈ l, ∀ e, evX vstep gstep cols rows y = .error e → err3 e) → evL vstep gstep cols rows l = .error e → err3 e
  | [], e, _, h => by rw [evL] at h; cases h
  | x :: l, e, hf, h => by
    rw [evL] at h
    cases hx : evX vstep gstep cols rows x with
    | error e1 => rw [hx] at h; cases h; exact hf x (by simp) _ hx
    | ok v =>
      rw [hx] at h; simp only at h
      cases hl : evL vstep gstep cols rows l with
      | error e1 => rw [hl] at h; cases h; exact evL_e (fun y hy => hf y (by simp [hy])) hl
      | ok o => rw [hl] at h; cases h
theorem evX_e {cols : List Cl} (N : Nat) : ∀ (x : Ex) (rows : List (List Vl)) (e : Int), SizeOf.sizeOf x ≤ N → evX vstep gstep cols rows x = .error e → err3 e := by
  induction N using Nat.strongRecOn with
  | _ N ih =>
  intro x rows e hN h
  obtain ⟨op, lit, name, kids⟩ := x
  have hkid : ∀ y ∈ kids, ∀ (rs : List (List Vl)) (e : Int), evX vstep gstep cols rs y = .error e → err3 e := fun y hy rs e h3 =>
    ih (SizeOf.sizeOf y) (by have := List.sizeOf_lt_of_mem hy; simp at hN; omega) y rs e (Nat.le_refl _) h3
  clear ih
  rw [evX] at h
  split at h
  · cases h
  split at h
  · cases h
  split at h
  · cases h
  split at h
  · cases kids with
    | nil => rw [evG] at h; cases h
    | cons k l => rw [evG] at h; exact foldE_e (fun row _ e he => hkid k (by simp) _ e he) h
  · cases hl : evL vstep gstep cols rows kids with
    | error e1 => rw [hl] at h; cases h; exact evL_e (fun y hy e he => hkid y hy _ e he) hl
    | ok ks => rw [hl] at h; exact vstep_e h
theorem pairV_split {r : Except Int Vl} (h : ∀ e, r = .error e → err3 e) : ∃ v e, pairV r = tupOf [.agg ⟨valC v⟩, .int .i64 e] ∧ ((e = 0 ∧ r = .ok v) ∨ (e ≠ 0 ∧ r = .error e ∧ v = Vl.zero)) := by
  cases r with
  | ok v => exact ⟨v, 0, rfl, .inl ⟨rfl, rfl⟩⟩
  | error e => exact ⟨Vl.zero, e, rfl, .inr ⟨by rcases h e rfl with rfl | rfl | rfl <;> decide, rfl, rfl⟩⟩
theorem anyNull2 (a b : Vl) : anyNull [a, b] = true ↔ (a.kind = 0 ∨ b.kind = 0) := by simp [anyNull]
/-- what the document's sign is, is the value -/
theorem sign_vstep {op : Op} {a b : Vl} (h : signO op = true) : signV op a b = vstep op [a, b] := by
  have n1 : ¬ op = .isnull := by rintro rfl; cases h
  have n2 : ¬ (op = .or ∨ op = .and) := by rintro (rfl | rfl) <;> cases h
  have n3 : ¬ op = .not := by rintro rfl; cases h
  have n4 : ¬ op = .neg := by rintro rfl; cases h
  unfold signV vstep
  dsimp only
  rw [if_neg n1, if_neg n2]
  by_cases hn : a.kind = 0 ∨ b.kind = 0
  · rw [if_pos hn, if_pos ((anyNull2 a b).2 hn)]
  · rw [if_neg hn, if_neg (fun h => hn ((anyNull2 a b).1 h)), if_neg n3, if_neg n4]
    by_cases hc : op = .cat
    · subst hc; rw [if_neg (by decide), if_pos rfl, if_pos rfl]; rfl
    · rw [if_neg hc, if_neg hc]; rfl
theorem vstep_neg (a : Vl) : vstep .neg [a] = if a.kind = 0 then .ok Vl.zero else numV (num64 (0 - a.n)) := by
  unfold vstep
  dsimp only
  have e : anyNull [a] = decide (a.kind = 0) := by simp [anyNull]
  rw [if_neg (show ¬ Op.neg = .isnull by decide), if_neg (show ¬ (Op.neg = .or ∨ Op.neg = .and) by decide), e]
  by_cases h : a.kind = 0
  · rw [if_pos h, if_pos (decide_eq_true h)]
  · rw [if_neg h, if_neg (show ¬ decide (a.kind = 0) = true by simpa using h), if_neg (show ¬ Op.neg = .not by decide), if_pos rfl]; rfl
theorem sign_neg (a : Vl) : signV .sub ⟨1, 0, []⟩ a = vstep .neg [a] := by
  rw [vstep_neg]
  unfold signV
  by_cases h : a.kind = 0
  · rw [if_pos h, if_pos (.inr h)]
  · rw [if_neg h, if_neg (show ¬ ((1 : Int) = 0 ∨ a.kind = 0) by rintro (h1 | h1); revert h1; decide; exact h h1), if_neg (show ¬ fam .sub = 2 by decide), if_neg (show ¬ Op.sub = .cat by decide), reckV]
theorem cmpI_zero {a b : Int} (h : cmpI a b = 0) : a = b := by
  unfold cmpI at h
  split at h
  · cases h
  · split at h
    · cases h
    · omega
theorem cmpV_zero {a b : Vl} (h : cmpV a b = 0) : a = b := by
  unfold cmpV at h
  simp only [orI] at h
  obtain ⟨ak, an, as1⟩ := a
  obtain ⟨bk, bn, bs1⟩ := b
  by_cases h1 : cmpI ak bk = 0
  · simp only [h1, if_true] at h
    by_cases h2 : cmpI an bn = 0
    · simp only [h2, if_true] at h
      by_cases h3 : Lib.compareBytes as1 bs1 = 0
      · rw [less_cmp] at h3
        have e1 := cmpI_zero h1
        have e2 := cmpI_zero h2
        subst e1 e2
        split at h3
        · cases h3
        · split at h3
          · rename_i h4 h5; subst h5; rfl
          · cases h3
      · rw [if_neg h3] at h; exact absurd h h3
    · rw [if_neg h2] at h; exact absurd h h2
  · rw [if_neg h1] at h; exact absurd h h1
theorem trueV_kind {x : Vl} (h : trueV x = true) : x.kind = 1 := by unfold trueV at h; simp at h; exact h.1
theorem or_ref (x y : Vl) : decV true x y = if trueV x = true ∨ trueV y = true then truthV true else if x.kind = 0 ∨ y.kind = 0 then Vl.zero else truthV false := by
  unfold decV
  have e : ∀ z : Vl, (!decide (z.kind = 0) && decide (trueV z = true)) = trueV z := fun z => by
    cases h : trueV z
    · simp
    · have := trueV_kind h; simp [this]
  rw [e, e]
  by_cases h : trueV x = true ∨ trueV y = true
  · rw [if_pos h, if_pos (by simpa using h)]
  · rw [if_neg h, if_neg (by simpa using h)]; rfl
theorem and_ref {x y : Vl} (hx : x.kind = 0 ∨ x.kind = 1) (hy : y.kind = 0 ∨ y.kind = 1) : decV false x y = if lieV x = true ∨ lieV y = true then truthV false else if x.kind = 0 ∨ y.kind = 0 then Vl.zero else truthV true := by
  unfold decV
  have e : ∀ z : Vl, z.kind = 0 ∨ z.kind = 1 → (!decide (z.kind = 0) && decide (trueV z = false)) = lieV z := fun z hz => by
    unfold trueV lieV
    rcases hz with h | h <;> simp [h]
  rw [e x hx, e y hy]
  by_cases h : lieV x = true ∨ lieV y = true
  · rw [if_pos h, if_pos (by simpa using h)]
  · rw [if_neg h, if_neg (by simpa using h)]; rfl
theorem vstep_or (x y : Vl) : vstep .or [x, y] = .ok (decV true x y) := by
  unfold vstep; dsimp only
  rw [if_neg (show ¬ Op.or = .isnull by decide), if_pos (.inl rfl)]; rfl
theorem vstep_and (x y : Vl) : vstep .and [x, y] = .ok (decV false x y) := by
  unfold vstep; dsimp only
  rw [if_neg (show ¬ Op.and = .isnull by decide), if_pos (.inr rfl)]; rfl
theorem vstep_not {x : Vl} (hx : x.kind = 0 ∨ x.kind = 1) : vstep .not [x] = .ok (if x.kind = 0 then Vl.zero else truthV (decide (x.n = 0))) := by
  unfold vstep; dsimp only
  have e : anyNull [x] = decide (x.kind = 0) := by simp [anyNull]
  rw [if_neg (show ¬ Op.not = .isnull by decide), if_neg (show ¬ (Op.not = .or ∨ Op.not = .and) by decide), e]
  by_cases h : x.kind = 0
  · rw [if_pos h, if_pos (decide_eq_true h)]
  · have h1 : x.kind = 1 := hx.resolve_left h
    rw [if_neg h, if_neg (show ¬ decide (x.kind = 0) = true by simpa using h), if_pos rfl]
    show Except.ok (truthV (!trueV x)) = _
    unfold trueV; simp [h1]
theorem vstep_isnull (x : Vl) : vstep .isnull [x] = .ok (truthV (decide (x.kind = 0))) := by
  unfold vstep; dsimp only
  rw [if_pos rfl]; simp [anyNull]
/-- conditions' kids are no texts -/
theorem cond_kids {cols : List Cl} (hck : ∀ c ∈ cols, kok c.kind) {op : Op} {lit : Vl} {name : Bs} {kids : List Ex} {may : Bool} {rows : List (List Vl)} {ks : List Vl} (hw : WfX (.mk op lit name kids)) (h1 : fam op = 1) (hro : RowsOK cols rows)
    (hkk : (kstep cols may op lit name (kindsX cols (may && decide (¬ fam op = 5)) kids)).2 = 0) (hev : evL vstep gstep cols rows kids = .ok ks) : ∀ u ∈ ks, u.kind = 0 ∨ u.kind = 1 := fun u hu => by
  have hk0 := kstep_zero hkk
  obtain ⟨i, hi⟩ := List.mem_iff_getElem?.1 hu
  obtain ⟨y, hy, hyu⟩ := evL_at hev hi
  obtain ⟨g1, g2⟩ := kindsX_kid hk0 hy
  have hym := List.mem_of_getElem? hy
  have hs := sound hck _ y _ rows u (Nat.le_refl _) (hw.inv.2.2.2 y hym) hro g1 hyu
  rcases hs.2 with h | h
  · exact .inl h
  · have h8 := kindX_kok hck (may && decide (¬ fam op = 5)) y (hw.inv.2.2.2 y hym)
    have h7 : ¬ (kindX cols (may && decide (¬ fam op = 5)) y).1 = 2 := by
      intro h2
      rw [h2] at g2
      unfold kstep at hkk
      rw [if_neg (by simpa using hk0), if_pos (.inl h1), if_pos (by simpa using List.mem_of_getElem? g2)] at hkk
      cases hkk
    rcases h8 with h9 | h9 | h9
    · exact .inl (h.trans h9)
    · exact .inr (h.trans h9)
    · exact absurd h9 h7
end V
end Go.Proofs.Ytghgifgmacapcaa
