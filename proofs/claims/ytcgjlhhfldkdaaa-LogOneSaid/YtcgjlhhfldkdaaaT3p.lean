/- Nodes and their bytes, with no program in sight: what is written is read again, what is read was written. -/
namespace Go.Proofs.Ytcgjlhhfldkdaaa
namespace V
/-- a node: its kind, its number, its text, its kids -/
inductive Nd
  | mk (kind : Int) (n : Nat) (s : List UInt8) (kids : List Nd)
namespace Nd
def kind : Nd → Int | mk k _ _ _ => k
def n : Nd → Nat | mk _ n _ _ => n
def s : Nd → List UInt8 | mk _ _ s _ => s
def kids : Nd → List Nd | mk _ _ _ l => l
end Nd
def ndZero : Nd := .mk 0 0 [] []
/-- a number's bytes, the greatest first, none of them 0 ahead -/
def numB (n : Nat) : List UInt8 := if n = 0 then [] else numB (n / 256) ++ [UInt8.ofNat (n % 256)]
termination_by n
decreasing_by omega
/-- a size's bytes -/
def sizeB (n : Nat) : List UInt8 := if n < 128 then [UInt8.ofNat n] else UInt8.ofNat (n % 128 + 128) :: sizeB (n / 128)
termination_by n
decreasing_by omega
mutual
def wr : Nd → List UInt8
  | .mk k n s kids => if k = 0 then 110 :: (sizeB (numB n).length ++ numB n) else if k = 1 then 115 :: (sizeB s.length ++ s) else 108 :: (sizeB kids.length ++ wrs kids)
def wrs : List Nd → List UInt8
  | [] => []
  | x :: l => wr x ++ wrs l
end
def rightB : Nat → Nd → Bool
  | 0, _ => false
  | d + 1, .mk k n s kids => if k = 0 then s.isEmpty && kids.isEmpty else if k = 1 then (n == 0) && kids.isEmpty else if k = 2 then (n == 0) && s.isEmpty && kids.all (rightB d) else false
/-- the number of bytes, the greatest first -/
def beN (l : List UInt8) : Nat := l.foldl (fun x b => x * 256 + b.toNat) 0
def szM : Nat → Nat → Nat → List UInt8 → Option (Nat × List UInt8)
  | 0, _, _, _ => none
  | _ + 1, _, _, [] => none
  | f + 1, i, acc, b :: r => if b.toNat < 128 then (if b.toNat = 0 ∧ i > 0 then none else some (acc + b.toNat * 128 ^ i, r)) else szM f (i + 1) (acc + (b.toNat - 128) * 128 ^ i) r
def rdL (f : List UInt8 → Option (Nd × List UInt8)) : Nat → List UInt8 → Option (List Nd × List UInt8)
  | 0, s => some ([], s)
  | n + 1, s => match f s with
    | none => none
    | some (x, r) => match rdL f n r with
      | none => none
      | some (l, r') => some (x :: l, r')
def rdM : Nat → List UInt8 → Option (Nd × List UInt8)
  | 0, _ => none
  | _ + 1, [] => none
  | d + 1, k :: r => match szM 4 0 0 r with
    | none => none
    | some (n, r) =>
      if k = 110 then (if n > 8 ∨ r.length < n ∨ (n > 0 ∧ r.head? = some 0) then none else some (.mk 0 (beN (r.take n)) [] [], r.drop n))
      else if k = 115 then (if r.length < n then none else some (.mk 1 0 (r.take n) [], r.drop n))
      else if k = 108 then (match rdL (rdM d) n r with
        | none => none
        | some (l, r') => some (.mk 2 0 [] l, r'))
      else none
/-! numbers -/
theorem beN_append (l m : List UInt8) : beN (l ++ m) = m.foldl (fun x b => x * 256 + b.toNat) (beN l) := by simp [beN]
theorem beN_snoc (l : List UInt8) (b : UInt8) : beN (l ++ [b]) = beN l * 256 + b.toNat := by simp [beN]
theorem ofNat_toNat' (n : Nat) (h : n < 256) : (UInt8.ofNat n).toNat = n := by simp; omega
theorem numB_pos {n : Nat} (h : n ≠ 0) : numB n = numB (n / 256) ++ [UInt8.ofNat (n % 256)] := by rw [numB]; simp [h]
theorem numB_zero : numB 0 = [] := by rw [numB]; simp
theorem beN_numB (n : Nat) : beN (numB n) = n := by
  induction n using Nat.strongRecOn with
  | _ n ih =>
    by_cases h : n = 0
    · subst h; rw [numB_zero]; rfl
    · rw [numB_pos h, beN_snoc, ih (n / 256) (by omega), ofNat_toNat' _ (by omega)]; omega
theorem numB_head (n : Nat) : (numB n).head? ≠ some 0 := by
  induction n using Nat.strongRecOn with
  | _ n ih =>
    by_cases h : n = 0
    · subst h; rw [numB_zero]; simp
    · rw [numB_pos h]
      by_cases h2 : n / 256 = 0
      · rw [h2, numB_zero]
        simp only [List.nil_append, List.head?_cons, ne_eq, Option.some.injEq]
        intro e
        have := congrArg UInt8.toNat e
        rw [ofNat_toNat' _ (by omega)] at this
        simp at this; omega
      · have := ih (n / 256) (by omega)
        cases hh : numB (n / 256) with
        | nil =>
          have h3 := beN_numB (n / 256)
          rw [hh] at h3
          exact absurd h3.symm h2
        | cons x l => rw [hh] at this; simpa using this
theorem numB_length (k : Nat) : ∀ n, n < 256 ^ k → (numB n).length ≤ k := by
  induction k with
  | zero => intro n h; have : n = 0 := by simpa using h
            subst this; rw [numB_zero]; simp
  | succ k ih =>
    intro n h
    by_cases h0 : n = 0
    · subst h0; rw [numB_zero]; simp
    · rw [numB_pos h0, List.length_append]
      have := ih (n / 256) (by rw [Nat.pow_succ] at h; omega)
      simp; omega
theorem snocRec {P : List UInt8 → Prop} (h0 : P []) (h1 : ∀ l b, P l → P (l ++ [b])) (l : List UInt8) : P l := by
  rw [← l.reverse_reverse]
  induction l.reverse with
  | nil => exact h0
  | cons x m ih => rw [List.reverse_cons]; exact h1 _ _ ih
theorem beN_lt (l : List UInt8) : beN l < 256 ^ l.length := by
  induction l using snocRec with
  | h0 => simp [beN]
  | h1 l b ih =>
    rw [beN_snoc, List.length_append, List.length_singleton, Nat.pow_succ]
    have := b.toNat_lt
    omega
theorem numB_beN (l : List UInt8) (h : l.head? ≠ some 0) : numB (beN l) = l := by
  induction l using snocRec with
  | h0 => rw [show beN [] = 0 from rfl, numB_zero]
  | h1 l b ih =>
    rw [beN_snoc]
    have hb := b.toNat_lt
    cases l with
    | nil =>
      simp only [List.nil_append, List.head?_cons, ne_eq, Option.some.injEq] at h
      have hb0 : b.toNat ≠ 0 := fun e => h (UInt8.toNat_inj.1 (by simpa using e))
      rw [show beN [] = 0 from rfl]
      rw [numB_pos (by omega), show (0 * 256 + b.toNat) / 256 = 0 by omega, numB_zero, show (0 * 256 + b.toNat) % 256 = b.toNat by omega]
      simp
    | cons x l =>
      have ih' := ih (by simpa using h)
      have hne : beN (x :: l) ≠ 0 := fun e => by rw [e, numB_zero] at ih'; cases ih'
      rw [numB_pos (by omega), show (beN (x :: l) * 256 + b.toNat) / 256 = beN (x :: l) by omega, ih', show (beN (x :: l) * 256 + b.toNat) % 256 = b.toNat by omega]
      simp
/-! sizes -/
theorem sizeB_small {n : Nat} (h : n < 128) : sizeB n = [UInt8.ofNat n] := by rw [sizeB]; simp [h]
theorem sizeB_big {n : Nat} (h : ¬ n < 128) : sizeB n = UInt8.ofNat (n % 128 + 128) :: sizeB (n / 128) := by rw [sizeB]; simp [h]
theorem szM_sizeB : ∀ (f i acc n : Nat) (r : List UInt8), n < 128 ^ (f + 1) → (i > 0 → n ≠ 0) → szM (f + 1) i acc (sizeB n ++ r) = some (acc + n * 128 ^ i, r)
  | 0, i, acc, n, r, h, h0 => by
    have hn : n < 128 := by simpa using h
    rw [sizeB_small hn]
    simp only [List.cons_append, List.nil_append, szM]
    rw [ofNat_toNat' _ (by omega), if_pos hn, if_neg (by rintro ⟨e, hi⟩; exact h0 hi e)]
  | f + 1, i, acc, n, r, h, h0 => by
    by_cases hn : n < 128
    · rw [sizeB_small hn]
      simp only [List.cons_append, List.nil_append, szM]
      rw [ofNat_toNat' _ (by omega), if_pos hn, if_neg (by rintro ⟨e, hi⟩; exact h0 hi e)]
    · rw [sizeB_big hn]
      rw [List.cons_append, szM]
      rw [ofNat_toNat' _ (by omega), if_neg (by omega)]
      rw [szM_sizeB f (i + 1) _ (n / 128) r (by rw [Nat.pow_succ] at h; omega) (fun _ => by omega)]
      congr 2
      rw [Nat.pow_succ, Nat.add_sub_cancel, Nat.add_assoc]
      congr 1
      have : n = n % 128 + 128 * (n / 128) := by omega
      generalize hp : 128 ^ i = p
      conv => rhs; rw [this]
      rw [Nat.add_mul]
      congr 1
      rw [Nat.mul_comm p 128, ← Nat.mul_assoc, Nat.mul_comm (n / 128) 128]
/-- what is read as a size is that size's bytes -/
theorem szM_inv : ∀ (f i acc : Nat) (s : List UInt8) (n : Nat) (r : List UInt8), szM f i acc s = some (n, r) → ∃ m, n = acc + m * 128 ^ i ∧ s = sizeB m ++ r ∧ m < 128 ^ f ∧ (i > 0 → m ≠ 0)
  | 0, i, acc, s, n, r, h => by cases h
  | f + 1, i, acc, [], n, r, h => by cases h
  | f + 1, i, acc, b :: s, n, r, h => by
    rw [szM] at h
    split at h
    · rename_i hb
      split at h
      · cases h
      · rename_i h0
        simp only [Option.some.injEq, Prod.mk.injEq] at h
        obtain ⟨rfl, rfl⟩ := h
        refine ⟨b.toNat, rfl, by rw [sizeB_small hb]; simp, ?_, fun hi e => h0 ⟨e, hi⟩⟩
        have : 1 ≤ 128 ^ f := Nat.one_le_pow _ _ (by omega)
        rw [Nat.pow_succ]; omega
    · rename_i hb
      obtain ⟨m, h1, h2, h3, h4⟩ := szM_inv f (i + 1) _ s n r h
      have hbl := b.toNat_lt
      have hm := h4 (by omega)
      refine ⟨(b.toNat - 128) + 128 * m, ?_, ?_, by rw [Nat.pow_succ]; omega, fun _ => by omega⟩
      · rw [h1, Nat.pow_succ, Nat.add_assoc]
        congr 1
        generalize 128 ^ i = p
        rw [Nat.add_mul]
        congr 1
        rw [Nat.mul_comm p 128, ← Nat.mul_assoc, Nat.mul_comm m 128]
      · rw [sizeB_big (by omega), show (b.toNat - 128 + 128 * m) % 128 + 128 = b.toNat by omega, show (b.toNat - 128 + 128 * m) / 128 = m by omega, List.cons_append, ← h2]
        simp
theorem szM_size {n : Nat} {r : List UInt8} (h : n < 268435456) : szM 4 0 0 (sizeB n ++ r) = some (n, r) := by
  have := szM_sizeB 3 0 0 n r (by simpa using h) (by simp)
  simpa using this
theorem szM_of {s r : List UInt8} {n : Nat} (h : szM 4 0 0 s = some (n, r)) : s = sizeB n ++ r ∧ n < 268435456 := by
  obtain ⟨m, h1, h2, h3, _⟩ := szM_inv 4 0 0 s n r h
  have e : n = m := by simpa using h1
  subst e
  exact ⟨h2, by simpa using h3⟩
theorem sizeB_ne (n : Nat) : 1 ≤ (sizeB n).length := by
  by_cases h : n < 128
  · rw [sizeB_small h]; simp
  · rw [sizeB_big h]; simp
/-! lists -/
theorem wr_len (x : Nd) : 2 ≤ (wr x).length := by
  cases x with | mk k n s l =>
  have h1 := sizeB_ne (numB n).length
  have h2 := sizeB_ne s.length
  have h3 := sizeB_ne l.length
  rw [wr]
  split
  · simp; omega
  · split <;> simp <;> omega
theorem wrs_len : ∀ l : List Nd, 2 * l.length ≤ (wrs l).length
  | [] => by simp
  | x :: l => by rw [wrs]; have := wr_len x; have := wrs_len l; simp; omega
/-- a node's numbers are as a node has them -/
inductive OkN : Nd → Prop
  | mk {k : Int} {n : Nat} {s : List UInt8} {l : List Nd} : n < 18446744073709551616 → (∀ x ∈ l, OkN x) → OkN (.mk k n s l)
theorem rdL_wrs {d : Nat} (ih : ∀ (x : Nd) (rest : List UInt8), OkN x → rightB d x = true → (wr x).length < 268435456 → rdM d (wr x ++ rest) = some (x, rest)) :
    ∀ (l : List Nd) (rest : List UInt8), (∀ x ∈ l, OkN x) → l.all (rightB d) = true → (wrs l).length < 268435456 → rdL (rdM d) l.length (wrs l ++ rest) = some (l, rest)
  | [], rest, _, _, _ => by simp [wrs, rdL]
  | x :: l, rest, ho, hr, hl => by
    rw [wrs] at hl ⊢
    simp only [List.length_append] at hl
    simp only [List.all_cons, Bool.and_eq_true] at hr
    rw [List.append_assoc, List.length_cons, rdL, ih x _ (ho x (by simp)) hr.1 (by omega)]
    simp only
    rw [rdL_wrs ih l rest (fun y hy => ho y (by simp [hy])) hr.2 (by omega)]
theorem rd_wr : ∀ (d : Nat) (x : Nd) (rest : List UInt8), OkN x → rightB d x = true → (wr x).length < 268435456 → rdM d (wr x ++ rest) = some (x, rest) := by
  intro d
  induction d with
  | zero => intro x rest _ h; simp [rightB] at h
  | succ d ih =>
    intro x rest ho hr hl
    cases ho with
    | mk hn hk =>
    rename_i k n s l
    simp only [rightB] at hr
    rw [wr] at hl ⊢
    by_cases h0 : k = 0
    · subst h0
      simp only [if_true] at hr hl ⊢
      simp only [Bool.and_eq_true, List.isEmpty_iff] at hr
      obtain ⟨rfl, rfl⟩ := hr
      simp only [List.length_cons, List.length_append] at hl
      rw [List.cons_append, List.append_assoc, rdM, szM_size (by omega)]
      have h8 : (numB n).length ≤ 8 := numB_length 8 n (by omega)
      simp only [if_true]
      rw [if_neg (by
        rintro (h | h | h)
        · omega
        · simp at h; omega
        · have := numB_head n
          cases hb : numB n with
          | nil => rw [hb] at h; simp at h
          | cons b l => rw [hb] at h this; simp at h this; exact this h)]
      simp [beN_numB]
    · by_cases h1 : k = 1
      · subst h1
        simp only [h0, if_false, if_true] at hr hl ⊢
        simp only [Bool.and_eq_true, List.isEmpty_iff, beq_iff_eq] at hr
        obtain ⟨rfl, rfl⟩ := hr
        simp only [List.length_cons, List.length_append] at hl
        rw [List.cons_append, List.append_assoc, rdM, szM_size (by omega)]
        simp
      · by_cases h2 : k = 2
        · subst h2
          simp only [h0, h1, if_false, if_true] at hr hl ⊢
          simp only [Bool.and_eq_true, List.isEmpty_iff, beq_iff_eq] at hr
          obtain ⟨⟨rfl, rfl⟩, hr⟩ := hr
          simp only [List.length_cons, List.length_append] at hl
          have := wrs_len l
          rw [List.cons_append, List.append_assoc, rdM, szM_size (by omega)]
          simp only
          rw [if_neg (by decide), if_neg (by decide), if_pos trivial, rdL_wrs ih l rest hk hr (by omega)]
        · simp [h0, h1, h2] at hr
theorem rdL_inv {d : Nat} (ih : ∀ (s : List UInt8) (x : Nd) (r : List UInt8), rdM d s = some (x, r) → s = wr x ++ r ∧ rightB d x = true ∧ OkN x) :
    ∀ (n : Nat) (s : List UInt8) (l : List Nd) (r : List UInt8), rdL (rdM d) n s = some (l, r) → l.length = n ∧ s = wrs l ++ r ∧ l.all (rightB d) = true ∧ (∀ x ∈ l, OkN x)
  | 0, s, l, r, h => by simp only [rdL, Option.some.injEq, Prod.mk.injEq] at h; obtain ⟨rfl, rfl⟩ := h; simp [wrs]
  | n + 1, s, l, r, h => by
    rw [rdL] at h
    cases h1 : rdM d s with
    | none => rw [h1] at h; cases h
    | some q =>
      obtain ⟨x, r1⟩ := q
      rw [h1] at h
      simp only at h
      cases h2 : rdL (rdM d) n r1 with
      | none => rw [h2] at h; cases h
      | some q =>
        obtain ⟨l', r2⟩ := q
        rw [h2] at h
        simp only [Option.some.injEq, Prod.mk.injEq] at h
        obtain ⟨rfl, rfl⟩ := h
        obtain ⟨a1, a2, a3⟩ := ih _ _ _ h1
        obtain ⟨b1, b2, b3, b4⟩ := rdL_inv ih n r1 l' r2 h2
        refine ⟨by simp [b1], by rw [wrs, List.append_assoc, ← b2, a1], by simp [a2, b3], fun y hy => ?_⟩
        rcases List.mem_cons.1 hy with rfl | hy
        · exact a3
        · exact b4 y hy
theorem wr_rd : ∀ (d : Nat) (s : List UInt8) (x : Nd) (r : List UInt8), rdM d s = some (x, r) → s = wr x ++ r ∧ rightB d x = true ∧ OkN x := by
  intro d
  induction d with
  | zero => intro s x r h; cases h
  | succ d ih =>
    intro s x r h
    cases s with
    | nil => cases h
    | cons k s =>
      rw [rdM] at h
      cases hz : szM 4 0 0 s with
      | none => rw [hz] at h; cases h
      | some q =>
        obtain ⟨n, s'⟩ := q
        rw [hz] at h
        obtain ⟨rfl, hn⟩ := szM_of hz
        simp only at h
        split at h
        · rename_i hk
          subst hk
          split at h
          · cases h
          · rename_i hc
            simp only [Option.some.injEq, Prod.mk.injEq] at h
            obtain ⟨rfl, rfl⟩ := h
            have hl : ¬ n > 8 ∧ ¬ s'.length < n ∧ ¬ (n > 0 ∧ s'.head? = some 0) := ⟨fun e => hc (.inl e), fun e => hc (.inr (.inl e)), fun e => hc (.inr (.inr e))⟩
            have htl : (s'.take n).length = n := by rw [List.length_take]; omega
            have hnb : numB (beN (s'.take n)) = s'.take n := numB_beN _ (by
              intro e
              cases s' with
              | nil => simp at e
              | cons b m => cases n with
                | zero => simp at e
                | succ n => simp at e; exact hl.2.2 ⟨by omega, by simp [e]⟩)
            refine ⟨?_, by simp [rightB], .mk ?_ (by simp)⟩
            · rw [wr, if_pos rfl, hnb, htl, List.cons_append, List.append_assoc, List.take_append_drop]
            · have := beN_lt (s'.take n)
              rw [htl] at this
              have h8 : 256 ^ n ≤ 256 ^ 8 := Nat.pow_le_pow_right (by omega) (by omega)
              omega
        · split at h
          · rename_i hk1 hk
            subst hk
            split at h
            · cases h
            · rename_i hc
              simp only [Option.some.injEq, Prod.mk.injEq] at h
              obtain ⟨rfl, rfl⟩ := h
              have htl : (s'.take n).length = n := by rw [List.length_take]; omega
              refine ⟨?_, by simp [rightB], .mk (by omega) (by simp)⟩
              rw [wr, if_neg (by decide), if_pos rfl, htl, List.cons_append, List.append_assoc, List.take_append_drop]
          · split at h
            · rename_i hk1 hk2 hk
              subst hk
              cases hl : rdL (rdM d) n s' with
              | none => rw [hl] at h; cases h
              | some q =>
                obtain ⟨l, r'⟩ := q
                rw [hl] at h
                simp only [Option.some.injEq, Prod.mk.injEq] at h
                obtain ⟨rfl, rfl⟩ := h
                obtain ⟨a1, a2, a3, a4⟩ := rdL_inv ih n s' l r' hl
                refine ⟨?_, ?_, .mk (by omega) a4⟩
                · rw [wr, if_neg (by decide), if_neg (by decide), a1, List.cons_append, List.append_assoc, ← a2]
                · simp [rightB]; simpa using a3
            · cases h
mutual
def deepN : Nd → Nat
  | .mk _ _ _ l => deepL l + 1
def deepL : List Nd → Nat
  | [] => 0
  | x :: l => max (deepN x) (deepL l)
end
mutual
def plainB : Nd → Bool
  | .mk k n s l => if k = 0 then s.isEmpty && l.isEmpty else if k = 1 then (n == 0) && l.isEmpty else if k = 2 then (n == 0) && s.isEmpty && plainL l else false
def plainL : List Nd → Bool
  | [] => true
  | x :: l => plainB x && plainL l
end
theorem deepL_le {d : Nat} : ∀ {l : List Nd}, deepL l ≤ d ↔ ∀ x ∈ l, deepN x ≤ d
  | [] => by simp [deepL]
  | x :: l => by rw [deepL, Nat.max_le, deepL_le (l := l)]; simp
theorem plainL_iff : ∀ {l : List Nd}, plainL l = true ↔ ∀ x ∈ l, plainB x = true
  | [] => by simp [plainL]
  | x :: l => by rw [plainL, Bool.and_eq_true, plainL_iff (l := l)]; simp
theorem deepL_take {l : List Nd} {i : Nat} {x : Nd} (hx : l[i]? = some x) : deepL (l.take (i + 1)) = max (deepL (l.take i)) (deepN x) := by
  have key : ∀ (m : List Nd), deepL (m ++ [x]) = max (deepL m) (deepN x) := by
    intro m
    induction m with
    | nil => simp [deepL]
    | cons y m ih => rw [List.cons_append, deepL, ih, deepL, Nat.max_assoc]
  rw [List.take_add_one, hx]; exact key _
theorem deepN_pos (x : Nd) : 1 ≤ deepN x := by cases x; rw [deepN]; omega
theorem right_plain : ∀ (d : Nat) (x : Nd), rightB d x = (decide (deepN x ≤ d) && plainB x) := by
  intro d
  induction d with
  | zero => intro x; have := deepN_pos x; simp [rightB]; omega
  | succ d ih =>
    intro x
    cases x with | mk k n s l =>
    rw [rightB, plainB, deepN]
    have hd : (decide (deepL l + 1 ≤ d + 1)) = decide (deepL l ≤ d) := by simp
    rw [hd]
    by_cases h0 : k = 0
    · subst h0; simp
      cases l with
      | nil => simp [deepL]
      | cons => simp
    · by_cases h1 : k = 1
      · subst h1; simp
        cases l with
        | nil => simp [deepL]
        | cons => simp
      · by_cases h2 : k = 2
        · subst h2
          simp only [h0, h1, if_false, if_true]
          have : l.all (rightB d) = (decide (deepL l ≤ d) && plainL l) := by
            rw [Bool.eq_iff_iff, List.all_eq_true, Bool.and_eq_true, decide_eq_true_eq, deepL_le, plainL_iff]
            simp only [ih, Bool.and_eq_true, decide_eq_true_eq]
            exact ⟨fun h => ⟨fun x hx => (h x hx).1, fun x hx => (h x hx).2⟩, fun h x hx => ⟨h.1 x hx, h.2 x hx⟩⟩
          rw [this]
          cases (n == 0 && s.isEmpty) <;> simp
        · simp [h0, h1, h2]
/-- deeper is right too -/
theorem rightB_mono : ∀ (d : Nat) (x : Nd), rightB d x = true → rightB (d + 1) x = true := by
  intro d
  induction d with
  | zero => intro x h; simp [rightB] at h
  | succ d ih =>
    intro x h
    cases x with | mk k n s l =>
    rw [rightB] at h ⊢
    split
    · rw [if_pos ‹_›] at h; exact h
    · rw [if_neg ‹_›] at h
      split
      · rw [if_pos ‹_›] at h; exact h
      · rw [if_neg ‹_›] at h
        split
        · rw [if_pos ‹_›] at h
          simp only [Bool.and_eq_true, List.all_eq_true] at h ⊢
          exact ⟨h.1, fun y hy => ih y (h.2 y hy)⟩
        · rw [if_neg ‹_›] at h; exact h
/-! bits -/
def bitLen (n : Nat) : Nat := if n = 0 then 0 else bitLen (n / 2) + 1
termination_by n
decreasing_by omega
theorem bitLen_zero : bitLen 0 = 0 := by rw [bitLen]; simp
theorem bitLen_pos {n : Nat} (h : n ≠ 0) : bitLen n = bitLen (n / 2) + 1 := by rw [bitLen]; simp [h]
theorem bitLen_shift : ∀ (k n : Nat), 2 ^ k ≤ n → bitLen n = k + bitLen (n / 2 ^ k)
  | 0, n, _ => by simp
  | k + 1, n, h => by
    rw [Nat.pow_succ] at h
    have hp : 1 ≤ 2 ^ k := Nat.one_le_two_pow
    rw [bitLen_pos (by omega), bitLen_shift k (n / 2) (by omega), Nat.div_div_eq_div_mul, Nat.pow_succ, Nat.mul_comm 2]
    omega
theorem bitLen_le : ∀ (k n : Nat), n < 2 ^ k → bitLen n ≤ k
  | 0, n, h => by have : n = 0 := by simpa using h
                  subst this; rw [bitLen_zero]; exact Nat.le_refl _
  | k + 1, n, h => by
    by_cases h0 : n = 0
    · subst h0; rw [bitLen_zero]; omega
    · rw [bitLen_pos h0]
      have := bitLen_le k (n / 2) (by rw [Nat.pow_succ] at h; omega)
      omega
theorem numB_bits (n : Nat) : (numB n).length = (bitLen n + 7) / 8 := by
  induction n using Nat.strongRecOn with
  | _ n ih =>
    by_cases h0 : n = 0
    · subst h0; rw [numB_zero, bitLen_zero]; rfl
    · rw [numB_pos h0, List.length_append, ih (n / 256) (by omega)]
      by_cases h1 : n < 256
      · have h2 : n / 256 = 0 := by omega
        have h3 := bitLen_le 8 n (by simpa using h1)
        have h4 : 1 ≤ bitLen n := by rw [bitLen_pos h0]; omega
        rw [h2, bitLen_zero]; simp; omega
      · have := bitLen_shift 8 n (by simp; omega)
        simp at this
        simp; omega
theorem numB_get (n : Nat) : ∀ i, i < (numB n).length → (numB n)[i]? = some (UInt8.ofNat (n / 256 ^ ((numB n).length - 1 - i) % 256)) := by
  induction n using Nat.strongRecOn with
  | _ n ih =>
    intro i hi
    by_cases h0 : n = 0
    · subst h0; rw [numB_zero] at hi; simp at hi
    · rw [numB_pos h0] at hi ⊢
      simp only [List.length_append, List.length_singleton] at hi ⊢
      rcases Nat.lt_or_ge i (numB (n / 256)).length with h | h
      · rw [List.getElem?_append_left h, ih (n / 256) (by omega) i h]
        congr 3
        rw [Nat.div_div_eq_div_mul, show (numB (n / 256)).length + 1 - 1 - i = ((numB (n / 256)).length - 1 - i) + 1 by omega, Nat.pow_succ, Nat.mul_comm]
      · have : i = (numB (n / 256)).length := by omega
        subst this
        rw [List.getElem?_append_right (Nat.le_refl _)]
        simp
theorem sizeB_len : ∀ (k n : Nat), n < 128 ^ (k + 1) → (sizeB n).length ≤ k + 1
  | 0, n, h => by rw [sizeB_small (by simpa using h)]; simp
  | k + 1, n, h => by
    by_cases hn : n < 128
    · rw [sizeB_small hn]; simp
    · rw [sizeB_big hn, List.length_cons]
      have := sizeB_len k (n / 128) (by rw [Nat.pow_succ] at h; omega)
      omega
end V
end Go.Proofs.Ytcgjlhhfldkdaaa
