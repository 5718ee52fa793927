/- Parts that the texts behind stand on: T3p, T3a, T3b, T3c, T3d, T3e, T3f, T3g, T8p, V18, V19, V20, T8a, T8b, T8c, T8d. -/
import Derived.Test.YtenfjpigffjgmaaGreatWL11Lone0
import Derived.Test.YtenfjpigffjgmaaGreatProg
import Derived.KernelRfl
import Derived.Defers
import Derived.Recover
import Derived.Laws.StructEq
namespace Go.Proofs.YtenfjpigffjgmaaGreat
namespace V
inductive Nd
  | mk (kind : Int) (n : Nat) (s : List UInt8) (kids : List Nd)
namespace Nd
def kind : Nd → Int | mk k _ _ _ => k
def n : Nd → Nat | mk _ n _ _ => n
def s : Nd → List UInt8 | mk _ _ s _ => s
def kids : Nd → List Nd | mk _ _ _ l => l
end Nd
def ndZero : Nd := .mk 0 0 [] []
def numB (n : Nat) : List UInt8 := if n = 0 then [] else numB (n / 256) ++ [UInt8.ofNat (n % 256)]
termination_by n
decreasing_by omega
def sizeB (n : Nat) : List UInt8 := if n < 128 then [UInt8.ofNat n] else UInt8.ofNat (n % 128 + 128) :: sizeB (n / 128)
termination_by n
decreasing_by omega
mutual
def wr : Nd → List UInt8
  | .mk k n s kids => if k = 0 then 110 :: (sizeB (numB n).length ++ numB n) else if k = 1 then 115 :: (sizeB s.length ++ s) else 108 :: (sizeB kids.length ++ wrs kids)
def wrs : List Nd → List UInt8
  | [] => []
  | x :: l => wr x ++ wrs l
end
def rightB : Nat → Nd → Bool
  | 0, _ => false
  | d + 1, .mk k n s kids => if k = 0 then s.isEmpty && kids.isEmpty else if k = 1 then (n == 0) && kids.isEmpty else if k = 2 then (n == 0) && s.isEmpty && kids.all (rightB d) else false
def beN (l : List UInt8) : Nat := l.foldl (fun x b => x * 256 + b.toNat) 0
def szM : Nat → Nat → Nat → List UInt8 → Option (Nat × List UInt8)
  | 0, _, _, _ => none
  | _ + 1, _, _, [] => none
  | f + 1, i, acc, b :: r => if b.toNat < 128 then (if b.toNat = 0 ∧ i > 0 then none else some (acc + b.toNat * 128 ^ i, r)) else szM f (i + 1) (acc + (b.toNat - 128) * 128 ^ i) r
def rdL (f : List UInt8 → Option (Nd × List UInt8)) : Nat → List UInt8 → Option (List Nd × List UInt8)
  | 0, s => some ([], s)
  | n + 1, s => match f s with
    | none => none
    | some (x, r) => match rdL f n r with
      | none => none
      | some (l, r') => some (x :: l, r')
def rdM : Nat → List UInt8 → Option (Nd × List UInt8)
  | 0, _ => none
  | _ + 1, [] => none
  | d + 1, k :: r => match szM 4 0 0 r with
    | none => none
    | some (n, r) =>
      if k = 110 then (if n > 8 ∨ r.length < n ∨ (n > 0 ∧ r.head? = some 0) then none else some (.mk 0 (beN (r.take n)) [] [], r.drop n))
      else if k = 115 then (if r.length < n then none else some (.mk 1 0 (r.take n) [], r.drop n))
      else if k = 108 then (match rdL (rdM d) n r with
        | none => none
        | some (l, r') => some (.mk 2 0 [] l, r'))
      else none
theorem beN_snoc (l : List UInt8) (b : UInt8) : beN (l ++ [b]) = beN l * 256 + b.toNat := by simp [beN]
theorem ofNat_toNat' (n : Nat) (h : n < 256) : (UInt8.ofNat n).toNat = n := by simp; omega
theorem numB_pos {n : Nat} (h : n ≠ 0) : numB n = numB (n / 256) ++ [UInt8.ofNat (n % 256)] := by rw [numB]; simp [h]
theorem numB_zero : numB 0 = [] := by rw [numB]; simp
theorem beN_numB (n : Nat) : beN (numB n) = n := by
  induction n using Nat.strongRecOn with
  | _ n ih =>
    by_cases h : n = 0
    · subst h; rw [numB_zero]; rfl
    · rw [numB_pos h, beN_snoc, ih (n / 256) (by omega), ofNat_toNat' _ (by omega)]; omega
theorem numB_head (n : Nat) : (numB n).head? ≠ some 0 := by
  induction n using Nat.strongRecOn with
  | _ n ih =>
    by_cases h : n = 0
    · subst h; rw [numB_zero]; simp
    · rw [numB_pos h]
      by_cases h2 : n / 256 = 0
      · rw [h2, numB_zero]
        simp only [List.nil_append, List.head?_cons, ne_eq, Option.some.injEq]
        intro e
        have := congrArg UInt8.toNat e
        rw [ofNat_toNat' _ (by omega)] at this
        simp at this; omega
      · have := ih (n / 256) (by omega)
        cases hh : numB (n / 256) with
        | nil =>
          have h3 := beN_numB (n / 256)
          rw [hh] at h3
          exact absurd h3.symm h2
        | cons x l => rw [hh] at this; simpa using this
theorem numB_length (k : Nat) : ∀ n, n < 256 ^ k → (numB n).length ≤ k := by
  induction k with
  | zero => intro n h; have : n = 0 := by simpa using h
            subst this; rw [numB_zero]; simp
  | succ k ih =>
    intro n h
    by_cases h0 : n = 0
    · subst h0; rw [numB_zero]; simp
    · rw [numB_pos h0, List.length_append]
      have := ih (n / 256) (by rw [Nat.pow_succ] at h; omega)
      simp; omega
theorem snocRec {P : List UInt8 → Prop} (h0 : P []) (h1 : ∀ l b, P l → P (l ++ [b])) (l : List UInt8) : P l := by
  rw [← l.reverse_reverse]
  induction l.reverse with
  | nil => exact h0
  | cons x m ih => rw [List.reverse_cons]; exact h1 _ _ ih
theorem beN_lt (l : List UInt8) : beN l < 256 ^ l.length := by
  induction l using snocRec with
  | h0 => simp [beN]
  | h1 l b ih =>
    rw [beN_snoc, List.length_append, List.length_singleton, Nat.pow_succ]
    have := b.toNat_lt
    omega
theorem sizeB_small {n : Nat} (h : n < 128) : sizeB n = [UInt8.ofNat n] := by rw [sizeB]; simp [h]
theorem sizeB_big {n : Nat} (h : ¬ n < 128) : sizeB n = UInt8.ofNat (n % 128 + 128) :: sizeB (n / 128) := by rw [sizeB]; simp [h]
theorem szM_sizeB : ∀ (f i acc n : Nat) (r : List UInt8), n < 128 ^ (f + 1) → (i > 0 → n ≠ 0) → szM (f + 1) i acc (sizeB n ++ r) = some (acc + n * 128 ^ i, r)
  | 0, i, acc, n, r, h, h0 => by
    have hn : n < 128 := by simpa using h
    rw [sizeB_small hn]
    simp only [List.cons_append, List.nil_append, szM]
    rw [ofNat_toNat' _ (by omega), if_pos hn, if_neg (by rintro ⟨e, hi⟩; exact h0 hi e)]
  | f + 1, i, acc, n, r, h, h0 => by
    by_cases hn : n < 128
    · rw [sizeB_small hn]
      simp only [List.cons_append, List.nil_append, szM]
      rw [ofNat_toNat' _ (by omega), if_pos hn, if_neg (by rintro ⟨e, hi⟩; exact h0 hi e)]
    · rw [sizeB_big hn]
      rw [List.cons_append, szM]
      rw [ofNat_toNat' _ (by omega), if_neg (by omega)]
      rw [szM_sizeB f (i + 1) _ (n / 128) r (by rw [Nat.pow_succ] at h; omega) (fun _ => by omega)]
      congr 2
      rw [Nat.pow_succ, Nat.add_sub_cancel, Nat.add_assoc]
      congr 1
      have : n = n % 128 + 128 * (n / 128) := by omega
      generalize hp : 128 ^ i = p
      conv => rhs; rw [this]
      rw [Nat.add_mul]
      congr 1
      rw [Nat.mul_comm p 128, ← Nat.mul_assoc, Nat.mul_comm (n / 128) 128]
theorem szM_inv : ∀ (f i acc : Nat) (s : List UInt8) (n : Nat) (r : List UInt8), szM f i acc s = some (n, r) → ∃ m, n = acc + m * 128 ^ i ∧ s = sizeB m ++ r ∧ m < 128 ^ f ∧ (i > 0 → m ≠ 0)
  | 0, i, acc, s, n, r, h => by cases h
  | f + 1, i, acc, [], n, r, h => by cases h
  | f + 1, i, acc, b :: s, n, r, h => by
    rw [szM] at h
    split at h
    · rename_i hb
      split at h
      · cases h
      · rename_i h0
        simp only [Option.some.injEq, Prod.mk.injEq] at h
        obtain ⟨rfl, rfl⟩ := h
        refine ⟨b.toNat, rfl, by rw [sizeB_small hb]; simp, ?_, fun hi e => h0 ⟨e, hi⟩⟩
        have : 1 ≤ 128 ^ f := Nat.one_le_pow _ _ (by omega)
        rw [Nat.pow_succ]; omega
    · rename_i hb
      obtain ⟨m, h1, h2, h3, h4⟩ := szM_inv f (i + 1) _ s n r h
      have hbl := b.toNat_lt
      have hm := h4 (by omega)
      refine ⟨(b.toNat - 128) + 128 * m, ?_, ?_, by rw [Nat.pow_succ]; omega, fun _ => by omega⟩
      · rw [h1, Nat.pow_succ, Nat.add_assoc]
        congr 1
        generalize 128 ^ i = p
        rw [Nat.add_mul]
        congr 1
        rw [Nat.mul_comm p 128, ← Nat.mul_assoc, Nat.mul_comm m 128]
      · rw [sizeB_big (by omega), show (b.toNat - 128 + 128 * m) % 128 + 128 = b.toNat by omega, show (b.toNat - 128 + 128 * m) / 128 = m by omega, List.cons_append, ← h2]
        simp
theorem szM_size {n : Nat} {r : List UInt8} (h : n < 268435456) : szM 4 0 0 (sizeB n ++ r) = some (n, r) := by
  have := szM_sizeB 3 0 0 n r (by simpa using h) (by simp)
  simpa using this
theorem szM_of {s r : List UInt8} {n : Nat} (h : szM 4 0 0 s = some (n, r)) : s = sizeB n ++ r ∧ n < 268435456 := by
  obtain ⟨m, h1, h2, h3, _⟩ := szM_inv 4 0 0 s n r h
  have e : n = m := by simpa using h1
  subst e
  exact ⟨h2, by simpa using h3⟩
theorem sizeB_ne (n : Nat) : 1 ≤ (sizeB n).length := by
  by_cases h : n < 128
  · rw [sizeB_small h]; simp
  · rw [sizeB_big h]; simp
theorem wr_len (x : Nd) : 2 ≤ (wr x).length := by
  cases x with | mk k n s l =>
  have h1 := sizeB_ne (numB n).length
  have h2 := sizeB_ne s.length
  have h3 := sizeB_ne l.length
  rw [wr]
  split
  · simp; omega
  · split <;> simp <;> omega
theorem wrs_len : ∀ l : List Nd, 2 * l.length ≤ (wrs l).length
  | [] => by simp
  | x :: l => by rw [wrs]; have := wr_len x; have := wrs_len l; simp; omega
inductive OkN : Nd → Prop
  | mk {k : Int} {n : Nat} {s : List UInt8} {l : List Nd} : n < 18446744073709551616 → (∀ x ∈ l, OkN x) → OkN (.mk k n s l)
theorem rdL_wrs {d : Nat} (ih : ∀ (x : Nd) (rest : List UInt8), OkN x → rightB d x = true → (wr x).length < 268435456 → rdM d (wr x ++ rest) = some (x, rest)) :
    ∀ (l : List Nd) (rest : List UInt8), (∀ x ∈ l, OkN x) → l.all (rightB d) = true → (wrs l).length < 268435456 → rdL (rdM d) l.length (wrs l ++ rest) = some (l, rest)
  | [], rest, _, _, _ => by simp [wrs, rdL]
  | x :: l, rest, ho, hr, hl => by
    rw [wrs] at hl ⊢
    simp only [List.length_append] at hl
    simp only [List.all_cons, Bool.and_eq_true] at hr
    rw [List.append_assoc, List.length_cons, rdL, ih x _ (ho x (by simp)) hr.1 (by omega)]
    simp only
    rw [rdL_wrs ih l rest (fun y hy => ho y (by simp [hy])) hr.2 (by omega)]
theorem rd_wr : ∀ (d : Nat) (x : Nd) (rest : List UInt8), OkN x → rightB d x = true → (wr x).length < 268435456 → rdM d (wr x ++ rest) = some (x, rest) := by
  intro d
  induction d with
  | zero => intro x rest _ h; simp [rightB] at h
  | succ d ih =>
    intro x rest ho hr hl
    cases ho with
    | mk hn hk =>
    rename_i k n s l
    simp only [rightB] at hr
    rw [wr] at hl ⊢
    by_cases h0 : k = 0
    · subst h0
      simp only [if_true] at hr hl ⊢
      simp only [Bool.and_eq_true, List.isEmpty_iff] at hr
      obtain ⟨rfl, rfl⟩ := hr
      simp only [List.length_cons, List.length_append] at hl
      rw [List.cons_append, List.append_assoc, rdM, szM_size (by omega)]
      have h8 : (numB n).length ≤ 8 := numB_length 8 n (by omega)
      simp only [if_true]
      rw [if_neg (by
        rintro (h | h | h)
        · omega
        · simp at h; omega
        · have := numB_head n
          cases hb : numB n with
          | nil => rw [hb] at h; simp at h
          | cons b l => rw [hb] at h this; simp at h this; exact this h)]
      simp [beN_numB]
    · by_cases h1 : k = 1
      · subst h1
        simp only [h0, if_false, if_true] at hr hl ⊢
        simp only [Bool.and_eq_true, List.isEmpty_iff, beq_iff_eq] at hr
        obtain ⟨rfl, rfl⟩ := hr
        simp only [List.length_cons, List.length_append] at hl
        rw [List.cons_append, List.append_assoc, rdM, szM_size (by omega)]
        simp
      · by_cases h2 : k = 2
        · subst h2
          simp only [h0, h1, if_false, if_true] at hr hl ⊢
          simp only [Bool.and_eq_true, List.isEmpty_iff, beq_iff_eq] at hr
          obtain ⟨⟨rfl, rfl⟩, hr⟩ := hr
          simp only [List.length_cons, List.length_append] at hl
          have := wrs_len l
          rw [List.cons_append, List.append_assoc, rdM, szM_size (by omega)]
          simp only
          rw [if_neg (by decide), if_neg (by decide), if_pos trivial, rdL_wrs ih l rest hk hr (by omega)]
        · simp [h0, h1, h2] at hr
def bitLen (n : Nat) : Nat := if n = 0 then 0 else bitLen (n / 2) + 1
termination_by n
decreasing_by omega
theorem bitLen_zero : bitLen 0 = 0 := by rw [bitLen]; simp
theorem bitLen_pos {n : Nat} (h : n ≠ 0) : bitLen n = bitLen (n / 2) + 1 := by rw [bitLen]; simp [h]
theorem bitLen_shift : ∀ (k n : Nat), 2 ^ k ≤ n → bitLen n = k + bitLen (n / 2 ^ k)
  | 0, n, _ => by simp
  | k + 1, n, h => by
    rw [Nat.pow_succ] at h
    have hp : 1 ≤ 2 ^ k := Nat.one_le_two_pow
    rw [bitLen_pos (by omega), bitLen_shift k (n / 2) (by omega), Nat.div_div_eq_div_mul, Nat.pow_succ, Nat.mul_comm 2]
    omega
theorem bitLen_le : ∀ (k n : Nat), n < 2 ^ k → bitLen n ≤ k
  | 0, n, h => by have : n = 0 := by simpa using h
                  subst this; rw [bitLen_zero]; exact Nat.le_refl _
  | k + 1, n, h => by
    by_cases h0 : n = 0
    · subst h0; rw [bitLen_zero]; omega
    · rw [bitLen_pos h0]
      have := bitLen_le k (n / 2) (by rw [Nat.pow_succ] at h; omega)
      omega
theorem numB_bits (n : Nat) : (numB n).length = (bitLen n + 7) / 8 := by
  induction n using Nat.strongRecOn with
  | _ n ih =>
    by_cases h0 : n = 0
    · subst h0; rw [numB_zero, bitLen_zero]; rfl
    · rw [numB_pos h0, List.length_append, ih (n / 256) (by omega)]
      by_cases h1 : n < 256
      · have h2 : n / 256 = 0 := by omega
        have h3 := bitLen_le 8 n (by simpa using h1)
        have h4 : 1 ≤ bitLen n := by rw [bitLen_pos h0]; omega
        rw [h2, bitLen_zero]; simp; omega
      · have := bitLen_shift 8 n (by simp; omega)
        simp at this
        simp; omega
theorem numB_get (n : Nat) : ∀ i, i < (numB n).length → (numB n)[i]? = some (UInt8.ofNat (n / 256 ^ ((numB n).length - 1 - i) % 256)) := by
  induction n using Nat.strongRecOn with
  | _ n ih =>
    intro i hi
    by_cases h0 : n = 0
    · subst h0; rw [numB_zero] at hi; simp at hi
    · rw [numB_pos h0] at hi ⊢
      simp only [List.length_append, List.length_singleton] at hi ⊢
      rcases Nat.lt_or_ge i (numB (n / 256)).length with h | h
      · rw [List.getElem?_append_left h, ih (n / 256) (by omega) i h]
        congr 3
        rw [Nat.div_div_eq_div_mul, show (numB (n / 256)).length + 1 - 1 - i = ((numB (n / 256)).length - 1 - i) + 1 by omega, Nat.pow_succ, Nat.mul_comm]
      · have : i = (numB (n / 256)).length := by omega
        subst this
        rw [List.getElem?_append_right (Nat.le_refl _)]
        simp
theorem sizeB_len : ∀ (k n : Nat), n < 128 ^ (k + 1) → (sizeB n).length ≤ k + 1
  | 0, n, h => by rw [sizeB_small (by simpa using h)]; simp
  | k + 1, n, h => by
    by_cases hn : n < 128
    · rw [sizeB_small hn]; simp
    · rw [sizeB_big hn, List.length_cons]
      have := sizeB_len k (n / 128) (by rw [Nat.pow_succ] at h; omega)
      omega
end V
end Go.Proofs.YtenfjpigffjgmaaGreat
set_option linter.unusedSimpArgs false
set_option linter.unusedVariables false
set_option maxRecDepth 100000
namespace Go.Proofs.YtenfjpigffjgmaaGreat
open Go.RowKit
namespace V
def big : Nat := 1000000000000
inductive RepN (R : Hp) : Nd → List Value → Prop
  | mk {k : Int} {n : Nat} {s : List UInt8} {l : List Nd} {q : Option Addr} {cap : Nat} (css : List (List Value)) : s.length ≤ big → l.length ≤ big → css.length = l.length → l.length ≤ cap → cap ≤ maxLen →
      (∀ (i : Nat) (x : Nd) (cs : List Value), l[i]? = some x → css[i]? = some cs → cs.length = 4) → (∀ (i : Nat) (x : Nd) (cs : List Value), l[i]? = some x → css[i]? = some cs → RepN R x cs) →
      (l = [] ∨ ∃ b off, q = some ⟨b, off, none⟩ ∧ ∀ (i : Nat) (cs : List Value) (j : Nat) (u : Value), css[i]? = some cs → cs[j]? = some u → Hp.cell R ⟨b, off + i * 4 + j, none⟩ = some u) →
      RepN R (.mk k n s l) [.int .i64 k, .int .u64 (n : Int), .string (str s), .slice q l.length cap]
def RepL (R : Hp) (l : List Nd) (q : Option Addr) (cap : Nat) : Prop := ∃ css : List (List Value), l.length ≤ big ∧ css.length = l.length ∧ l.length ≤ cap ∧ cap ≤ maxLen ∧
  (∀ (i : Nat) (x : Nd) (cs : List Value), l[i]? = some x → css[i]? = some cs → cs.length = 4) ∧ (∀ (i : Nat) (x : Nd) (cs : List Value), l[i]? = some x → css[i]? = some cs → RepN R x cs) ∧
  (l = [] ∨ ∃ b off, q = some ⟨b, off, none⟩ ∧ ∀ (i : Nat) (cs : List Value) (j : Nat) (u : Value), css[i]? = some cs → cs[j]? = some u → Hp.cell R ⟨b, off + i * 4 + j, none⟩ = some u)
theorem RepN.mono {R R' : Hp} (hR : R.le R') {x : Nd} {cs : List Value} (h : RepN R x cs) : RepN R' x cs := by
  induction h with
  | mk css h1 h2 h3 h4 h5 h6 _ h8 ih =>
    refine .mk css h1 h2 h3 h4 h5 h6 ih ?_
    rcases h8 with h | ⟨b, off, hq, hc⟩
    · exact .inl h
    · exact .inr ⟨b, off, hq, fun i cs j u hi hj => by
        have e := hc i cs j u hi hj
        unfold Hp.cell at *
        cases hb : R b with
        | none => simp [hb] at e
        | some o => simp only [hb] at e; simp only [hR _ _ hb]; exact e⟩
theorem RepN.inv {R : Hp} {x : Nd} {cs : List Value} (h : RepN R x cs) : ∃ k n s l q cap, x = .mk k n s l ∧ cs = [.int .i64 k, .int .u64 ((n : Nat) : Int), .string (str s), .slice q l.length cap] ∧ s.length ≤ big ∧ RepL R l q cap := by
  cases h with
  | mk css h1 h2 h3 h4 h5 h6 h7 h8 => exact ⟨_, _, _, _, _, _, rfl, rfl, h1, css, h2, h3, h4, h5, h6, h7, h8⟩
theorem RepL.node {R : Hp} {k : Int} {n : Nat} {s : List UInt8} {l : List Nd} {q : Option Addr} {cap : Nat} (hs : s.length ≤ big) (h : RepL R l q cap) : RepN R (.mk k n s l) [.int .i64 k, .int .u64 (n : Int), .string (str s), .slice q l.length cap] := by
  obtain ⟨css, h2, h3, h4, h5, h6, h7, h8⟩ := h
  exact .mk css hs h2 h3 h4 h5 h6 h7 h8
theorem RepL.nil (R : Hp) : RepL R [] none 0 := ⟨[], by simp, rfl, by simp, by simp [maxLen], by simp, by simp, .inl rfl⟩
theorem RepL.at {R : Hp} {l : List Nd} {q : Option Addr} {cap : Nat} (h : RepL R l q cap) {i : Nat} {x : Nd} (hx : l[i]? = some x) : ∃ b off cs, q = some ⟨b, off, none⟩ ∧ cs.length = 4 ∧ RepN R x cs ∧ ∀ (j : Nat) u, cs[j]? = some u → Hp.cell R ⟨b, off + i * 4 + j, none⟩ = some u := by
  obtain ⟨css, h2, h3, h4, h5, h6, h7, h8⟩ := h
  have hi : i < l.length := (List.getElem?_eq_some_iff.1 hx).1
  have hc : css[i]? = some (css[i]'(by omega)) := by simp [h3, hi]
  rcases h8 with rfl | ⟨b, off, hq, hcell⟩
  · simp at hi
  · exact ⟨b, off, css[i]'(by omega), hq, h6 i x _ hx hc, h7 i x _ hx hc, fun j u hj => hcell i _ j u hc hj⟩
set_option maxHeartbeats 1000000
theorem emptyB (l : List Nd) : decide (l = []) = l.isEmpty := by cases l <;> rfl
theorem anyNot (l : List Nd) (f : Nd → Bool) : (l.any fun y => !f y) = !l.all f := by rw [List.all_eq_not_any_not, Bool.not_not]
theorem right1_q {R : Hp} (e bd : Nat) (y : Nd) (cy : List Value) (h : RepN R y cy) (he : e ≤ 20) (hr : QTri Tryz.prog 145 [.agg ⟨cy⟩, .int .i64 (e : Int)] R [] (.bool (rightB e y))) :
    QTri Tryz.prog 151 [.agg ⟨cy⟩, .pointer (some ⟨bd, 0, none⟩)] R [blk bd [.int .i64 ((e + 1 : Nat) : Int)] 3] (.bool (!rightB e y)) := by
  obtain ⟨k, n, s, l, q, cap, rfl, rfl, hs, hl⟩ := h.inv
  refine Tri.q ?_
  refine tri_of Tryz.func151 rfl Tryz.ntmps151 rfl (fun σ F Q hret hend hpan => ?_)
  try simp only [cA, nA]
  refine cj_seq fun K1 hK1 => cj_region ?_
  refine rj_box (wn0 rfl) rfl rfl rfl (fun b2 => ?_)
  refine Ps ?_
  refine rj_nil (hK1 _ _ _ (cj_seq fun K2 hK2 => cj_region ?_))
  first | refine Pa (Lb m150) ?_ | refine Pa (y_loads_slc m150 rfl fd_ rfl rfl om_) ?_
  first | refine Pa (La o3) ?_ | refine Pa (Ls o3) ?_
  first | refine Pa (y_sub64 rfl rfl om_) ?_ | refine Pa (y_sub rfl rfl) ?_
  refine rj_eq 6 rfl (v' := .int .i64 (e : Int)) (by congr 1; omega) ?_
  refine Pa (Ca Tryz.call145 (hr)) ?_
  refine Pa (y_not rfl) ?_
  refine Ps ?_
  refine rj_nil (hK2 _ _ _ (cj_ret (hret _ _ _ ?_)))
  refine Ea Tryz.results151 (.cons (rv_tmp rfl) .nil) [blk bd [.int .i64 ((e + 1 : Nat) : Int)] 3] le_ ?_
  exact ⟨rfl, rfl, rfl⟩
theorem indexFunc_t {R : Hp} (l : List Nd) (q : Option Addr) (cap : Nat) (hl : RepL R l q cap) (bd : Nat) (D : Asn) (p : Nd → Bool)
    (hcall : ∀ x cs, x ∈ l → RepN R x cs → QTri Tryz.prog 151 [.agg ⟨cs⟩, .pointer (some ⟨bd, 0, none⟩)] R [D] (.bool (p x))) :
    Tri Tryz.prog 153 [.slice q l.length cap, .func (.func 151) ⟨[]⟩ ⟨[.pointer (some ⟨bd, 0, none⟩)]⟩] R [D]
      (fun v R' L' => R = R' ∧ (∃ z : Int, v = .int .i64 z ∧ (z ≥ 0 ↔ l.any p = true)) ∧ L' = [D]) := by
  have hlb : l.length ≤ big := hl.choose_spec.1
  unfold big at hlb
  refine tri_of Tryz.func153 rfl Tryz.ntmps153 rfl (fun σ F Q hret hend hpan => ?_)
  try simp only [cA, nA]
  refine cj_seq fun K1 hK1 => cj_region ?_
  refine Ps ?_
  refine rj_nil (hK1 _ _ _ (cj_seq fun K2 hK2 => cj_seq fun K3 hK3 => cj_region ?_))
  refine Pm ?_
  first | refine Pa (y_len_sl Tryz.underlying148 rfl) ?_ | refine Pa (y_len_slc Tryz.underlying148 rfl fd_) ?_
  refine Pm ?_
  refine rj_nil (hK3 _ _ _ (cj_block ?_))
  refine cj_env (E' := (fun (x : Nat) => [(0, .slice q l.length cap), (1, .func (.func 151) ⟨[]⟩ ⟨[.pointer (some ⟨bd, 0, none⟩)]⟩), (7, .int .i64 (l.length : Int)), (8, .int .i64 (x : Int))]) 0) (eC rfl (eC rfl (eC rfl (eC rfl eN)))) ?_
  refine cj_sub (M := (fun (x : Nat) => D :: F) 0) sb_ ?_
  refine cj_loop (fun (x : Nat) => [(0, .slice q l.length cap), (1, .func (.func 151) ⟨[]⟩ ⟨[.pointer (some ⟨bd, 0, none⟩)]⟩), (7, .int .i64 (l.length : Int)), (8, .int .i64 (x : Int))]) (fun (x : Nat) => R) (fun (x : Nat) => D :: F) (fun (x : Nat) => x ≤ l.length ∧ (l.take x).any p = false) (fun (x : Nat) => l.length - x) 0 (⟨by simp, by simp⟩) ?_
  rintro i ⟨hi, hall⟩
  try dsimp only
  refine cj_seq fun K4 hK4 => cj_region ?_
  refine Pa (y_lss rfl rfl) ?_
  refine rj_nil (hK4 _ _ _ (cj_seq fun K5 hK5 => ?_))
  refine cj_cond rfl (fun hc9 => ?_) (fun hc9 => ?_)
  try simp only [dT, dF, nT, nF, tF, fT] at hc9
  refine cj_skip (hK5 _ _ _ (cj_seq fun K7 hK7 => cj_block (cj_seq fun K8 hK8 => cj_region ?_)))
  obtain ⟨x, hx⟩ : ∃ x, l[i]? = some x := ⟨l[i]'(by omega), by simp⟩
  obtain ⟨b, off, cs, rfl, hc4, hrep, hcell⟩ := hl.at hx
  refine Pm ?_
  refine Ps ?_
  refine rj_nil (hK8 _ _ _ (cj_seq fun K9 hK9 => cj_region ?_))
  refine Pm ?_
  refine Pm ?_
  refine Pm ?_
  first | refine Pa (y_indexAddr Tryz.underlying148 Tryz.sizeOf150 rfl rfl om_) ?_ | refine Pa (y_index_slc Tryz.underlying148 Tryz.sizeOf150 rfl rfl fd_ om_) ?_
  refine Pa ((y_loads_ro m150 (vs := cs) hc4 rfl (fun j u hj => by simpa using hcell j u hj))) ?_
  refine Pa (y_callv rfl Tryz.call151 rfl (hcall x cs (List.mem_of_getElem? hx) hrep) sp_) ?_
  refine rj_nil (hK9 _ _ _ ?_)
  refine cj_cond rfl (fun hc16 => ?_) (fun hc16 => ?_)
  try simp only [dT, dF, nT, nF, tF, fT] at hc16
  refine cj_seq fun K11 hK11 => cj_region ?_
  refine Pm ?_
  refine Ps ?_
  refine rj_nil (hK11 _ _ _ (cj_ret (hret _ _ _ ?_)))
  refine Ea Tryz.results153 (.cons (rv_tmp rfl) .nil) [D] le_ ?_
  refine ⟨rfl, ⟨_, rfl, ?_⟩, rfl⟩; simp; exact ⟨x, List.mem_of_getElem? hx, hc16⟩
  try simp only [dT, dF, nT, nF, tF, fT] at hc16
  refine cj_skip (hK7 _ _ _ (cj_region ?_))
  first | refine Pa (y_add64 rfl rfl om_) ?_ | refine Pa (y_add rfl rfl) ?_
  refine Pm ?_
  refine rj_nil ?_
  refine ej_on (q' := roundK _ _ _ _ _ _ _) rfl ?_
  refine ej_round (i + 1) (⟨by omega, by rw [List.take_add_one, hx]; simp [hall, hc16]⟩) (by omega) (eC rfl (eC rfl (eC rfl (eC rfl eN)))) rfl sb_
  try simp only [dT, dF, nT, nF, tF, fT] at hc9
  refine cj_exit (hK2 _ _ _ ?_)
  refine cj_env eN ?_
  refine cj_seq fun K12 hK12 => cj_region ?_
  refine Ps ?_
  refine rj_nil (hK12 _ _ _ (cj_ret (hret _ _ _ ?_)))
  refine Ea Tryz.results153 (.cons (rv_tmp rfl) .nil) [D] le_ ?_
  refine ⟨rfl, ⟨_, rfl, ?_⟩, rfl⟩; rw [List.take_of_length_le (by omega)] at hall; rw [hall]; simp
theorem containsFunc_t {R : Hp} (l : List Nd) (q : Option Addr) (cap : Nat) (hl : RepL R l q cap) (bd : Nat) (D : Asn) (p : Nd → Bool)
    (hcall : ∀ x cs, x ∈ l → RepN R x cs → QTri Tryz.prog 151 [.agg ⟨cs⟩, .pointer (some ⟨bd, 0, none⟩)] R [D] (.bool (p x))) :
    Tri Tryz.prog 150 [.slice q l.length cap, .func (.func 151) ⟨[]⟩ ⟨[.pointer (some ⟨bd, 0, none⟩)]⟩] R [D]
      (fun v R' L' => R = R' ∧ v = .bool (l.any p) ∧ L' = [D]) := by
  refine tri_of Tryz.func150 rfl Tryz.ntmps150 rfl (fun σ F Q hret hend hpan => ?_)
  try simp only [cA, nA]
  refine cj_seq fun K1 hK1 => cj_region ?_
  refine Ps ?_
  refine rj_nil (hK1 _ _ _ (cj_seq fun K2 hK2 => cj_region ?_))
  refine Pm ?_
  refine Pm ?_
  refine Ra Tryz.call153 (indexFunc_t l q cap hl bd D p hcall) ?_
  rintro v R' L' hR ⟨rfl, ⟨z, rfl, hz⟩, rfl⟩
  try simp only [cA, nA]
  refine Pa (y_geq rfl rfl) ?_
  refine rj_eq 8 rfl (v' := .bool (l.any p)) (by congr 1; rw [Bool.eq_iff_iff]; simpa using hz) ?_
  refine Ps ?_
  refine rj_nil (hK2 _ _ _ (cj_ret (hret _ _ _ ?_)))
  refine Ea Tryz.results150 (.cons (rv_tmp rfl) .nil) [D] le_ ?_
  exact ⟨rfl, rfl, rfl⟩
theorem right_q (d : Nat) : ∀ (x : Nd) (cs : List Value) {R : Hp}, RepN R x cs → d ≤ 20 → QTri Tryz.prog 145 [.agg ⟨cs⟩, .int .i64 (d : Int)] R [] (.bool (rightB d x)) := by
  induction d using Nat.strongRecOn with
  | _ d ih =>
  intro x cs R h hd
  obtain ⟨k, n, s, l, q, cap, rfl, rfl, hs, hl⟩ := h.inv
  refine Tri.q ?_
  refine tri_of Tryz.func145 rfl Tryz.ntmps145 rfl (fun σ F Q hret hend hpan => ?_)
  try simp only [cA, nA]
  refine cj_seq fun K1 hK1 => cj_region ?_
  refine rj_box (wn0 rfl) rfl rfl rfl (fun b2 => ?_)
  refine rj_box (wn0 rfl) rfl rfl rfl (fun bd => ?_)
  refine Ps ?_
  refine rj_nil (hK1 _ _ _ (cj_seq fun K2 hK2 => cj_seq fun K3 hK3 => cj_region ?_))
  first | refine Pa (La o3) ?_ | refine Pa (Ls o3) ?_
  refine Pa (y_eql rfl rfl) ?_
  refine rj_nil (hK3 _ _ _ ?_)
  refine cj_cond rfl (fun hc6 => ?_) (fun hc6 => ?_)
  try simp only [dT, dF, nT, nF, tF, fT] at hc6
  refine cj_seq fun K5 hK5 => cj_region ?_
  refine Ps ?_
  refine rj_nil (hK5 _ _ _ (cj_ret (hret _ _ _ ?_)))
  refine Ea Tryz.results145 (.cons (rv_tmp rfl) .nil) [] le_ ?_
  refine ⟨?_, rfl, rfl⟩; obtain rfl : d = 0 := by omega
  simp [rightB, tupOf]
  (try simp only [dT, dF, nT, nF, tF, fT] at hc6); obtain ⟨e, rfl⟩ : ∃ e, d = e + 1 := ⟨d - 1, by omega⟩
  refine cj_skip (hK2 _ _ _ (cj_seq fun K6 hK6 => cj_seq fun K7 hK7 => cj_region ?_))
  refine Pa (Ga Tryz.underlying150 Tryz.sizeOf3) ?_
  first | refine Pa (La o3) ?_ | refine Pa (Ls o3) ?_
  refine rj_nil (hK7 _ _ _ (cj_block (cj_seq fun K8 hK8 => cj_region ?_)))
  refine Pa (y_eql rfl rfl) ?_
  refine Ps ?_
  refine rj_nil (hK8 _ _ _ ?_)
  refine cj_cond rfl (fun hc9 => ?_) (fun hc9 => ?_)
  try simp only [dT, dF, nT, nF, tF, fT] at hc9
  refine cj_seq fun K10 hK10 => cj_region ?_
  refine Pa (Ga Tryz.underlying150 Tryz.sizeOf9) ?_
  first | refine Pa (La o9) ?_ | refine Pa (Ls o9) ?_
  refine Pa (y_seql rfl rfl) ?_
  refine Pm ?_
  refine rj_part 14 rfl (fun hg14 => ?_) (fun hg14 => ?_)
  try simp only [dT, dF, nT, nF, tF, fT] at hg14
  refine Pb (Ga Tryz.underlying150 Tryz.sizeOf148) ?_
  first | refine Pb (La o148) ?_ | refine Pb (Ls o148) ?_
  first | refine Pb (y_len_sl Tryz.underlying148 rfl) ?_ | refine Pb (y_len_slc Tryz.underlying148 rfl fd_) ?_
  refine Pb (y_eql rfl rfl) ?_
  refine Pa (y_pick_t rfl rfl) ?_
  refine Ps ?_
  refine rj_nil (hK10 _ _ _ ?_)
  refine cj_env (eL 4 rfl eN) ?_
  refine cj_ret (hret _ _ _ ?_)
  refine Ea Tryz.results145 (.cons (rv_tmp rfl) .nil) [] le_ ?_
  refine ⟨?_, rfl, rfl⟩; simp_all [rightB, tupOf] <;> first | exact emptyB _ | exact anyNot _ _
  try simp only [dT, dF, nT, nF, tF, fT] at hg14
  refine Pk ?_
  refine Pk ?_
  refine Pk ?_
  refine Pk ?_
  refine Pa (y_pick_f rfl rfl) ?_
  refine Ps ?_
  refine rj_nil (hK10 _ _ _ (cj_ret (hret _ _ _ ?_)))
  refine Ea Tryz.results145 (.cons (rv_tmp rfl) .nil) [] le_ ?_
  refine ⟨?_, rfl, rfl⟩; simp_all [rightB, tupOf] <;> first | exact emptyB _ | exact anyNot _ _
  try simp only [dT, dF, nT, nF, tF, fT] at hc9
  refine cj_seq fun K11 hK11 => cj_region ?_
  refine Pa (y_eql rfl rfl) ?_
  refine Ps ?_
  refine rj_nil (hK11 _ _ _ ?_)
  refine cj_cond rfl (fun hc20 => ?_) (fun hc20 => ?_)
  try simp only [dT, dF, nT, nF, tF, fT] at hc20
  refine cj_seq fun K13 hK13 => cj_region ?_
  refine Pa (Ga Tryz.underlying150 Tryz.sizeOf36) ?_
  first | refine Pa (La o36) ?_ | refine Pa (Ls o36) ?_
  refine Pa (y_eql rfl rfl) ?_
  refine Pm ?_
  refine rj_part 25 rfl (fun hg25 => ?_) (fun hg25 => ?_)
  try simp only [dT, dF, nT, nF, tF, fT] at hg25
  refine Pb (Ga Tryz.underlying150 Tryz.sizeOf148) ?_
  first | refine Pb (La o148) ?_ | refine Pb (Ls o148) ?_
  first | refine Pb (y_len_sl Tryz.underlying148 rfl) ?_ | refine Pb (y_len_slc Tryz.underlying148 rfl fd_) ?_
  refine Pb (y_eql rfl rfl) ?_
  refine Pa (y_pick_t rfl rfl) ?_
  refine Ps ?_
  refine rj_nil (hK13 _ _ _ ?_)
  refine cj_env (eL 4 rfl eN) ?_
  refine cj_ret (hret _ _ _ ?_)
  refine Ea Tryz.results145 (.cons (rv_tmp rfl) .nil) [] le_ ?_
  refine ⟨?_, rfl, rfl⟩; simp_all [rightB, tupOf] <;> first | exact emptyB _ | exact anyNot _ _
  try simp only [dT, dF, nT, nF, tF, fT] at hg25
  refine Pk ?_
  refine Pk ?_
  refine Pk ?_
  refine Pk ?_
  refine Pa (y_pick_f rfl rfl) ?_
  refine Ps ?_
  refine rj_nil (hK13 _ _ _ (cj_ret (hret _ _ _ ?_)))
  refine Ea Tryz.results145 (.cons (rv_tmp rfl) .nil) [] le_ ?_
  refine ⟨?_, rfl, rfl⟩; simp_all [rightB, tupOf] <;> first | exact emptyB _ | exact anyNot _ _
  try simp only [dT, dF, nT, nF, tF, fT] at hc20
  refine cj_seq fun K14 hK14 => cj_region ?_
  refine Pa (y_eql rfl rfl) ?_
  refine Ps ?_
  refine rj_nil (hK14 _ _ _ ?_)
  refine cj_cond rfl (fun hc31 => ?_) (fun hc31 => ?_)
  try simp only [dT, dF, nT, nF, tF, fT] at hc31
  refine cj_seq fun K16 hK16 => cj_region ?_
  refine Pa (Ga Tryz.underlying150 Tryz.sizeOf36) ?_
  first | refine Pa (La o36) ?_ | refine Pa (Ls o36) ?_
  refine Pa (y_eql rfl rfl) ?_
  refine Pm ?_
  refine rj_part 36 rfl (fun hg36 => ?_) (fun hg36 => ?_)
  try simp only [dT, dF, nT, nF, tF, fT] at hg36
  refine Pb (Ga Tryz.underlying150 Tryz.sizeOf9) ?_
  first | refine Pb (La o9) ?_ | refine Pb (Ls o9) ?_
  refine Pb (y_seql rfl rfl) ?_
  refine Pa (y_pick_t rfl rfl) ?_
  refine Pm ?_
  refine rj_part 41 rfl (fun hg41 => ?_) (fun hg41 => ?_)
  try simp only [dT, dF, nT, nF, tF, fT] at hg41
  refine Pb (Ga Tryz.underlying150 Tryz.sizeOf148) ?_
  first | refine Pb (La o148) ?_ | refine Pb (Ls o148) ?_
  refine Pb (y_makeFunc rfl rfl) ?_
  refine rj_call (wn1 rfl rfl rfl rfl) rfl Tryz.call150 rfl (containsFunc_t l q cap hl bd (blk bd [.int .i64 ((e + 1 : Nat) : Int)] 3) (fun y => !rightB e y) (fun y cy hy hry => right1_q e bd y cy hry (by omega) (ih e (by omega) y cy hry (by omega)))) sp_ (fun _ _ _ _ h => h.elim) ?_
  rintro v R' L' hR ⟨rfl, rfl, rfl⟩
  try simp only [cA, nA]
  refine Pb (y_not rfl) ?_
  refine Pa (y_pick_t rfl rfl) ?_
  refine Ps ?_
  refine rj_nil (hK16 _ _ _ ?_)
  refine cj_env (eL 4 rfl eN) ?_
  refine cj_ret (hret _ _ _ ?_)
  refine Ea Tryz.results145 (.cons (rv_tmp rfl) .nil) [] le_ ?_
  refine ⟨?_, rfl, rfl⟩; simp_all [rightB, tupOf] <;> first | exact emptyB _ | exact anyNot _ _
  try simp only [dT, dF, nT, nF, tF, fT] at hg41
  refine Pk ?_
  refine Pk ?_
  refine Pk ?_
  refine Pk ?_
  refine Pk ?_
  refine Pa (y_pick_f rfl rfl) ?_
  refine Ps ?_
  refine rj_nil (hK16 _ _ _ (cj_ret (hret _ _ _ ?_)))
  refine Ea Tryz.results145 (.cons (rv_tmp rfl) .nil) [] le_ ?_
  refine ⟨?_, rfl, rfl⟩; simp_all [rightB, tupOf] <;> first | exact emptyB _ | exact anyNot _ _
  try simp only [dT, dF, nT, nF, tF, fT] at hg36
  refine Pk ?_
  refine Pk ?_
  refine Pk ?_
  refine Pa (y_pick_f rfl rfl) ?_
  refine Pm ?_
  refine Pk ?_
  refine Pk ?_
  refine Pk ?_
  refine Pk ?_
  refine Pk ?_
  refine Pa (y_pick_f rfl rfl) ?_
  refine Ps ?_
  refine rj_nil (hK16 _ _ _ ?_)
  refine cj_env (eL 4 rfl eN) ?_
  refine cj_ret (hret _ _ _ ?_)
  refine Ea Tryz.results145 (.cons (rv_tmp rfl) .nil) [] le_ ?_
  refine ⟨?_, rfl, rfl⟩; simp_all [rightB, tupOf] <;> first | exact emptyB _ | exact anyNot _ _
  try simp only [dT, dF, nT, nF, tF, fT] at hc31
  refine cj_skip (hK6 _ _ _ ?_)
  refine cj_env eN ?_
  refine cj_seq fun K17 hK17 => cj_region ?_
  refine Ps ?_
  refine rj_nil (hK17 _ _ _ (cj_ret (hret _ _ _ ?_)))
  refine Ea Tryz.results145 (.cons (rv_tmp rfl) .nil) [] le_ ?_
  refine ⟨?_, rfl, rfl⟩; simp_all [rightB, tupOf] <;> first | exact emptyB _ | exact anyNot _ _
end V
end Go.Proofs.YtenfjpigffjgmaaGreat
set_option linter.unusedSimpArgs false
set_option linter.unusedVariables false
set_option maxRecDepth 100000
namespace Go.Proofs.YtenfjpigffjgmaaGreat
open Go.RowKit
namespace V
set_option maxHeartbeats 1000000
noncomputable def same {α : Type} (x y : α) : Bool := @decide (x = y) (Classical.propDecidable _)
theorem numN_q {R : Hp} (n : Int) : QTri Tryz.prog 95 [.int .u64 n] R [] (.agg ⟨[.int .i64 0, .int .u64 n, .string (str []), .slice none 0 0]⟩) := by
  refine Tri.q ?_
  refine tri_of Tryz.func95 rfl Tryz.ntmps95 rfl (fun σ F Q hret hend hpan => ?_)
  try simp only [cA, nA]
  refine cj_seq fun K1 hK1 => cj_region ?_
  refine rj_alloc (wn0 rfl) rfl Tryz.zeroValue150 rfl (fun b2 => ?_)
  refine rj_nil (hK1 _ _ _ (cj_seq fun K2 hK2 => cj_region ?_))
  refine Pm ?_
  refine Pa (y_build (cells := [_, _, _, _]) [(0, 1), (1, 1), (2, 1), (3, 1)] Tryz.underlying150 Tryz.zeroValue150 (fun _ => rfl) rfl rfl) ?_
  refine rj_stores m150 rfl (wn0 rfl) rfl rfl (by (first | (simp [Value.oneCell']; done) | (intro u hu; simp only [List.mem_cons, List.not_mem_nil, or_false] at hu; rcases hu with rfl | rfl | rfl | rfl <;> first | rfl | assumption))) fd_ (by (simp)) rfl ?_
  refine rj_nil (hK2 _ _ _ (cj_ret (hret _ _ _ ?_)))
  refine Ea Tryz.results95 (.cons (rv_cells m150 rfl fd_ rfl rfl) .nil) [] le_ ?_
  exact ⟨rfl, rfl, rfl⟩
theorem numS_q {R : Hp} (s : List UInt8) : QTri Tryz.prog 114 [.string (str s)] R [] (.agg ⟨[.int .i64 1, .int .u64 0, .string (str s), .slice none 0 0]⟩) := by
  refine Tri.q ?_
  refine tri_of Tryz.func114 rfl Tryz.ntmps114 rfl (fun σ F Q hret hend hpan => ?_)
  try simp only [cA, nA]
  refine cj_seq fun K1 hK1 => cj_region ?_
  refine rj_alloc (wn0 rfl) rfl Tryz.zeroValue150 rfl (fun b2 => ?_)
  refine rj_nil (hK1 _ _ _ (cj_seq fun K2 hK2 => cj_region ?_))
  refine Pm ?_
  refine Pa (y_build (cells := [_, _, _, _]) [(0, 1), (1, 1), (2, 1), (3, 1)] Tryz.underlying150 Tryz.zeroValue150 (fun _ => rfl) rfl rfl) ?_
  refine rj_stores m150 rfl (wn0 rfl) rfl rfl (by (first | (simp [Value.oneCell']; done) | (intro u hu; simp only [List.mem_cons, List.not_mem_nil, or_false] at hu; rcases hu with rfl | rfl | rfl | rfl <;> first | rfl | assumption))) fd_ (by (simp)) rfl ?_
  refine rj_nil (hK2 _ _ _ (cj_ret (hret _ _ _ ?_)))
  refine Ea Tryz.results114 (.cons (rv_cells m150 rfl fd_ rfl rfl) .nil) [] le_ ?_
  exact ⟨rfl, rfl, rfl⟩
theorem isRight_q {R : Hp} (x : Nd) (cs : List Value) (h : RepN R x cs) : QTri Tryz.prog 135 [.agg ⟨cs⟩] R [] (.bool (rightB 20 x)) := by
  obtain ⟨k, n, s, l, q, cap, rfl, rfl, hs, hl⟩ := h.inv
  refine Tri.q ?_
  refine tri_of Tryz.func135 rfl Tryz.ntmps135 rfl (fun σ F Q hret hend hpan => ?_)
  try simp only [cA, nA]
  refine cj_seq fun K1 hK1 => cj_region ?_
  refine rj_box (wn0 rfl) rfl rfl rfl (fun b1 => ?_)
  refine Ps ?_
  refine rj_nil (hK1 _ _ _ (cj_seq fun K2 hK2 => cj_region ?_))
  first | refine Pa (Lb m150) ?_ | refine Pa (y_loads_slc m150 rfl fd_ rfl rfl om_) ?_
  refine Pa (Ca Tryz.call145 (right_q 20 _ _ h (by omega))) ?_
  refine Ps ?_
  refine rj_nil (hK2 _ _ _ (cj_ret (hret _ _ _ ?_)))
  refine Ea Tryz.results135 (.cons (rv_tmp rfl) .nil) [] le_ ?_
  exact ⟨rfl, rfl, rfl⟩
def upTo (p : Nd → Bool) (l : List Nd) (i : Nat) : Prop := ∀ (j : Nat) (y : Nd), l[j]? = some y → j < i → p y = true
theorem upTo.succ {p : Nd → Bool} {l : List Nd} {i : Nat} {x : Nd} (h : upTo p l i) (hx : l[i]? = some x) (hp : p x = true) : upTo p l (i + 1) := fun j y hj hlt => by
  rcases Nat.lt_or_ge j i with h' | h'
  · exact h j y hj h'
  · obtain rfl : j = i := by omega
    rw [hx] at hj; cases hj; exact hp
theorem upTo.all {p : Nd → Bool} {l : List Nd} {i : Nat} (h : upTo p l i) (hi : l.length ≤ i) : ∀ y ∈ l, p y = true := fun y hy => by
  obtain ⟨j, hj, rfl⟩ := List.getElem_of_mem hy
  exact h j _ (by simp) (by omega)
end V
end Go.Proofs.YtenfjpigffjgmaaGreat
set_option linter.unusedSimpArgs false
set_option linter.unusedVariables false
set_option maxRecDepth 100000
namespace Go.Proofs.YtenfjpigffjgmaaGreat
open Go.RowKit
namespace V
set_option maxHeartbeats 1000000
@[reducible] def wB (b : Nat) (q : Option Addr) (v : Value) (bad : Bool) : Asn := blk b [.pointer q, v, .bool bad] 209
@[reducible] def wS (v : Value) (bs : List UInt8) : Asn := slc 5 1 v bs.length (bytesV bs)
def own1 (b : Nat) (q : Option Addr) : Prop := q = none ∨ q = some ⟨b, 0, none⟩
theorem copyCheck_t {R : Hp} (b : Nat) (q : Option Addr) (v : Value) (bad : Bool) (hq : own1 b q) : Tri Tryz.prog 152 [.pointer (some ⟨b, 0, none⟩)] R [wB b q v bad]
    (fun r R' L' => R = R' ∧ L' = [wB b (some ⟨b, 0, none⟩) v bad]) := by
  refine tri_of Tryz.func152 rfl Tryz.ntmps152 rfl (fun σ F Q hret hend hpan => ?_)
  try simp only [cA, nA]
  refine cj_seq fun K1 hK1 => cj_region ?_
  refine Pm ?_
  refine Pa (y_nilCheck rfl) ?_
  refine Pa (Ga Tryz.underlying207 Tryz.sizeOf205) ?_
  first | refine Pa (La o205) ?_ | refine Pa (Ls o205) ?_
  refine Pa (y_peql Tryz.underlying205 rfl rfl) ?_
  refine rj_nil (hK1 _ _ _ ?_)
  refine cj_cond rfl (fun hc6 => ?_) (fun hc6 => ?_)
  try simp only [dT, dF, nT, nF, tF, fT] at hc6
  refine cj_region ?_
  refine Pm ?_
  refine Pm ?_
  refine Pa ((y_to_unsafe Tryz.underlying205 Tryz.underlying229 (by kernel_rfl) rfl fd_ (by simp))) ?_
  refine Pa ((y_noEscape Tryz.func154 (by kernel_rfl) (by kernel_rfl) (by kernel_rfl) (by kernel_rfl) rfl)) ?_
  refine Pa ((y_from_unsafe Tryz.underlying229 Tryz.underlying205 (by kernel_rfl) rfl fd_ rfl (by kernel_rfl))) ?_
  refine Pa (y_nilCheck rfl) ?_
  refine Pa (Ga Tryz.underlying207 Tryz.sizeOf205) ?_
  refine Sa o205 ?_
  refine rj_nil (hend _ _ _ ?_)
  apply ej_end Tryz.results152 .nil _ [wB b (some ⟨b, 0, none⟩) v bad] le_ rfl
  case hp => exact ⟨rfl, rfl⟩
  case hS => exact sb_
  obtain rfl : q = some ⟨b, 0, none⟩ := by rcases hq with rfl | rfl; simp at hc6; rfl
  refine cj_seq fun K3 hK3 => cj_region ?_
  refine Pm ?_
  refine Pa (y_nilCheck rfl) ?_
  refine Pa (Ga Tryz.underlying207 Tryz.sizeOf205) ?_
  first | refine Pa (La o205) ?_ | refine Pa (Ls o205) ?_
  refine Pm ?_
  refine Pa ((y_pneq_same Tryz.underlying205 (by kernel_rfl) rfl rfl)) ?_
  refine rj_nil (hK3 _ _ _ ?_)
  refine cj_env (eL 19 rfl eN) ?_
  refine cj_cond_f rfl (cj_skip (hend _ _ _ ?_))
  apply ej_end Tryz.results152 .nil _ [wB b (some ⟨b, 0, none⟩) v bad] le_ rfl
  case hp => exact ⟨rfl, rfl⟩
  case hS => exact sb_
theorem writeByte_t {R : Hp} (b : Nat) (q : Option Addr) (v : Value) (bad : Bool) (bs : List UInt8) (u : UInt8) (hq : own1 b q) (hh : headed v) (hl : bs.length ≤ 1000000000) : Tri Tryz.prog 146 [.pointer (some ⟨b, 0, none⟩), .int .u8 (u.toNat : Int)] R [wB b q v bad, wS v bs]
    (fun r R' L' => R = R' ∧ ∃ v', headed v' ∧ L' = [wB b (some ⟨b, 0, none⟩) v' bad, wS v' (bs ++ [u])]) := by
  refine tri_of Tryz.func146 rfl Tryz.ntmps146 rfl (fun σ F Q hret hend hpan => ?_)
  try simp only [cA, nA]
  refine cj_seq fun K1 hK1 => cj_region ?_
  refine Ps ?_
  refine rj_nil (hK1 _ _ _ (cj_seq fun K2 hK2 => cj_region ?_))
  refine Pm ?_
  refine Ra Tryz.call152 (copyCheck_t b q v bad hq) ?_
  rintro r R' L' hR ⟨rfl, rfl⟩
  try simp only [cA, nA]
  refine rj_nil (hK2 _ _ _ (cj_seq fun K3 hK3 => cj_region ?_))
  refine Pm ?_
  refine Pm ?_
  refine Pa (y_nilCheck rfl) ?_
  refine Pa (Ga Tryz.underlying207 Tryz.sizeOf123) ?_
  first | refine Pa (La o123) ?_ | refine Pa (Ls o123) ?_
  refine Pm ?_
  refine rj_buildSlice (sz := 1) (wn0 rfl) rfl Tryz.underlying123 Tryz.sizeOf5 Tryz.zeroValue5 rfl rfl rfl (by decide) (by decide) (fun b13 => ?_)
  refine rj_append (sz := 1) (by_ := 1) ⟨Tryz.underlying123, _, _, rfl, rfl, rfl, rfl, rfl⟩ (wn0 rfl) rfl rfl rfl fd_ (src_slc (xs := [.int .u8 (u.toNat : Int)]) Tryz.underlying123 fd_ (by (first | (simp [Value.oneCell']; done) | (intro u hu; simp only [List.mem_cons, List.not_mem_nil, or_false] at hu; rcases hu with rfl | rfl | rfl | rfl <;> first | rfl | assumption)))) rfl om_ (by simp only [maxLen]; omega) (fun v14 ho14 hh14 => ?_)
  rw [show bytesV bs ++ [Value.int .u8 (u.toNat : Int)] = bytesV (bs ++ [u]) by rw [← bytesV_app]; rfl, show bs.length + 1 = (bs ++ [u]).length by simp]
  refine Pa (y_nilCheck rfl) ?_
  refine Pa (Ga Tryz.underlying207 Tryz.sizeOf123) ?_
  refine Sa o123 ?_
  refine rj_nil (hK3 _ _ _ ?_)
  refine cj_env eN ?_
  refine cj_seq fun K4 hK4 => cj_region ?_
  refine Ps ?_
  refine rj_nil (hK4 _ _ _ (cj_ret (hret _ _ _ ?_)))
  refine Ea Tryz.results146 (.cons (rv_tmp rfl) .nil) [wB b (some ⟨b, 0, none⟩) v14 bad, wS v14 (bs ++ [u])] le_ ?_
  exact ⟨rfl, v14, hh14 hh, rfl⟩
theorem writeString_t {R : Hp} (b : Nat) (q : Option Addr) (v : Value) (bad : Bool) (bs s : List UInt8) (hq : own1 b q) (hh : headed v) (hl : bs.length ≤ 1000000000) (hs : s.length ≤ 1000000000) : Tri Tryz.prog 148 [.pointer (some ⟨b, 0, none⟩), .string (str s)] R [wB b q v bad, wS v bs]
    (fun r R' L' => R = R' ∧ ∃ v', headed v' ∧ L' = [wB b (some ⟨b, 0, none⟩) v' bad, wS v' (bs ++ s)]) := by
  refine tri_of Tryz.func148 rfl Tryz.ntmps148 rfl (fun σ F Q hret hend hpan => ?_)
  try simp only [cA, nA]
  refine cj_seq fun K1 hK1 => cj_region ?_
  refine Ps ?_
  refine Ps ?_
  refine rj_nil (hK1 _ _ _ (cj_seq fun K2 hK2 => cj_region ?_))
  refine Pm ?_
  refine Ra Tryz.call152 (copyCheck_t b q v bad hq) ?_
  rintro r R' L' hR ⟨rfl, rfl⟩
  try simp only [cA, nA]
  refine rj_nil (hK2 _ _ _ (cj_seq fun K3 hK3 => cj_region ?_))
  refine Pm ?_
  refine Pm ?_
  refine Pa (y_nilCheck rfl) ?_
  refine Pa (Ga Tryz.underlying207 Tryz.sizeOf123) ?_
  first | refine Pa (La o123) ?_ | refine Pa (Ls o123) ?_
  refine Pm ?_
  refine rj_append (sz := 1) (by_ := 1) ⟨Tryz.underlying123, _, _, rfl, rfl, rfl, rfl, rfl⟩ (wn0 rfl) rfl rfl rfl fd_ (src_str Tryz.underlying9) rfl om_ (by simp only [maxLen]; omega) (fun v14 ho14 hh14 => ?_)
  rw [bytesV_app, ← List.length_append]
  refine Pa (y_nilCheck rfl) ?_
  refine Pa (Ga Tryz.underlying207 Tryz.sizeOf123) ?_
  refine Sa o123 ?_
  refine rj_nil (hK3 _ _ _ (cj_seq fun K4 hK4 => cj_region ?_))
  refine Pm ?_
  refine Pa (y_slen Tryz.underlying9 rfl) ?_
  refine Ps ?_
  refine Ps ?_
  refine rj_nil (hK4 _ _ _ (cj_ret (hret _ _ _ ?_)))
  refine Ea Tryz.results148 (.cons (rv_tmp rfl) (.cons (rv_tmp rfl) .nil)) [wB b (some ⟨b, 0, none⟩) v14 bad, wS v14 (bs ++ s)] le_ ?_
  exact ⟨rfl, v14, hh14 hh, rfl⟩
theorem bLen_q {R : Hp} (b : Nat) (q : Option Addr) (v : Value) (bad : Bool) (bs : List UInt8) : QTri Tryz.prog 137 [.pointer (some ⟨b, 0, none⟩)] R [wB b q v bad, wS v bs] (.int .i64 (bs.length : Int)) := by
  refine Tri.q ?_
  refine tri_of Tryz.func137 rfl Tryz.ntmps137 rfl (fun σ F Q hret hend hpan => ?_)
  try simp only [cA, nA]
  refine cj_seq fun K1 hK1 => cj_region ?_
  refine Ps ?_
  refine rj_nil (hK1 _ _ _ (cj_seq fun K2 hK2 => cj_region ?_))
  refine Pm ?_
  refine Pa (y_nilCheck rfl) ?_
  refine Pa (Ga Tryz.underlying207 Tryz.sizeOf123) ?_
  first | refine Pa (La o123) ?_ | refine Pa (Ls o123) ?_
  first | refine Pa (y_len_sl Tryz.underlying123 rfl) ?_ | refine Pa (y_len_slc Tryz.underlying123 rfl fd_) ?_
  refine Ps ?_
  refine rj_nil (hK2 _ _ _ (cj_ret (hret _ _ _ ?_)))
  refine Ea Tryz.results137 (.cons (rv_tmp rfl) .nil) [wB b q v bad, wS v bs] le_ ?_
  exact ⟨rfl, rfl, rfl⟩
theorem bString_t {R : Hp} (b : Nat) (q : Option Addr) (v : Value) (bad : Bool) (bs : List UInt8) (hh : headed v) (h0 : 0 < bs.length) (hl : bs.length ≤ 1000000000) : Tri Tryz.prog 138 [.pointer (some ⟨b, 0, none⟩)] R [wB b q v bad, wS v bs]
    (fun r R' L' => R = R' ∧ r = .string (str bs) ∧ L' = []) := by
  refine tri_of Tryz.func138 rfl Tryz.ntmps138 rfl (fun σ F Q hret hend hpan => ?_)
  try simp only [cA, nA]
  refine cj_pure (A := wS v bs) fd_ slc_shape (fun hsh => ?_)
  obtain ⟨qq, k, rfl, hk, _, hqq⟩ := hsh
  obtain ⟨bb, off, rfl⟩ := hqq h0
  obtain rfl := hh _ _ _ _ rfl
  refine cj_seq fun K1 hK1 => cj_region ?_
  refine Ps ?_
  refine rj_nil (hK1 _ _ _ (cj_seq fun K2 hK2 => ?_))
  refine cj_mix [0, 1, 2, 3, 4, 5, 6, 7, 8, 9] [] [10, 11] (by kernel_rfl) (by kernel_rfl) (by kernel_rfl) rfl ?_
  refine Wa rfl (fun R1 hR1 G => (y_move rfl)) ?_
  refine Wa rfl (fun R1 hR1 G => (y_nilCheck rfl)) ?_
  refine Wa rfl (fun R1 hR1 G => (Ga Tryz.underlying207 Tryz.sizeOf123)) ?_
  first | refine Wa rfl (fun R1 hR1 G => (La o123)) ?_ | refine Wa rfl (fun R1 hR1 G => (Ls o123)) ?_
  refine Wa rfl (fun R1 hR1 G => (y_ssd rfl (by omega))) ?_
  refine Wa rfl (fun R1 hR1 G => (y_move rfl)) ?_
  refine Wa rfl (fun R1 hR1 G => (y_nilCheck rfl)) ?_
  refine Wa rfl (fun R1 hR1 G => (Ga Tryz.underlying207 Tryz.sizeOf123)) ?_
  first | refine Wa rfl (fun R1 hR1 G => (La o123)) ?_ | refine Wa rfl (fun R1 hR1 G => (Ls o123)) ?_
  first | refine Wa rfl (fun R1 hR1 G => (y_len_sl Tryz.underlying123 rfl)) ?_ | refine Wa rfl (fun R1 hR1 G => (y_len_slc Tryz.underlying123 rfl fd_)) ?_
  refine fj_nil ?_
  refine xj_nil ?_
  try simp only [cA, nA, List.append_nil]
  refine rj_unsafeString (wn0 rfl) rfl Tryz.underlying223 (by kernel_rfl) rfl rfl fd_ h0 (by omega) ?_
  refine Ps ?_
  refine rj_nil (hK2 _ _ _ (cj_ret (hret _ _ _ ?_)))
  refine Ea Tryz.results138 (.cons (rv_tmp rfl) .nil) [] le_ ?_
  exact ⟨rfl, rfl, rfl⟩
end V
end Go.Proofs.YtenfjpigffjgmaaGreat
set_option linter.unusedSimpArgs false
set_option linter.unusedVariables false
set_option maxRecDepth 100000
namespace Go.Proofs.YtenfjpigffjgmaaGreat
open Go.RowKit
namespace V
set_option maxHeartbeats 1000000
theorem or128 (m : Nat) : bitOr .u8 (IntKind.u8.wrap (m : Int)) 128 = ((UInt8.ofNat (m % 128 + 128)).toNat : Int) := by
  have hw : IntKind.u8.wrap (m : Int) = ((m % 256 : Nat) : Int) := by
    simp [IntKind.wrap, IntKind.signed, IntKind.bits]
  rw [hw, ofNat_toNat' _ (by omega)]
  have hlt : m % 256 < 256 := Nat.mod_lt _ (by decide)
  have hmm : m % 128 = m % 256 % 128 := by omega
  rw [hmm]
  generalize m % 256 = A at hlt
  have key : ∀ A : Fin 256, bitOr .u8 ((A.val : Nat) : Int) 128 = ((A.val % 128 + 128 : Nat) : Int) := by decide +kernel
  exact key ⟨A, hlt⟩
theorem shr_nat {k : IntKind} (m j : Nat) (z : Int) (hz : z = j) (hj : j ≤ k.bits) : ((m : Nat) : Int).fdiv (2 ^ min z.toNat k.bits) = ((m / 2 ^ j : Nat) : Int) := by
  subst hz
  rw [Int.toNat_natCast, Nat.min_eq_left hj, Int.fdiv_eq_ediv_of_nonneg _ (by exact Int.pow_nonneg (by decide))]
  rw [Int.natCast_ediv, Int.natCast_pow]; rfl
theorem wrap8 (m : Nat) : IntKind.u8.wrap (m : Int) = ((UInt8.ofNat (m % 256)).toNat : Int) := by
  rw [ofNat_toNat' _ (by omega)]; simp [IntKind.wrap, IntKind.signed, IntKind.bits]
theorem wSize_t {R : Hp} (b : Nat) (q : Option Addr) (v : Value) (bad : Bool) (bs : List UInt8) (n : Nat) (hq : own1 b q) (hh : headed v) (hl : bs.length ≤ 100000000) (hn : n ≤ big) :
    Tri Tryz.prog 147 [.pointer (some ⟨b, 0, none⟩), .int .i64 (n : Int)] R [wB b q v bad, wS v bs]
    (fun r R' L' => R = R' ∧ ∃ v', headed v' ∧ L' = [wB b (some ⟨b, 0, none⟩) v' bad, wS v' (bs ++ sizeB n)]) := by
  unfold big at hn
  have hsl := sizeB_len 5 n (by simp; omega)
  refine tri_of Tryz.func147 rfl Tryz.ntmps147 rfl (fun σ F Q hret hend hpan => ?_)
  try simp only [cA, nA]
  refine cj_seq fun K1 hK1 => cj_block ?_
  refine cj_env (E' := (fun (x : Nat × List UInt8 × Option Addr × Value) => [(0, .pointer (some ⟨b, 0, none⟩)), (1, .int .i64 (x.1 : Int))]) (n, bs, q, v)) (eC rfl (eC rfl eN)) ?_
  refine cj_sub (M := (fun (x : Nat × List UInt8 × Option Addr × Value) => wB b x.2.2.1 x.2.2.2 bad :: wS x.2.2.2 x.2.1 :: F) (n, bs, q, v)) sb_ ?_
  refine cj_loop (fun (x : Nat × List UInt8 × Option Addr × Value) => [(0, .pointer (some ⟨b, 0, none⟩)), (1, .int .i64 (x.1 : Int))]) (fun (x : Nat × List UInt8 × Option Addr × Value) => R) (fun (x : Nat × List UInt8 × Option Addr × Value) => wB b x.2.2.1 x.2.2.2 bad :: wS x.2.2.2 x.2.1 :: F) (fun (x : Nat × List UInt8 × Option Addr × Value) => own1 b x.2.2.1 ∧ headed x.2.2.2 ∧ x.2.1 ++ sizeB x.1 = bs ++ sizeB n ∧ x.1 ≤ n) (fun (x : Nat × List UInt8 × Option Addr × Value) => x.1) (n, bs, q, v) (⟨hq, hh, rfl, Nat.le_refl _⟩) ?_
  rintro ⟨m, acc, q1, v1⟩ ⟨hq1, hh1, he, hm⟩
  try dsimp only
  dsimp only at hq1 hh1 he hm
  have hel := congrArg List.length he
  simp only [List.length_append] at hel
  refine cj_seq fun K2 hK2 => cj_seq fun K3 hK3 => cj_region ?_
  refine Pm ?_
  refine Pa (y_geq rfl rfl) ?_
  refine rj_nil (hK3 _ _ _ ?_)
  refine cj_cond rfl (fun hc5 => ?_) (fun hc5 => ?_)
  try simp only [dT, dF, nT, nF, tF, fT] at hc5
  refine cj_skip (hK2 _ _ _ (cj_seq fun K5 hK5 => cj_block (cj_region ?_)))
  refine Pm ?_
  refine Pa (y_nilCheck rfl) ?_
  refine Pa (Ga Tryz.underlying209 Tryz.sizeOf207) ?_
  refine Pm ?_
  first | refine Pa (y_conv_in Tryz.underlying3 Tryz.underlying5 rfl (by (simp only [IntKind.min, IntKind.max, IntKind.signed, IntKind.bits, Bool.false_eq_true, ite_false, ite_true]; omega))) ?_ | refine Pa (y_conv Tryz.underlying3 Tryz.underlying5 rfl) ?_
  refine Pa (y_or rfl rfl) ?_
  refine rj_eq 13 rfl (congrArg _ (or128 m)) ?_
  refine Ra Tryz.call146 (writeByte_t b q1 v1 bad acc _ hq1 hh1 (by omega)) ?_
  rintro r R' L' hR ⟨rfl, v2, hh2, rfl⟩
  try simp only [cA, nA]
  refine rj_nil (hK5 _ _ _ (cj_region ?_))
  refine Pm ?_
  refine Pa (y_shr rfl rfl om_) ?_
  refine rj_eq 7 rfl (congrArg _ (shr_nat m 7 7 rfl (by decide))) ?_
  refine Ps ?_
  refine rj_nil ?_
  refine ej_on (q' := roundK _ _ _ _ _ _ _) rfl ?_
  refine ej_round ((m / 128, acc ++ [UInt8.ofNat (m % 128 + 128)], some ⟨b, 0, none⟩, v2)) (⟨.inr rfl, hh2, by dsimp only; rw [← he, sizeB_big (n := m) (by omega)]; simp, by dsimp only; omega⟩) (by dsimp only; omega) (eC rfl (eC rfl eN)) rfl sb_
  try simp only [dT, dF, nT, nF, tF, fT] at hc5
  refine cj_exit (hK1 _ _ _ (cj_region ?_))
  refine Pm ?_
  refine Pa (y_nilCheck rfl) ?_
  refine Pa (Ga Tryz.underlying209 Tryz.sizeOf207) ?_
  refine Pm ?_
  first | refine Pa (y_conv_in Tryz.underlying3 Tryz.underlying5 rfl (by (simp only [IntKind.min, IntKind.max, IntKind.signed, IntKind.bits, Bool.false_eq_true, ite_false, ite_true]; omega))) ?_ | refine Pa (y_conv Tryz.underlying3 Tryz.underlying5 rfl) ?_
  refine rj_eq 19 rfl (v' := .int .u8 ((UInt8.ofNat m).toNat : Int)) (by rw [ofNat_toNat' _ (by omega)]) ?_
  refine Ra Tryz.call146 (writeByte_t b q1 v1 bad acc _ hq1 hh1 (by omega)) ?_
  rintro r R' L' hR ⟨rfl, v2, hh2, rfl⟩
  rw [show acc ++ [UInt8.ofNat m] = bs ++ sizeB n by rw [← he, sizeB_small (by omega)]]
  try simp only [cA, nA]
  refine rj_nil (hend _ _ _ ?_)
  apply ej_end Tryz.results147 .nil _ [wB b (some ⟨b, 0, none⟩) v2 bad, wS v2 (bs ++ sizeB n)] le_ rfl
  case hp => exact ⟨rfl, v2, hh2, rfl⟩
  case hS => exact sb_
theorem bitLen_eq : ∀ (k n : Nat), n < 2 ^ k → (k = 0 ∨ 2 ^ (k - 1) ≤ n) → bitLen n = k
  | 0, n, h, _ => by have : n = 0 := by simpa using h
                     subst this; exact bitLen_zero
  | k + 1, n, h, h2 => by
    have h3 : 2 ^ k ≤ n := by simpa using h2
    have hp : 1 ≤ 2 ^ k := Nat.one_le_two_pow
    rw [bitLen_pos (by omega), bitLen_eq k (n / 2) (by rw [Nat.pow_succ] at h; omega) (by
      cases k with
      | zero => exact .inl rfl
      | succ k => right; rw [Nat.pow_succ] at h3; simp; omega)]
theorem len8 {m : List UInt8} (h : ∀ x : Fin 256, x.val < 2 ^ (m.getD x.val 0).toNat ∧ ((m.getD x.val 0).toNat = 0 ∨ 2 ^ ((m.getD x.val 0).toNat - 1) ≤ x.val)) {n : Nat} (hn : n < 256) : byteAt m (n : Int) = (bitLen n : Int) := by
  have := h ⟨n, hn⟩
  rw [bitLen_eq _ _ this.1 this.2]
  simp [byteAt]
theorem len64_q {R : Hp} (n : Nat) (hn : n < 18446744073709551616) : QTri Tryz.prog 134 [.int .u64 (n : Int)] R [] (.int .i64 (bitLen n : Int)) := by
  refine Tri.q ?_
  refine tri_of Tryz.func134 rfl Tryz.ntmps134 rfl (fun σ F Q hret hend hpan => ?_)
  try simp only [cA, nA]
  refine cj_seq fun K1 hK1 => cj_region ?_
  refine Ps ?_
  refine rj_nil (hK1 _ _ _ (cj_seq fun K2 hK2 => ?_))
  have hJ4 : ∀ (x : Nat × Nat), x.1 < 4294967296 ∧ x.2 + bitLen x.1 = bitLen n ∧ x.2 ≤ 32 → EJ ⟨Tryz.prog, 25, σ⟩ K2 [(0, .int .u64 (x.1 : Int)), (2, .int .i64 (x.2 : Int))] R (F) := by
    rintro ⟨m, r⟩ ⟨hm, hb, hr⟩
    try dsimp only
    dsimp only at hm hb hr
    refine hK2 _ _ _ (cj_seq fun K3 hK3 => ?_)
    have hJ7 : ∀ (x : Nat × Nat), x.1 < 65536 ∧ x.2 + bitLen x.1 = bitLen n ∧ x.2 ≤ 48 → EJ ⟨Tryz.prog, 25, σ⟩ K3 [(0, .int .u64 (x.1 : Int)), (2, .int .i64 (x.2 : Int))] R (F) := by
      rintro ⟨m2, r2⟩ ⟨hm2, hb2, hr2⟩
      try dsimp only
      dsimp only at hm2 hb2 hr2
      refine hK3 _ _ _ (cj_seq fun K4 hK4 => ?_)
      have hJ10 : ∀ (x : Nat × Nat), x.1 < 256 ∧ x.2 + bitLen x.1 = bitLen n ∧ x.2 ≤ 56 → EJ ⟨Tryz.prog, 25, σ⟩ K4 [(0, .int .u64 (x.1 : Int)), (2, .int .i64 (x.2 : Int))] R (F) := by
        rintro ⟨m3, r3⟩ ⟨hm3, hb3, hr3⟩
        try dsimp only
        dsimp only at hm3 hb3 hr3
        have hb8 := bitLen_le 8 m3 (by simpa using hm3)
        refine hK4 _ _ _ (cj_seq fun K5 hK5 => cj_region ?_)
        refine Pm ?_
        refine Pm ?_
        first | refine Pa (y_conv_in Tryz.underlying36 Tryz.underlying5 rfl (by (simp only [IntKind.min, IntKind.max, IntKind.signed, IntKind.bits, Bool.false_eq_true, ite_false, ite_true]; omega))) ?_ | refine Pa (y_conv Tryz.underlying36 Tryz.underlying5 rfl) ?_
        refine Pa ((y_index_s Tryz.underlying9 rfl rfl ⟨by omega, Int.lt_of_lt_of_le (by omega : (m3 : Int) < 256) (by decide +kernel)⟩)) ?_
        refine rj_eq 22 rfl (congrArg _ (len8 (by decide +kernel) hm3)) ?_
        first | refine Pa (y_conv_in Tryz.underlying5 Tryz.underlying3 rfl (by (simp only [IntKind.min, IntKind.max, IntKind.signed, IntKind.bits, Bool.false_eq_true, ite_false, ite_true]; omega))) ?_ | refine Pa (y_conv Tryz.underlying5 Tryz.underlying3 rfl) ?_
        first | refine Pa (y_add64 rfl rfl om_) ?_ | refine Pa (y_add rfl rfl) ?_
        refine Ps ?_
        refine rj_nil (hK5 _ _ _ (cj_ret (hret _ _ _ ?_)))
        refine Ea Tryz.results134 (.cons (rv_tmp rfl) .nil) [] le_ ?_
        refine ⟨?_, rfl, rfl⟩; rw [← hb3]; rfl
      refine cj_seq fun K6 hK6 => cj_region ?_
      refine Pm ?_
      refine Pa (y_geq rfl rfl) ?_
      refine rj_nil (hK6 _ _ _ ?_)
      refine cj_cond rfl (fun hc14 => ?_) (fun hc14 => ?_)
      try simp only [dT, dF, nT, nF, tF, fT] at hc14
      refine cj_seq fun K8 hK8 => cj_region ?_
      refine Pm ?_
      refine Pa (y_shr rfl rfl om_) ?_
      refine rj_eq 16 rfl (congrArg _ (shr_nat m2 8 8 rfl (by decide))) ?_
      refine Ps ?_
      refine rj_nil (hK8 _ _ _ (cj_region ?_))
      refine Pm ?_
      first | refine Pa (y_add64 rfl rfl om_) ?_ | refine Pa (y_add rfl rfl) ?_
      refine Ps ?_
      refine rj_nil ?_
      refine ej_join hJ10 ((m2 / 2 ^ 8, r2 + 8)) (⟨by dsimp only; omega, by have := bitLen_shift 8 m2 (by omega); dsimp only; omega, by dsimp only; omega⟩) (eC rfl (eC rfl eN)) rfl sb_
      try simp only [dT, dF, nT, nF, tF, fT] at hc14
      refine cj_skip ?_
      refine ej_join hJ10 ((m2, r2)) (⟨by dsimp only; omega, hb2, by dsimp only; omega⟩) (eC rfl (eC rfl eN)) rfl sb_
    refine cj_seq fun K9 hK9 => cj_region ?_
    refine Pm ?_
    refine Pa (y_geq rfl rfl) ?_
    refine rj_nil (hK9 _ _ _ ?_)
    refine cj_cond rfl (fun hc8 => ?_) (fun hc8 => ?_)
    try simp only [dT, dF, nT, nF, tF, fT] at hc8
    refine cj_seq fun K11 hK11 => cj_region ?_
    refine Pm ?_
    refine Pa (y_shr rfl rfl om_) ?_
    refine rj_eq 10 rfl (congrArg _ (shr_nat m 16 16 rfl (by decide))) ?_
    refine Ps ?_
    refine rj_nil (hK11 _ _ _ ?_)
    refine cj_env (eL 0 rfl (eL 2 rfl eN)) ?_
    refine cj_region ?_
    refine Pm ?_
    first | refine Pa (y_add64 rfl rfl om_) ?_ | refine Pa (y_add rfl rfl) ?_
    refine Ps ?_
    refine rj_nil ?_
    refine ej_join hJ7 ((m / 2 ^ 16, r + 16)) (⟨by dsimp only; omega, by have := bitLen_shift 16 m (by omega); dsimp only; omega, by dsimp only; omega⟩) (eC rfl (eC rfl eN)) rfl sb_
    try simp only [dT, dF, nT, nF, tF, fT] at hc8
    refine cj_skip ?_
    refine ej_join hJ7 ((m, r)) (⟨by dsimp only; omega, hb, by dsimp only; omega⟩) (eC rfl (eC rfl eN)) rfl sb_
  refine cj_seq fun K12 hK12 => cj_region ?_
  refine Pm ?_
  refine Pa (y_geq rfl rfl) ?_
  refine rj_nil (hK12 _ _ _ ?_)
  refine cj_cond rfl (fun hc4 => ?_) (fun hc4 => ?_)
  try simp only [dT, dF, nT, nF, tF, fT] at hc4
  refine cj_seq fun K14 hK14 => cj_region ?_
  refine Pm ?_
  refine Pa (y_shr rfl rfl om_) ?_
  refine rj_eq 6 rfl (congrArg _ (shr_nat n 32 32 rfl (by decide))) ?_
  refine Ps ?_
  refine rj_nil (hK14 _ _ _ (cj_region ?_))
  refine Ps ?_
  refine rj_nil ?_
  refine ej_join hJ4 ((n / 2 ^ 32, 32)) (⟨by dsimp only; omega, by have := bitLen_shift 32 n (by omega); dsimp only; omega, by simp⟩) (eC rfl (eC rfl eN)) rfl sb_
  try simp only [dT, dF, nT, nF, tF, fT] at hc4
  refine cj_skip ?_
  refine ej_join hJ4 ((n, 0)) (⟨by dsimp only; omega, by simp, by simp⟩) (eC rfl (eC rfl eN)) rfl sb_
def Wrote (b : Nat) (bs out : List UInt8) (bad : Bool) (R R' : Hp) (L' : List Asn) : Prop :=
  R = R' ∧ ∃ q' v' bad' bs', own1 b q' ∧ headed v' ∧ L' = [wB b q' v' bad', wS v' bs'] ∧ (bad = true → bad' = true) ∧ (bad' = false → bs' = bs ++ out) ∧ (bad = false → bad' = true → 16777216 < (bs ++ out).length) ∧ (bs'.length ≤ bs.length ∨ bs'.length ≤ 16777316)
theorem quo8 (m : Nat) (h : m ≤ 64) : IntKind.i64.wrap (((m : Int) + 7).tdiv 8) = (((m + 7) / 8 : Nat) : Int) := by
  rw [Int.tdiv_eq_ediv_of_nonneg (by omega), wrap_i64_in ⟨by omega, by omega⟩]; omega
theorem take_numB (n j : Nat) (hj : j < (numB n).length) : (numB n).take j ++ [UInt8.ofNat (n / 2 ^ (8 * ((numB n).length - 1 - j)) % 256)] = (numB n).take (j + 1) := by
  have := numB_get n j hj
  rw [List.take_add_one, this, show (256 : Nat) = 2 ^ 8 by rfl, ← Nat.pow_mul]
  rfl
theorem wrs_take {l : List Nd} {i : Nat} {x : Nd} (hx : l[i]? = some x) : wrs (l.take (i + 1)) = wrs (l.take i) ++ wr x := by
  have key : ∀ (m : List Nd), wrs (m ++ [x]) = wrs m ++ wr x := by
    intro m
    induction m with
    | nil => simp [wrs]
    | cons y m ih => rw [List.cons_append, wrs, ih, wrs, List.append_assoc]
  rw [List.take_add_one, hx]; exact key _
theorem wNode_t (N : Nat) : ∀ (x : Nd) (cx : List Value) {R : Hp} (b : Nat) (q : Option Addr) (v : Value) (bad : Bool) (bs : List UInt8), SizeOf.sizeOf x ≤ N → RepN R x cx → OkN x → own1 b q → headed v → bs.length ≤ 16777316 →
    Tri Tryz.prog 136 [.pointer (some ⟨b, 0, none⟩), .agg ⟨cx⟩] R [wB b q v bad, wS v bs] (fun r R' L' => Wrote b bs (wr x) bad R R' L') := by
  induction N using Nat.strongRecOn with
  | _ N ih =>
  intro x cx R b q v bad bs hN hx hok hq hh hbl
  obtain ⟨k, n, s, l, sq, cap, rfl, rfl, hs, hl⟩ := hx.inv
  have hlb : l.length ≤ big := hl.choose_spec.1
  obtain ⟨hn, hkids⟩ : n < 18446744073709551616 ∧ ∀ y ∈ l, OkN y := by cases hok with | mk h1 h2 => exact ⟨h1, h2⟩
  have hnl : (numB n).length ≤ 8 := numB_length 8 n (by omega)
  have hnb := numB_bits n
  have hb64 := bitLen_le 64 n (by omega)
  have hz1 := sizeB_len 5 (numB n).length (by omega)
  have hs0 := hs
  have hl0 := hlb
  unfold big at hs hlb
  have hz2 := sizeB_len 5 s.length (by simp; omega)
  have hz3 := sizeB_len 5 l.length (by simp; omega)
  refine tri_of Tryz.func136 rfl Tryz.ntmps136 rfl (fun σ F Q hret hend hpan => ?_)
  try simp only [cA, nA]
  refine cj_seq fun K1 hK1 => cj_region ?_
  refine rj_box (wn0 rfl) rfl rfl rfl (fun bx => ?_)
  refine rj_nil (hK1 _ _ _ (cj_seq fun K2 hK2 => cj_seq fun K3 hK3 => cj_region ?_))
  refine Pm ?_
  refine Pm ?_
  refine Pa (y_nilCheck rfl) ?_
  refine Pa (Ga Tryz.underlying209 Tryz.sizeOf4) ?_
  first | refine Pa (La o4) ?_ | refine Pa (Ls o4) ?_
  refine Pm ?_
  refine rj_part 13 rfl (fun hg13 => ?_) (fun hg13 => ?_)
  subst hg13
  refine Pk ?_
  refine Pk ?_
  refine Pk ?_
  refine Pk ?_
  refine Pk ?_
  refine Pa (y_pick_t rfl rfl) ?_
  refine Pa (y_nilCheck rfl) ?_
  refine Pa (Ga Tryz.underlying209 Tryz.sizeOf4) ?_
  refine Sa o4 ?_
  refine rj_nil (hK3 _ _ _ (cj_seq fun K4 hK4 => cj_region ?_))
  refine Pm ?_
  refine Pa (y_nilCheck rfl) ?_
  refine Pa (Ga Tryz.underlying209 Tryz.sizeOf4) ?_
  first | refine Pa (La o4) ?_ | refine Pa (Ls o4) ?_
  refine rj_nil (hK4 _ _ _ ?_)
  refine cj_env (eL 0 rfl (eL 3 rfl (eL 25 rfl eN))) ?_
  refine cj_cond_t rfl (cj_ret (hret _ _ _ ?_))
  refine Ea Tryz.results136 .nil [wB b q v true, wS v bs] le_ ?_
  exact ⟨rfl, q, v, true, bs, hq, hh, rfl, fun _ => rfl, fun h => (by cases h), fun h => (by cases h), .inl (Nat.le_refl _)⟩
  subst hg13
  refine Pb (y_move rfl) ?_
  refine Pb (y_nilCheck rfl) ?_
  refine Pb (Ga Tryz.underlying209 Tryz.sizeOf207) ?_
  refine Pb (Ca Tryz.call137 (bLen_q b q v false bs)) ?_
  refine Pb (y_gtr rfl rfl) ?_
  refine Pa (y_pick_f rfl rfl) ?_
  refine Pa (y_nilCheck rfl) ?_
  refine Pa (Ga Tryz.underlying209 Tryz.sizeOf4) ?_
  refine Sa o4 ?_
  refine rj_nil (hK3 _ _ _ (cj_seq fun K5 hK5 => cj_region ?_))
  refine Pm ?_
  refine Pa (y_nilCheck rfl) ?_
  refine Pa (Ga Tryz.underlying209 Tryz.sizeOf4) ?_
  first | refine Pa (La o4) ?_ | refine Pa (Ls o4) ?_
  refine rj_nil (hK5 _ _ _ ?_)
  refine cj_cond rfl (fun hc25 => ?_) (fun hc25 => ?_)
  rw [hc25]; (try simp only [dT, dF, nT, nF, tF, fT] at hc25)
  refine cj_ret (hret _ _ _ ?_)
  refine Ea Tryz.results136 .nil [wB b q v true, wS v bs] le_ ?_
  exact ⟨rfl, q, v, true, bs, hq, hh, rfl, fun _ => rfl, fun h => (by cases h), fun _ _ => by simp at hc25 ⊢; omega, .inl (Nat.le_refl _)⟩
  rw [hc25]; (try simp only [dT, dF, nT, nF, tF, fT] at hc25)
  refine cj_skip (hK2 _ _ _ (cj_seq fun K7 hK7 => cj_region ?_))
  refine Pa (Ga Tryz.underlying150 Tryz.sizeOf3) ?_
  first | refine Pa (La o3) ?_ | refine Pa (Ls o3) ?_
  refine rj_nil (hK7 _ _ _ (cj_block (cj_seq fun K8 hK8 => cj_region ?_)))
  refine Pa (y_eql rfl rfl) ?_
  refine Ps ?_
  refine rj_nil (hK8 _ _ _ ?_)
  refine cj_cond rfl (fun hc48 => ?_) (fun hc48 => ?_)
  (try simp only [dT, dF, nT, nF, tF, fT] at hc48); subst hc48
  refine cj_seq fun K10 hK10 => cj_region ?_
  refine Pa (Ga Tryz.underlying150 Tryz.sizeOf36) ?_
  first | refine Pa (La o36) ?_ | refine Pa (Ls o36) ?_
  refine Pa (Ca Tryz.call134 (len64_q n hn)) ?_
  first | refine Pa (y_add64 rfl rfl om_) ?_ | refine Pa (y_add rfl rfl) ?_
  refine Pa (y_quo rfl rfl om_) ?_
  refine rj_eq 54 rfl (v' := .int .i64 ((numB n).length : Int)) (by rw [hnb]; exact congrArg _ (quo8 _ hb64)) ?_
  refine Ps ?_
  refine rj_nil (hK10 _ _ _ ?_)
  refine cj_env (eL 0 rfl (eL 3 rfl (eL 4 rfl eN))) ?_
  refine cj_seq fun K11 hK11 => cj_region ?_
  refine Pm ?_
  refine Pa (y_nilCheck rfl) ?_
  refine Pa (Ga Tryz.underlying209 Tryz.sizeOf207) ?_
  refine Ra Tryz.call146 (writeByte_t b q v false bs 110 hq hh (by omega)) ?_
  rintro r R' L' hR ⟨rfl, v1, hh1, rfl⟩
  try simp only [cA, nA]
  refine rj_nil (hK11 _ _ _ (cj_seq fun K12 hK12 => cj_region ?_))
  refine Pm ?_
  refine Pm ?_
  refine Ra Tryz.call147 (wSize_t b (some ⟨b, 0, none⟩) v1 false (bs ++ [110]) (numB n).length (.inr rfl) hh1 (by simp; omega) (by unfold big; omega)) ?_
  rintro r R' L' hR ⟨rfl, v2, hh2, rfl⟩
  obtain ⟨base, hbase⟩ : ∃ base, base = bs ++ [110] ++ sizeB (numB n).length := ⟨_, rfl⟩
  have hbl2 : base.length ≤ 16777300 := by rw [hbase]; simp; omega
  rw [← hbase]
  try simp only [cA, nA]
  refine rj_nil (hK12 _ _ _ (cj_seq fun K13 hK13 => cj_region ?_))
  refine Pm ?_
  first | refine Pa (y_sub64 rfl rfl om_) ?_ | refine Pa (y_sub rfl rfl) ?_
  first | refine Pa (y_mul64 rfl rfl om_) ?_ | refine Pa (y_mul rfl rfl) ?_
  refine Ps ?_
  refine rj_nil (hK13 _ _ _ (cj_block ?_))
  rw [show base = base ++ (numB n).take 0 by simp]
  refine cj_env (E' := (fun (x : Nat × Value) => [(0, .pointer (some ⟨b, 0, none⟩)), (3, .pointer (some ⟨bx, 0, none⟩)), (5, .int .i64 (8 * (((numB n).length : Int) - 1 - x.1)))]) (0, v2)) (eC rfl (eC rfl (Env.le_cons (Eq.trans rfl (congrArg some (by first | rfl | (exact congrArg (Value.int .i64) (by first | omega | (dsimp only; omega)))))) eN))) ?_
  refine cj_sub (M := (fun (x : Nat × Value) => wB b (some ⟨b, 0, none⟩) x.2 false :: wS x.2 (base ++ (numB n).take x.1) :: blk bx [.int .i64 0, .int .u64 (n : Int), .string (str s), .slice sq l.length cap] 150 :: F) (0, v2)) sb_ ?_
  refine cj_loop (fun (x : Nat × Value) => [(0, .pointer (some ⟨b, 0, none⟩)), (3, .pointer (some ⟨bx, 0, none⟩)), (5, .int .i64 (8 * (((numB n).length : Int) - 1 - x.1)))]) (fun (x : Nat × Value) => R) (fun (x : Nat × Value) => wB b (some ⟨b, 0, none⟩) x.2 false :: wS x.2 (base ++ (numB n).take x.1) :: blk bx [.int .i64 0, .int .u64 (n : Int), .string (str s), .slice sq l.length cap] 150 :: F) (fun (x : Nat × Value) => x.1 ≤ (numB n).length ∧ headed x.2) (fun (x : Nat × Value) => (numB n).length - x.1) (0, v2) (⟨by simp, hh2⟩) ?_
  rintro ⟨j, vj⟩ ⟨hj, hhj⟩
  try dsimp only
  dsimp only at hj hhj
  have htl : ((numB n).take j).length = j := by rw [List.length_take]; omega
  refine cj_seq fun K14 hK14 => cj_seq fun K15 hK15 => cj_region ?_
  refine Pm ?_
  refine Pa (y_geq rfl rfl) ?_
  refine rj_nil (hK15 _ _ _ ?_)
  refine cj_cond rfl (fun hc66 => ?_) (fun hc66 => ?_)
  try simp only [dT, dF, nT, nF, tF, fT] at hc66
  refine cj_skip (hK14 _ _ _ (cj_seq fun K17 hK17 => cj_block ?_))
  refine cj_mix [0, 1, 2, 3, 4, 5, 6, 7] [] [8] (by kernel_rfl) (by kernel_rfl) (by kernel_rfl) rfl ?_
  refine Wa rfl (fun R1 hR1 G => (y_move rfl)) ?_
  refine Wa rfl (fun R1 hR1 G => (y_nilCheck rfl)) ?_
  refine Wa rfl (fun R1 hR1 G => (Ga Tryz.underlying209 Tryz.sizeOf207)) ?_
  refine Wa rfl (fun R1 hR1 G => (Ga Tryz.underlying150 Tryz.sizeOf36)) ?_
  first | refine Wa rfl (fun R1 hR1 G => (La o36)) ?_ | refine Wa rfl (fun R1 hR1 G => (Ls o36)) ?_
  refine Wa rfl (fun R1 hR1 G => (y_move rfl)) ?_
  refine Wa rfl (fun R1 hR1 G => (y_shr rfl rfl (by omega)).to (congrArg _ (shr_nat n (8 * ((numB n).length - 1 - j)) _ (by omega) (by simp only [IntKind.bits]; omega)))) ?_
  refine Wa rfl (fun R1 hR1 G => (y_conv Tryz.underlying36 Tryz.underlying5 rfl).to (congrArg _ (wrap8 _))) ?_
  refine fj_nil ?_
  refine xj_nil ?_
  try simp only [cA, nA, List.append_nil]
  refine Ra Tryz.call146 (writeByte_t b _ vj false (base ++ (numB n).take j) _ (.inr rfl) hhj (by simp; omega)) ?_
  rintro r R' L' hR ⟨rfl, v3, hh3, rfl⟩
  rw [List.append_assoc, take_numB n j (by omega)]
  try simp only [cA, nA]
  refine rj_nil (hK17 _ _ _ ?_)
  refine cj_env (eL 0 rfl (eL 3 rfl (eL 5 rfl eN))) ?_
  refine cj_region ?_
  refine Pm ?_
  first | refine Pa (y_sub64 rfl rfl om_) ?_ | refine Pa (y_sub rfl rfl) ?_
  refine Ps ?_
  refine rj_nil ?_
  refine ej_on (q' := roundK _ _ _ _ _ _ _) rfl ?_
  refine ej_round ((j + 1, v3)) (⟨by dsimp only; omega, hh3⟩) (by dsimp only; omega) (eC rfl (eC rfl (Env.le_cons (Eq.trans rfl (congrArg some (by first | rfl | (exact congrArg (Value.int .i64) (by first | omega | (dsimp only; omega)))))) eN))) rfl sb_
  try simp only [dT, dF, nT, nF, tF, fT] at hc66
  refine cj_exit (hend _ _ _ ?_)
  apply ej_end Tryz.results136 .nil _ [wB b (some ⟨b, 0, none⟩) vj false, wS vj (base ++ (numB n).take j)] le_ rfl
  case hp =>
    refine ⟨rfl, some ⟨b, 0, none⟩, vj, false, base ++ (numB n).take j, .inr rfl, hhj, rfl, fun h => (by cases h), fun _ => ?_, fun _ h => (by cases h), .inr (by simp; omega)⟩
    rw [hbase, List.take_of_length_le (by omega), wr]; simp
  case hS => exact sb_
  try simp only [dT, dF, nT, nF, tF, fT] at hc48
  refine cj_seq fun K18 hK18 => cj_region ?_
  refine Pa (y_eql rfl rfl) ?_
  refine Ps ?_
  refine rj_nil (hK18 _ _ _ ?_)
  refine cj_cond rfl (fun hc78 => ?_) (fun hc78 => ?_)
  (try simp only [dT, dF, nT, nF, tF, fT] at hc78); subst hc78
  refine cj_seq fun K20 hK20 => cj_region ?_
  refine Pm ?_
  refine Pa (y_nilCheck rfl) ?_
  refine Pa (Ga Tryz.underlying209 Tryz.sizeOf207) ?_
  refine Ra Tryz.call146 (writeByte_t b q v false bs 115 hq hh (by omega)) ?_
  rintro r R' L' hR ⟨rfl, v1, hh1, rfl⟩
  try simp only [cA, nA]
  refine rj_nil (hK20 _ _ _ (cj_seq fun K21 hK21 => cj_region ?_))
  refine Pm ?_
  refine Pa (Ga Tryz.underlying150 Tryz.sizeOf9) ?_
  first | refine Pa (La o9) ?_ | refine Pa (Ls o9) ?_
  refine Pa (y_slen Tryz.underlying9 rfl) ?_
  refine Ra Tryz.call147 (wSize_t b (some ⟨b, 0, none⟩) v1 false (bs ++ [115]) s.length (.inr rfl) hh1 (by simp; omega) hs0) ?_
  rintro r R' L' hR ⟨rfl, v2, hh2, rfl⟩
  obtain ⟨base, hbase⟩ : ∃ base, base = bs ++ [115] ++ sizeB s.length := ⟨_, rfl⟩
  have hbl2 : base.length ≤ 16777300 := by rw [hbase]; simp; omega
  have hwr : bs ++ wr (.mk 1 n s l) = base ++ s := by rw [hbase, wr]; simp
  rw [← hbase]
  try simp only [cA, nA]
  refine rj_nil (hK21 _ _ _ (cj_seq fun K22 hK22 => cj_seq fun K23 hK23 => ?_))
  refine cj_draw (by kernel_rfl) (by kernel_rfl) ?_
  refine Qa (y_move rfl) ?_
  refine Qa (y_nilCheck rfl) ?_
  refine Qa (Ga Tryz.underlying209 Tryz.sizeOf207) ?_
  refine Qa (Ca Tryz.call137 (bLen_q b _ v2 false base)) ?_
  refine Qa (Ga Tryz.underlying150 Tryz.sizeOf9) ?_
  first | refine Qa (La o9) ?_ | refine Qa (Ls o9) ?_
  refine Qa (y_slen Tryz.underlying9 rfl) ?_
  first | refine Qa (y_add64 rfl rfl om_) ?_ | refine Qa (y_add rfl rfl) ?_
  refine Qa (y_gtr rfl rfl) ?_
  refine qj_nil ?_
  refine hK23 _ _ _ ?_
  refine cj_env (eL 0 rfl (eL 3 rfl (eL 97 rfl eN))) ?_
  refine cj_cond rfl (fun hc97 => ?_) (fun hc97 => ?_)
  try simp only [dT, dF, nT, nF, tF, fT] at hc97
  refine cj_seq fun K25 hK25 => cj_region ?_
  refine Pm ?_
  refine Pa (y_nilCheck rfl) ?_
  refine Pa (Ga Tryz.underlying209 Tryz.sizeOf4) ?_
  refine Sa o4 ?_
  refine rj_nil (hK25 _ _ _ ?_)
  refine cj_env eN ?_
  refine cj_ret (hret _ _ _ ?_)
  refine Ea Tryz.results136 .nil [wB b (some ⟨b, 0, none⟩) v2 true, wS v2 base] le_ ?_
  refine ⟨rfl, some ⟨b, 0, none⟩, v2, true, base, .inr rfl, hh2, rfl, fun h => (by cases h), fun h => (by cases h), fun _ _ => by rw [hwr, List.length_append]; (try simp at hc97); omega, .inr (by omega)⟩
  try simp only [dT, dF, nT, nF, tF, fT] at hc97
  refine cj_skip (hK22 _ _ _ ?_)
  refine cj_mix [0, 1, 2, 3, 4] [] [5] (by kernel_rfl) (by kernel_rfl) (by kernel_rfl) rfl ?_
  refine Wa rfl (fun R1 hR1 G => (y_move rfl)) ?_
  refine Wa rfl (fun R1 hR1 G => (y_nilCheck rfl)) ?_
  refine Wa rfl (fun R1 hR1 G => (Ga Tryz.underlying209 Tryz.sizeOf207)) ?_
  refine Wa rfl (fun R1 hR1 G => (Ga Tryz.underlying150 Tryz.sizeOf9)) ?_
  first | refine Wa rfl (fun R1 hR1 G => (La o9)) ?_ | refine Wa rfl (fun R1 hR1 G => (Ls o9)) ?_
  refine fj_nil ?_
  refine xj_nil ?_
  try simp only [cA, nA, List.append_nil]
  refine Ra Tryz.call148 (writeString_t b _ v2 false base s (.inr rfl) hh2 (by omega) (by (try simp at hc97); omega)) ?_
  rintro r R' L' hR ⟨rfl, v3, hh3, rfl⟩
  try simp only [cA, nA]
  refine rj_nil (hend _ _ _ ?_)
  apply ej_end Tryz.results136 .nil _ [wB b (some ⟨b, 0, none⟩) v3 false, wS v3 (base ++ s)] le_ rfl
  case hp => exact ⟨rfl, some ⟨b, 0, none⟩, v3, false, base ++ s, .inr rfl, hh3, rfl, fun h => (by cases h), fun _ => hwr.symm, fun _ h => (by cases h), .inr (by (try simp at hc97 ⊢); omega)⟩
  case hS => exact sb_
  try simp only [dT, dF, nT, nF, tF, fT] at hc78
  refine cj_seq fun K26 hK26 => cj_region ?_
  refine Pm ?_
  refine Pa (y_nilCheck rfl) ?_
  refine Pa (Ga Tryz.underlying209 Tryz.sizeOf207) ?_
  refine Ra Tryz.call146 (writeByte_t b q v false bs 108 hq hh (by omega)) ?_
  rintro r R' L' hR ⟨rfl, v1, hh1, rfl⟩
  try simp only [cA, nA]
  refine rj_nil (hK26 _ _ _ (cj_seq fun K27 hK27 => cj_region ?_))
  refine Pm ?_
  refine Pa (Ga Tryz.underlying150 Tryz.sizeOf148) ?_
  first | refine Pa (La o148) ?_ | refine Pa (Ls o148) ?_
  first | refine Pa (y_len_sl Tryz.underlying148 rfl) ?_ | refine Pa (y_len_slc Tryz.underlying148 rfl fd_) ?_
  refine Ra Tryz.call147 (wSize_t b (some ⟨b, 0, none⟩) v1 false (bs ++ [108]) l.length (.inr rfl) hh1 (by simp; omega) hl0) ?_
  rintro r R' L' hR ⟨rfl, v2, hh2, rfl⟩
  obtain ⟨base, hbase⟩ : ∃ base, base = bs ++ [108] ++ sizeB l.length := ⟨_, rfl⟩
  have hbl2 : base.length ≤ 16777300 := by rw [hbase]; simp; omega
  have hwr : bs ++ wr (.mk k n s l) = base ++ wrs l := by rw [hbase, wr, if_neg (by simpa using hc48), if_neg (by simpa using hc78)]; simp
  rw [← hbase]
  try simp only [cA, nA]
  refine rj_nil (hK27 _ _ _ (cj_seq fun K28 hK28 => cj_region ?_))
  refine Pa (Ga Tryz.underlying150 Tryz.sizeOf148) ?_
  first | refine Pa (La o148) ?_ | refine Pa (Ls o148) ?_
  first | refine Pa (y_len_sl Tryz.underlying148 rfl) ?_ | refine Pa (y_len_slc Tryz.underlying148 rfl fd_) ?_
  refine Pm ?_
  refine rj_nil (hK28 _ _ _ (cj_block ?_))
  refine cj_env (E' := (fun (x : Nat × Option Addr × Value × Bool × List UInt8) => [(0, .pointer (some ⟨b, 0, none⟩)), (38, .slice sq l.length cap), (39, .int .i64 (l.length : Int)), (40, .int .i64 (x.1 : Int))]) (0, some ⟨b, 0, none⟩, v2, false, base)) (eC rfl (eC rfl (eC rfl (eC rfl eN)))) ?_
  refine cj_sub (M := (fun (x : Nat × Option Addr × Value × Bool × List UInt8) => wB b x.2.1 x.2.2.1 x.2.2.2.1 :: wS x.2.2.1 x.2.2.2.2 :: F) (0, some ⟨b, 0, none⟩, v2, false, base)) sb_ ?_
  refine cj_loop (fun (x : Nat × Option Addr × Value × Bool × List UInt8) => [(0, .pointer (some ⟨b, 0, none⟩)), (38, .slice sq l.length cap), (39, .int .i64 (l.length : Int)), (40, .int .i64 (x.1 : Int))]) (fun (x : Nat × Option Addr × Value × Bool × List UInt8) => R) (fun (x : Nat × Option Addr × Value × Bool × List UInt8) => wB b x.2.1 x.2.2.1 x.2.2.2.1 :: wS x.2.2.1 x.2.2.2.2 :: F) (fun (x : Nat × Option Addr × Value × Bool × List UInt8) => x.1 ≤ l.length ∧ own1 b x.2.1 ∧ headed x.2.2.1 ∧ (x.2.2.2.1 = false → x.2.2.2.2 = base ++ wrs (l.take x.1)) ∧ (x.2.2.2.1 = true → 16777216 < (base ++ wrs (l.take x.1)).length) ∧ x.2.2.2.2.length ≤ 16777316) (fun (x : Nat × Option Addr × Value × Bool × List UInt8) => l.length - x.1) (0, some ⟨b, 0, none⟩, v2, false, base) (⟨by simp, .inr rfl, hh2, fun _ => by simp [wrs], fun h => (by cases h), by dsimp only; omega⟩) ?_
  rintro ⟨i, qi, vi, badi, bsi⟩ ⟨hi, hqi, hhi, hki, hbi, hli⟩
  try dsimp only
  dsimp only at hi hqi hhi hki hbi hli
  refine cj_seq fun K29 hK29 => cj_region ?_
  refine Pa (y_lss rfl rfl) ?_
  refine rj_nil (hK29 _ _ _ (cj_seq fun K30 hK30 => ?_))
  refine cj_cond rfl (fun hc41 => ?_) (fun hc41 => ?_)
  try simp only [dT, dF, nT, nF, tF, fT] at hc41
  refine cj_skip (hK30 _ _ _ (cj_seq fun K32 hK32 => cj_block (cj_seq fun K33 hK33 => cj_region ?_)))
  obtain ⟨x1, hx1⟩ : ∃ x, l[i]? = some x := ⟨l[i]'(by omega), by simp⟩
  obtain ⟨bb, off, cs, rfl, hc4, hrep, hcell⟩ := hl.at hx1
  have hm1 := List.mem_of_getElem? hx1
  obtain ⟨k1, n1, s1, l1, q1, cap1, rfl, rfl, hs1, hl1⟩ := hrep.inv
  first | refine Pa (y_indexAddr Tryz.underlying148 Tryz.sizeOf150 rfl rfl om_) ?_ | refine Pa (y_index_slc Tryz.underlying148 Tryz.sizeOf150 rfl rfl fd_ om_) ?_
  refine Pa ((y_loads_ro m150 hc4 rfl (fun j u hj => by simpa using hcell j u hj))) ?_
  refine rj_alloc (wn0 rfl) rfl Tryz.zeroValue150 rfl (fun b7 => ?_)
  refine rj_stores m150 rfl (wn0 rfl) rfl rfl (by (first | (simp [Value.oneCell']; done) | (intro u hu; simp only [List.mem_cons, List.not_mem_nil, or_false] at hu; rcases hu with rfl | rfl | rfl | rfl <;> first | rfl | assumption))) fd_ (by (simp)) rfl ?_
  refine rj_nil (hK33 _ _ _ ?_)
  refine cj_env (eL 0 rfl (eL 7 rfl (eL 38 rfl (eL 39 rfl (eL 40 rfl eN))))) ?_
  refine cj_region ?_
  refine Pm ?_
  first | refine Pa (Lb m150) ?_ | refine Pa (y_loads_slc m150 rfl fd_ rfl rfl om_) ?_
  refine Ra Tryz.call136 (ih (SizeOf.sizeOf (Nd.mk k1 n1 s1 l1)) (by have := List.sizeOf_lt_of_mem hm1; simp at hN this ⊢; omega) _ _ b qi vi badi bsi (Nat.le_refl _) hrep (hkids _ hm1) hqi hhi hli) ?_
  rintro r R' L' hR ⟨rfl, q', v', bad', bs', hq', hh', rfl, w1, w2, w3, w4⟩
  have w5 : bad' = false → badi = false := fun h => by cases hb : badi; rfl; have hw := w1 hb; rw [hw] at h; cases h
  have w6 : bad' = true → 16777216 < (base ++ wrs (l.take (i + 1))).length := fun h => by cases hb : badi; have := w3 hb h; rw [hki hb] at this; rw [wrs_take hx1, ← List.append_assoc]; exact this; have := hbi hb; rw [wrs_take hx1]; simp at this ⊢; omega
  try simp only [cA, nA]
  refine rj_nil (hK32 _ _ _ (cj_region ?_))
  first | refine Pa (y_add64 rfl rfl om_) ?_ | refine Pa (y_add rfl rfl) ?_
  refine Pm ?_
  refine rj_nil ?_
  refine ej_on (q' := roundK _ _ _ _ _ _ _) rfl ?_
  refine ej_round ((i + 1, q', v', bad', bs')) (⟨by dsimp only; omega, hq', hh', fun hf => by dsimp only at hf ⊢; rw [w2 hf, hki (w5 hf), wrs_take hx1, List.append_assoc], fun ht => w6 ht, by dsimp only; omega⟩) (by dsimp only; omega) (eC rfl (eC rfl (eC rfl (eC rfl eN)))) rfl sb_
  try simp only [dT, dF, nT, nF, tF, fT] at hc41
  refine cj_exit (hend _ _ _ ?_)
  apply ej_end Tryz.results136 .nil _ [wB b qi vi badi, wS vi bsi] le_ rfl
  case hp =>
    refine ⟨rfl, qi, vi, badi, bsi, hqi, hhi, rfl, fun h => (by cases h), fun h => ?_, fun _ h => ?_, .inr hli⟩
    · rw [hwr, hki h, List.take_of_length_le (by omega)]
    · rw [hwr]; have := hbi h; rwa [List.take_of_length_le (by omega)] at this
  case hS => exact sb_
noncomputable def writeM (x : Nd) : List UInt8 × Bool := if rightB 20 x = true ∧ (wr x).length ≤ 16777216 then (wr x, true) else ([], false)
theorem write_t {R : Hp} (x : Nd) (cx : List Value) (hx : RepN R x cx) (hok : OkN x) : QTri Tryz.prog 122 [.agg ⟨cx⟩] R [] (.tuple #[.string (str (writeM x).1), .bool (writeM x).2]) := by
  obtain ⟨k, n, s, l, q, cap, rfl, rfl, hs, hl⟩ := hx.inv
  obtain ⟨x, hxe⟩ : ∃ x, x = Nd.mk k n s l := ⟨_, rfl⟩
  have h2 := wr_len x
  refine Tri.q ?_
  refine tri_of Tryz.func122 rfl Tryz.ntmps122 rfl (fun σ F Q hret hend hpan => ?_)
  try simp only [cA, nA]
  refine cj_seq fun K1 hK1 => cj_region ?_
  refine rj_box (wn0 rfl) rfl rfl rfl (fun b1 => ?_)
  refine Ps ?_
  refine Ps ?_
  refine rj_nil (hK1 _ _ _ (cj_seq fun K2 hK2 => cj_seq fun K3 hK3 => cj_region ?_))
  first | refine Pa (Lb m150) ?_ | refine Pa (y_loads_slc m150 rfl fd_ rfl rfl om_) ?_
  refine Pa (Ca Tryz.call135 (isRight_q _ _ hx)) ?_
  refine Pa (y_not rfl) ?_
  refine rj_nil (hK3 _ _ _ ?_)
  refine cj_cond rfl (fun hc7 => ?_) (fun hc7 => ?_)
  (try simp only [dT, dF, nT, nF, tF, fT] at hc7); have hr : ¬ rightB 20 x = true := by rw [hxe]; simpa using hc7
  refine cj_seq fun K5 hK5 => cj_region ?_
  refine Ps ?_
  refine Ps ?_
  refine rj_nil (hK5 _ _ _ (cj_ret (hret _ _ _ ?_)))
  refine Ea Tryz.results122 (.cons (rv_tmp rfl) (.cons (rv_tmp rfl) .nil)) [] le_ ?_
  rw [← hxe, show writeM x = ([], false) by unfold writeM; rw [if_neg (fun h => hr h.1)]]; exact ⟨rfl, rfl, rfl⟩
  (try simp only [dT, dF, nT, nF, tF, fT] at hc7); have hr : rightB 20 x = true := by rw [hxe]; simpa using hc7
  refine cj_skip (hK2 _ _ _ (cj_seq fun K6 hK6 => cj_region ?_))
  refine rj_alloc (wn0 rfl) rfl Tryz.zeroValue209 rfl (fun bw => ?_)
  refine rj_add (A := wS (.slice none 0 0) []) (slc_nil _ _) ?_
  refine rj_nil (hK6 _ _ _ (cj_seq fun K7 hK7 => cj_region ?_))
  first | refine Pa (Lb m150) ?_ | refine Pa (y_loads_slc m150 rfl fd_ rfl rfl om_) ?_
  refine Ra Tryz.call136 (wNode_t _ _ _ bw none (.slice none 0 0) false [] (Nat.le_refl _) hx hok (.inl rfl) headed_nil (by simp)) ?_
  rintro r R' L' hR ⟨rfl, q', v', bad', bs', hq', hh', rfl, w1, w2, w3, w4⟩
  rw [← hxe] at w2 w3
  simp only [List.nil_append] at w2 w3
  try simp only [cA, nA]
  refine rj_nil (hK7 _ _ _ (cj_seq fun K8 hK8 => cj_seq fun K9 hK9 => cj_region ?_))
  refine Pa (Ga Tryz.underlying209 Tryz.sizeOf4) ?_
  first | refine Pa (La o4) ?_ | refine Pa (Ls o4) ?_
  refine Pm ?_
  refine rj_part 12 rfl (fun hg12 => ?_) (fun hg12 => ?_)
  (try simp only [dT, dF, nT, nF, tF, fT] at hg12); have hr2 : ¬ (wr x).length ≤ 16777216 := by have := w3 trivial (by simpa using hg12); omega
  refine Pk ?_
  refine Pk ?_
  refine Pk ?_
  refine Pa (y_pick_t rfl rfl) ?_
  refine rj_nil (hK9 _ _ _ (cj_cond_t rfl (cj_seq fun K10 hK10 => cj_region ?_)))
  refine Ps ?_
  refine Ps ?_
  refine rj_nil (hK10 _ _ _ (cj_ret (hret _ _ _ ?_)))
  refine Ea Tryz.results122 (.cons (rv_tmp rfl) (.cons (rv_tmp rfl) .nil)) [] le_ ?_
  rw [← hxe, show writeM x = ([], false) by unfold writeM; rw [if_neg (fun h => hr2 h.2)]]; exact ⟨rfl, rfl, rfl⟩
  (try simp only [dT, dF, nT, nF, tF, fT] at hg12); have e1 : bs' = wr x := w2 (by simpa using hg12)
  subst e1
  refine Pb (Ga Tryz.underlying209 Tryz.sizeOf207) ?_
  refine Pb (Ca Tryz.call137 (bLen_q bw q' v' bad' (wr x))) ?_
  refine Pb (y_gtr rfl rfl) ?_
  refine Pa (y_pick_f rfl rfl) ?_
  refine rj_nil (hK9 _ _ _ ?_)
  refine cj_env (eL 4 rfl (eL 16 rfl eN)) ?_
  refine cj_cond rfl (fun hc16 => ?_) (fun hc16 => ?_)
  try simp only [dT, dF, nT, nF, tF, fT] at hc16
  refine cj_seq fun K12 hK12 => cj_region ?_
  refine Ps ?_
  refine Ps ?_
  refine rj_nil (hK12 _ _ _ (cj_ret (hret _ _ _ ?_)))
  refine Ea Tryz.results122 (.cons (rv_tmp rfl) (.cons (rv_tmp rfl) .nil)) [] le_ ?_
  rw [← hxe, show writeM x = ([], false) by unfold writeM; rw [if_neg (fun h => by have := h.2; (try simp at hc16); omega)]]; exact ⟨rfl, rfl, rfl⟩
  try simp only [dT, dF, nT, nF, tF, fT] at hc16
  refine cj_skip (hK8 _ _ _ (cj_seq fun K13 hK13 => cj_region ?_))
  refine Pa (Ga Tryz.underlying209 Tryz.sizeOf207) ?_
  refine Ra Tryz.call138 (bString_t bw q' v' bad' (wr x) hh' (by omega) (by (try simp at hc16); omega)) ?_
  rintro r R' L' hR ⟨rfl, rfl, rfl⟩
  try simp only [cA, nA]
  refine Ps ?_
  refine Ps ?_
  refine rj_nil (hK13 _ _ _ (cj_ret (hret _ _ _ ?_)))
  refine Ea Tryz.results122 (.cons (rv_tmp rfl) (.cons (rv_tmp rfl) .nil)) [] le_ ?_
  rw [← hxe, show writeM x = (wr x, true) by unfold writeM; rw [if_pos ⟨hr, by (try simp at hc16); omega⟩]]; exact ⟨rfl, rfl, rfl⟩
end V
end Go.Proofs.YtenfjpigffjgmaaGreat
set_option linter.unusedSimpArgs false
set_option linter.unusedVariables false
set_option maxRecDepth 100000
namespace Go.Proofs.YtenfjpigffjgmaaGreat
open Go.RowKit
namespace V
set_option maxHeartbeats 1000000
@[reducible] def rB (b : Nat) (s : List UInt8) (bad : Bool) : Asn := blk b [.string (str s), .bool bad] 174
def takeR (s : List UInt8) (bad : Bool) (n : Nat) : List UInt8 × List UInt8 × Bool := if bad = true ∨ s.length < n then ([], s, true) else (s.take n, s.drop n, false)
theorem takeR_bad (s : List UInt8) (n : Nat) : takeR s true n = ([], s, true) := by simp [takeR]
theorem rtake_t {R : Hp} (b : Nat) (s : List UInt8) (bad : Bool) (n : Nat) (hs : s.length ≤ big) (hn : n ≤ big) : Tri Tryz.prog 115 [.pointer (some ⟨b, 0, none⟩), .int .i64 (n : Int)] R [rB b s bad]
    (fun r R' L' => R = R' ∧ r = .string (str (takeR s bad n).1) ∧ L' = [rB b (takeR s bad n).2.1 (takeR s bad n).2.2]) := by
  unfold big at hs hn
  refine tri_of Tryz.func115 rfl Tryz.ntmps115 rfl (fun σ F Q hret hend hpan => ?_)
  try simp only [cA, nA]
  refine cj_seq fun K1 hK1 => cj_region ?_
  refine Ps ?_
  refine rj_nil (hK1 _ _ _ (cj_seq fun K2 hK2 => cj_seq fun K3 hK3 => cj_region ?_))
  refine Pm ?_
  refine Pa (y_nilCheck rfl) ?_
  refine Pa (Ga Tryz.underlying174 Tryz.sizeOf4) ?_
  first | refine Pa (La o4) ?_ | refine Pa (Ls o4) ?_
  refine Pm ?_
  refine rj_part 10 rfl (fun hg10 => ?_) (fun hg10 => ?_)
  subst hg10
  refine Pk ?_
  refine Pk ?_
  refine Pk ?_
  refine Pk ?_
  refine Pk ?_
  refine Pk ?_
  refine Pk ?_
  refine Pa (y_pick_t rfl rfl) ?_
  refine rj_nil (hK3 _ _ _ (cj_cond_t rfl (cj_seq fun K4 hK4 => cj_region ?_)))
  refine Pm ?_
  refine Pa (y_nilCheck rfl) ?_
  refine Pa (Ga Tryz.underlying174 Tryz.sizeOf4) ?_
  refine Sa o4 ?_
  refine rj_nil (hK4 _ _ _ ?_)
  refine cj_env eN ?_
  refine cj_seq fun K5 hK5 => cj_region ?_
  refine Ps ?_
  refine rj_nil (hK5 _ _ _ (cj_ret (hret _ _ _ ?_)))
  refine Ea Tryz.results115 (.cons (rv_tmp rfl) .nil) [rB b s true] le_ ?_
  rw [show takeR s true n = ([], s, true) from takeR_bad s n]; exact ⟨rfl, rfl, rfl⟩
  subst hg10
  refine Pb (y_move rfl) ?_
  refine Pb (y_move rfl) ?_
  refine Pb (y_nilCheck rfl) ?_
  refine Pb (Ga Tryz.underlying174 Tryz.sizeOf9) ?_
  first | refine Pb (La o9) ?_ | refine Pb (Ls o9) ?_
  refine Pb (y_slen Tryz.underlying9 rfl) ?_
  refine Pb (y_gtr rfl rfl) ?_
  refine Pa (y_pick_f rfl rfl) ?_
  refine rj_nil (hK3 _ _ _ ?_)
  refine cj_env (eL 0 rfl (eL 1 rfl (eL 18 rfl eN))) ?_
  refine cj_cond rfl (fun hc18 => ?_) (fun hc18 => ?_)
  try simp only [dT, dF, nT, nF, tF, fT] at hc18
  refine cj_seq fun K7 hK7 => cj_region ?_
  refine Pm ?_
  refine Pa (y_nilCheck rfl) ?_
  refine Pa (Ga Tryz.underlying174 Tryz.sizeOf4) ?_
  refine Sa o4 ?_
  refine rj_nil (hK7 _ _ _ ?_)
  refine cj_env eN ?_
  refine cj_seq fun K8 hK8 => cj_region ?_
  refine Ps ?_
  refine rj_nil (hK8 _ _ _ (cj_ret (hret _ _ _ ?_)))
  refine Ea Tryz.results115 (.cons (rv_tmp rfl) .nil) [rB b s true] le_ ?_
  rw [show takeR s false n = ([], s, true) by unfold takeR; rw [if_pos (.inr (by simp at hc18; omega))]]; exact ⟨rfl, rfl, rfl⟩
  try simp only [dT, dF, nT, nF, tF, fT] at hc18
  refine cj_skip (hK2 _ _ _ (cj_seq fun K9 hK9 => cj_region ?_))
  refine Pm ?_
  refine Pa (y_nilCheck rfl) ?_
  refine Pa (Ga Tryz.underlying174 Tryz.sizeOf9) ?_
  first | refine Pa (La o9) ?_ | refine Pa (Ls o9) ?_
  refine Pm ?_
  refine Pa (y_slice_s_hi Tryz.underlying9 rfl rfl om_) ?_
  refine Ps ?_
  refine rj_nil (hK9 _ _ _ (cj_seq fun K10 hK10 => cj_region ?_))
  refine Pm ?_
  refine Pm ?_
  refine Pa (y_nilCheck rfl) ?_
  refine Pa (Ga Tryz.underlying174 Tryz.sizeOf9) ?_
  first | refine Pa (La o9) ?_ | refine Pa (Ls o9) ?_
  refine Pm ?_
  refine Pa (y_slice_s_lo Tryz.underlying9 rfl rfl om_) ?_
  refine Pa (y_nilCheck rfl) ?_
  refine Pa (Ga Tryz.underlying174 Tryz.sizeOf9) ?_
  refine Sa o9 ?_
  refine rj_nil (hK10 _ _ _ ?_)
  refine cj_env (eL 5 rfl eN) ?_
  refine cj_seq fun K11 hK11 => cj_region ?_
  refine Pm ?_
  refine Ps ?_
  refine rj_nil (hK11 _ _ _ (cj_ret (hret _ _ _ ?_)))
  refine Ea Tryz.results115 (.cons (rv_tmp rfl) .nil) [rB b (s.drop n) false] le_ ?_
  rw [show takeR s false n = (s.take n, s.drop n, false) by unfold takeR; rw [if_neg (by simp at hc18 ⊢; omega)]]; exact ⟨rfl, rfl, rfl⟩
theorem and127 (u : UInt8) : bitAnd .u8 (u.toNat : Int) 127 = ((u.toNat % 128 : Nat) : Int) := by
  have key : ∀ A : Fin 256, bitAnd .u8 ((A.val : Nat) : Int) 127 = ((A.val % 128 : Nat) : Int) := by decide +kernel
  exact key ⟨u.toNat, u.toNat_lt⟩
theorem or_add (A B s : Nat) (hA : A < 2 ^ s) (h : A + B * 2 ^ s < 9223372036854775808) : bitOr .i64 ((A : Nat) : Int) ((B * 2 ^ s : Nat) : Int) = ((A + B * 2 ^ s : Nat) : Int) := by
  have h2 : (BitVec.ofInt 64 (A : Int) ||| BitVec.ofInt 64 ((B * 2 ^ s : Nat) : Int)).toNat = A + B * 2 ^ s := by
    simp only [BitVec.ofInt_natCast, BitVec.toNat_or, BitVec.toNat_ofNat]
    rw [Nat.mod_eq_of_lt (by omega), Nat.mod_eq_of_lt (by omega)]
    have := Nat.two_pow_add_eq_or_of_lt (i := s) (b := A) hA B
    rw [Nat.mul_comm B, Nat.or_comm, ← this]; omega
  have h3 : bitOr .i64 ((A : Nat) : Int) ((B * 2 ^ s : Nat) : Int) = IntKind.i64.wrap ((A + B * 2 ^ s : Nat) : Int) := by rw [← h2]; rfl
  rw [h3]
  exact wrap_i64_in ⟨by omega, by omega⟩
theorem shl_nat (m j : Nat) (z : Int) (hz : z = j) (hj : j ≤ 63) (h : m * 2 ^ j < 9223372036854775808) : IntKind.i64.wrap ((m : Int) * 2 ^ min z.toNat IntKind.i64.bits) = ((m * 2 ^ j : Nat) : Int) := by
  subst hz
  have : min (j : Int).toNat IntKind.i64.bits = j := by simp only [IntKind.bits, Int.toNat_natCast]; omega
  rw [this]
  have e : ((m : Int) * 2 ^ j) = ((m * 2 ^ j : Nat) : Int) := by rw [Int.natCast_mul, Int.natCast_pow]; rfl
  rw [e]
  exact wrap_i64_in ⟨by omega, by omega⟩
theorem takeR_one_t {s : List UInt8} (h : (takeR s false 1).2.2 = true) : s = [] := by
  cases s with
  | nil => rfl
  | cons u r => simp [takeR] at h
theorem takeR_one_f {s : List UInt8} (h : (takeR s false 1).2.2 = false) : ∃ u r, s = u :: r := by
  cases s with
  | nil => simp [takeR] at h
  | cons u r => exact ⟨u, r, rfl⟩
theorem takeR_one (u : UInt8) (r : List UInt8) : takeR (u :: r) false 1 = ([u], r, false) := by simp [takeR]
theorem rsizeBad_t {R : Hp} (b : Nat) (s : List UInt8) (hs : s.length ≤ big) : Tri Tryz.prog 116 [.pointer (some ⟨b, 0, none⟩)] R [rB b s true]
    (fun r R' L' => R = R' ∧ r = .int .i64 0 ∧ L' = [rB b s true]) := by
  refine tri_of Tryz.func116 rfl Tryz.ntmps116 rfl (fun σ F Q hret hend hpan => ?_)
  try simp only [cA, nA]
  refine cj_seq fun K1 hK1 => cj_region ?_
  refine Ps ?_
  refine rj_nil (hK1 _ _ _ (cj_seq fun K2 hK2 => cj_region ?_))
  refine Ps ?_
  refine rj_nil (hK2 _ _ _ (cj_seq fun K3 hK3 => cj_seq fun K4 hK4 => cj_region ?_))
  refine Pm ?_
  refine rj_nil (hK4 _ _ _ (cj_block ?_))
  refine cj_loop_once ?_
  refine cj_seq fun K5 hK5 => cj_region ?_
  refine Pa (y_lss rfl rfl) ?_
  refine rj_nil (hK5 _ _ _ (cj_seq fun K6 hK6 => cj_cond_t rfl (cj_skip (hK6 _ _ _ (cj_seq fun K7 hK7 => cj_block (cj_seq fun K8 hK8 => cj_region ?_))))))
  refine Pm ?_
  refine Ps ?_
  refine rj_nil (hK8 _ _ _ (cj_seq fun K9 hK9 => cj_region ?_))
  refine Pm ?_
  refine Ra Tryz.call115 (rtake_t b s true 1 hs (by decide)) ?_
  rintro r R' L' hR ⟨rfl, rfl, rfl⟩
  rw [takeR_bad]
  try simp only [cA, nA]
  refine Ps ?_
  refine rj_nil (hK9 _ _ _ (cj_seq fun K10 hK10 => cj_seq fun K11 hK11 => cj_region ?_))
  refine Pm ?_
  refine Pa (y_nilCheck rfl) ?_
  refine Pa (Ga Tryz.underlying174 Tryz.sizeOf4) ?_
  first | refine Pa (La o4) ?_ | refine Pa (Ls o4) ?_
  refine rj_nil (hK11 _ _ _ ?_)
  refine cj_cond rfl (fun hc14 => ?_) (fun hc14 => ?_)
  try simp only [dT, dF, nT, nF, tF, fT] at hc14
  refine cj_seq fun K13 hK13 => cj_region ?_
  refine Ps ?_
  refine rj_nil (hK13 _ _ _ (cj_ret (hret _ _ _ ?_)))
  refine Ea Tryz.results116 (.cons (rv_tmp rfl) .nil) [rB b s true] le_ ?_
  exact ⟨rfl, rfl, rfl⟩
  · cases hc14
def Sized (s : List UInt8) (r : Value) (m : Nat) (s' : List UInt8) (bad' : Bool) : Prop :=
  r = .int .i64 (m : Int) ∧ s'.length ≤ s.length ∧ m < 268435456 ∧ (∀ n q, szM 4 0 0 s = some (n, q) → m = n ∧ s' = q ∧ bad' = false) ∧ (szM 4 0 0 s = none → bad' = true)
theorem sized_last {s r1 : List UInt8} {i acc : Nat} {u : UInt8} (hsz : szM 4 0 0 s = if u.toNat = 0 ∧ i > 0 then none else some (acc + u.toNat * 128 ^ i, r1)) (hu : u.toNat < 128) (hl : r1.length ≤ s.length)
    (hm : acc + u.toNat % 128 * 2 ^ (7 * i) < 268435456) {bad : Bool} (hb : bad = decide (u.toNat = 0 ∧ i > 0)) : Sized s (.int .i64 ((acc + u.toNat % 128 * 2 ^ (7 * i) : Nat) : Int)) (acc + u.toNat % 128 * 2 ^ (7 * i)) r1 bad := by
  have e : acc + u.toNat % 128 * 2 ^ (7 * i) = acc + u.toNat * 128 ^ i := by rw [Nat.pow_mul, Nat.mod_eq_of_lt hu]
  refine ⟨rfl, hl, hm, fun n q h => ?_, fun h => ?_⟩
  · rw [hsz] at h
    split at h
    · cases h
    · rename_i hc
      simp only [Option.some.injEq, Prod.mk.injEq] at h
      exact ⟨by rw [e, h.1], h.2, by rw [hb]; exact decide_eq_false hc⟩
  · rw [hsz] at h
    split at h
    · rename_i hc; rw [hb]; exact decide_eq_true hc
    · cases h
theorem rsize_t {R : Hp} (b : Nat) (s : List UInt8) (hs : s.length ≤ big) : Tri Tryz.prog 116 [.pointer (some ⟨b, 0, none⟩)] R [rB b s false]
    (fun r R' L' => R = R' ∧ ∃ m s' bad', Sized s r m s' bad' ∧ L' = [rB b s' bad']) := by
  refine tri_of Tryz.func116 rfl Tryz.ntmps116 rfl (fun σ F Q hret hend hpan => ?_)
  try simp only [cA, nA]
  refine cj_seq fun K1 hK1 => cj_region ?_
  refine Ps ?_
  refine rj_nil (hK1 _ _ _ (cj_seq fun K2 hK2 => cj_region ?_))
  refine Ps ?_
  refine rj_nil (hK2 _ _ _ (cj_seq fun K3 hK3 => cj_seq fun K4 hK4 => cj_region ?_))
  refine Pm ?_
  refine rj_nil (hK4 _ _ _ (cj_block ?_))
  refine cj_env (E' := (fun (x : Nat × Nat × List UInt8) => [(0, .pointer (some ⟨b, 0, none⟩)), (3, .int .i64 (x.2.1 : Int)), (6, .int .i64 (x.1 : Int))]) (0, 0, s)) (eC rfl (eC rfl (eC rfl eN))) ?_
  refine cj_sub (M := (fun (x : Nat × Nat × List UInt8) => rB b x.2.2 false :: F) (0, 0, s)) sb_ ?_
  refine cj_loop (fun (x : Nat × Nat × List UInt8) => [(0, .pointer (some ⟨b, 0, none⟩)), (3, .int .i64 (x.2.1 : Int)), (6, .int .i64 (x.1 : Int))]) (fun (x : Nat × Nat × List UInt8) => R) (fun (x : Nat × Nat × List UInt8) => rB b x.2.2 false :: F) (fun (x : Nat × Nat × List UInt8) => x.1 ≤ 4 ∧ x.2.1 < 128 ^ x.1 ∧ szM 4 0 0 s = szM (4 - x.1) x.1 x.2.1 x.2.2 ∧ x.2.2.length ≤ s.length) (fun (x : Nat × Nat × List UInt8) => 4 - x.1) (0, 0, s) (⟨by simp, by simp, rfl, Nat.le_refl _⟩) ?_
  rintro ⟨i, acc, s1⟩ ⟨hi, ha, hz, hl⟩
  try dsimp only
  dsimp only at hi ha hz hl
  refine cj_seq fun K5 hK5 => cj_region ?_
  refine Pa (y_lss rfl rfl) ?_
  refine rj_nil (hK5 _ _ _ (cj_seq fun K6 hK6 => ?_))
  refine cj_cond rfl (fun hc7 => ?_) (fun hc7 => ?_)
  try simp only [dT, dF, nT, nF, tF, fT] at hc7
  refine cj_skip (hK6 _ _ _ (cj_seq fun K8 hK8 => cj_block (cj_seq fun K9 hK9 => cj_region ?_)))
  obtain ⟨f, hf⟩ : ∃ f, 4 - i = f + 1 := ⟨3 - i, by omega⟩
  have h7 : (2 : Nat) ^ (7 * i) = 128 ^ i := by rw [Nat.pow_mul]
  have hp : 128 ^ i ≤ 128 ^ 3 := Nat.pow_le_pow_right (by omega) (by omega)
  have hp3 : (128 : Nat) ^ 3 = 2097152 := by decide
  refine Pm ?_
  refine Ps ?_
  refine rj_nil (hK9 _ _ _ (cj_seq fun K10 hK10 => cj_region ?_))
  refine Pm ?_
  refine Ra Tryz.call115 (rtake_t b s1 false 1 (Nat.le_trans hl hs) (by decide)) ?_
  rintro r R' L' hR ⟨rfl, rfl, rfl⟩
  try simp only [cA, nA]
  refine Ps ?_
  refine rj_nil (hK10 _ _ _ (cj_seq fun K11 hK11 => cj_seq fun K12 hK12 => cj_region ?_))
  refine Pm ?_
  refine Pa (y_nilCheck rfl) ?_
  refine Pa (Ga Tryz.underlying174 Tryz.sizeOf4) ?_
  first | refine Pa (La o4) ?_ | refine Pa (Ls o4) ?_
  refine rj_nil (hK12 _ _ _ ?_)
  refine cj_cond rfl (fun hc14 => ?_) (fun hc14 => ?_)
  obtain rfl := takeR_one_t hc14
  rw [show takeR [] false 1 = ([], [], true) by simp [takeR]]
  refine cj_seq fun K14 hK14 => cj_region ?_
  refine Ps ?_
  refine rj_nil (hK14 _ _ _ (cj_ret (hret _ _ _ ?_)))
  refine Ea Tryz.results116 (.cons (rv_tmp rfl) .nil) [rB b [] true] le_ ?_
  refine ⟨rfl, 0, [], true, ⟨rfl, by simp, by decide, fun n q h => ?_, fun _ => rfl⟩, rfl⟩
  rw [hz, hf] at h; cases h
  obtain ⟨u, r1, rfl⟩ := takeR_one_f hc14
  rw [takeR_one]
  have hm1 : u.toNat % 128 * 2 ^ (7 * i) ≤ 127 * 128 ^ i := by rw [h7]; exact Nat.mul_le_mul_right _ (by omega)
  have hul := u.toNat_lt
  refine cj_skip (hK11 _ _ _ (cj_seq fun K15 hK15 => cj_region ?_))
  refine Pm ?_
  refine Pm ?_
  refine Pa (y_index_s Tryz.underlying9 rfl rfl om_) ?_
  refine rj_eq 17 rfl (v' := .int .u8 (u.toNat : Int)) rfl ?_
  refine Pa (y_and rfl rfl) ?_
  refine rj_eq 18 rfl (congrArg _ (and127 u)) ?_
  first | refine Pa (y_conv_in Tryz.underlying5 Tryz.underlying3 rfl (by (simp only [IntKind.min, IntKind.max, IntKind.signed, IntKind.bits, Bool.false_eq_true, ite_false, ite_true]; omega))) ?_ | refine Pa (y_conv Tryz.underlying5 Tryz.underlying3 rfl) ?_
  refine Pm ?_
  first | refine Pa (y_mul64 rfl rfl om_) ?_ | refine Pa (y_mul rfl rfl) ?_
  refine Pa (y_shl rfl rfl om_) ?_
  refine rj_eq 22 rfl (congrArg _ (shl_nat (u.toNat % 128) (7 * i) _ (by omega) (by omega) (by omega))) ?_
  refine Pa (y_or rfl rfl) ?_
  refine rj_eq 23 rfl (congrArg _ (or_add acc (u.toNat % 128) (7 * i) (by rw [h7]; exact ha) (by omega))) ?_
  refine Ps ?_
  refine rj_nil (hK15 _ _ _ ?_)
  refine cj_env (eL 0 rfl (eL 3 rfl (eL 4 rfl (eL 5 rfl (eL 6 rfl eN))))) ?_
  refine cj_seq fun K16 hK16 => cj_region ?_
  refine Pm ?_
  refine Pa (y_index_s Tryz.underlying9 rfl rfl om_) ?_
  refine rj_eq 25 rfl (v' := .int .u8 (u.toNat : Int)) rfl ?_
  refine Pa (y_lss rfl rfl) ?_
  refine rj_nil (hK16 _ _ _ ?_)
  refine cj_cond rfl (fun hc26 => ?_) (fun hc26 => ?_)
  (try simp only [dT, dF, nT, nF, tF, fT] at hc26)
  have hsz : szM 4 0 0 s = if u.toNat = 0 ∧ i > 0 then none else some (acc + u.toNat * 128 ^ i, r1) := by rw [hz, hf, szM, if_pos (by (try simp at hc26); omega)]
  refine cj_seq fun K18 hK18 => cj_region ?_
  refine Pm ?_
  refine Pm ?_
  refine Pa (y_index_s Tryz.underlying9 rfl rfl om_) ?_
  refine rj_eq 29 rfl (v' := .int .u8 (u.toNat : Int)) rfl ?_
  refine Pa (y_eql rfl rfl) ?_
  refine Pm ?_
  refine rj_part 31 rfl (fun hg31 => ?_) (fun hg31 => ?_)
  (try simp only [dT, dF, nT, nF, tF, fT] at hg31)
  refine Pb (y_move rfl) ?_
  refine Pb (y_gtr rfl rfl) ?_
  refine Pa (y_pick_t rfl rfl) ?_
  refine Pa (y_nilCheck rfl) ?_
  refine Pa (Ga Tryz.underlying174 Tryz.sizeOf4) ?_
  refine Sa o4 ?_
  refine rj_nil (hK18 _ _ _ (cj_seq fun K19 hK19 => cj_region ?_))
  refine Pm ?_
  refine Ps ?_
  refine rj_nil (hK19 _ _ _ (cj_ret (hret _ _ _ ?_)))
  refine Ea Tryz.results116 (.cons (rv_tmp rfl) .nil) [rB b r1 (decide ((i : Int) > 0))] le_ ?_
  exact ⟨rfl, _, r1, _, sized_last hsz (by (try simp at hc26); omega) (by simp at hl; omega) (by omega) (by (try simp at hg31); simp; omega), rfl⟩
  (try simp only [dT, dF, nT, nF, tF, fT] at hg31)
  refine Pk ?_
  refine Pk ?_
  refine Pa (y_pick_f rfl rfl) ?_
  refine Pa (y_nilCheck rfl) ?_
  refine Pa (Ga Tryz.underlying174 Tryz.sizeOf4) ?_
  refine Sa o4 ?_
  refine rj_nil (hK18 _ _ _ ?_)
  refine cj_env (eL 3 rfl eN) ?_
  refine cj_seq fun K20 hK20 => cj_region ?_
  refine Pm ?_
  refine Ps ?_
  refine rj_nil (hK20 _ _ _ (cj_ret (hret _ _ _ ?_)))
  refine Ea Tryz.results116 (.cons (rv_tmp rfl) .nil) [rB b r1 false] le_ ?_
  exact ⟨rfl, _, r1, _, sized_last hsz (by (try simp at hc26); omega) (by simp at hl; omega) (by omega) (by (try simp at hg31); simp; omega), rfl⟩
  try simp only [dT, dF, nT, nF, tF, fT] at hc26
  refine cj_skip (hK8 _ _ _ (cj_region ?_))
  first | refine Pa (y_add64 rfl rfl om_) ?_ | refine Pa (y_add rfl rfl) ?_
  refine Pm ?_
  refine rj_nil ?_
  refine ej_on (q' := roundK _ _ _ _ _ _ _) rfl ?_
  refine ej_round ((i + 1, acc + u.toNat % 128 * 2 ^ (7 * i), r1)) (⟨by dsimp only; omega, by dsimp only; rw [Nat.pow_succ]; omega, by dsimp only; rw [hz, hf, szM, if_neg (by (try simp at hc26); omega), h7, show u.toNat % 128 = u.toNat - 128 by have := u.toNat_lt; simp at hc26; omega]; congr 1; omega, by dsimp only; simp at hl; omega⟩) (by dsimp only; omega) (eC rfl (eC rfl (eC rfl eN))) rfl sb_
  try simp only [dT, dF, nT, nF, tF, fT] at hc7
  refine cj_exit (hK3 _ _ _ (cj_seq fun K21 hK21 => cj_region ?_))
  refine Pm ?_
  refine Pa (y_nilCheck rfl) ?_
  refine Pa (Ga Tryz.underlying174 Tryz.sizeOf4) ?_
  refine Sa o4 ?_
  refine rj_nil (hK21 _ _ _ ?_)
  refine cj_env eN ?_
  refine cj_seq fun K22 hK22 => cj_region ?_
  refine Ps ?_
  refine rj_nil (hK22 _ _ _ (cj_ret (hret _ _ _ ?_)))
  refine Ea Tryz.results116 (.cons (rv_tmp rfl) .nil) [rB b s1 true] le_ ?_
  refine ⟨rfl, 0, s1, true, ⟨rfl, hl, by decide, fun n q h => ?_, fun _ => rfl⟩, rfl⟩
  rw [hz, show 4 - i = 0 by omega] at h; cases h
theorem rsizeAny_t {R : Hp} (b : Nat) (s : List UInt8) (bad : Bool) (hs : s.length ≤ big) : Tri Tryz.prog 116 [.pointer (some ⟨b, 0, none⟩)] R [rB b s bad]
    (fun r R' L' => R = R' ∧ ∃ (m : Nat) (s' : List UInt8) (bad' : Bool), r = .int .i64 (m : Int) ∧ L' = [rB b s' bad'] ∧ s'.length ≤ s.length ∧ m < 268435456 ∧ (bad = true → bad' = true) ∧ (bad = false → bad' = false → szM 4 0 0 s = some (m, s')) ∧ (bad = false → bad' = true → szM 4 0 0 s = none)) := by
  cases bad with
  | true =>
    refine (rsizeBad_t b s hs).mono ?_ (fun _ _ _ _ h => h)
    rintro v R' L' hR ⟨h1, h2, h3⟩
    exact ⟨h1, 0, s, true, h2, h3, Nat.le_refl _, by decide, fun _ => rfl, fun h => (by cases h), fun h => (by cases h)⟩
  | false =>
    refine (rsize_t b s hs).mono ?_ (fun _ _ _ _ h => h)
    rintro v R' L' hR ⟨h1, m, s', bad', ⟨h2, h3, h4, h5, h6⟩, h7⟩
    refine ⟨h1, m, s', bad', h2, h7, h3, h4, fun h => (by cases h), fun _ hb => ?_, fun _ hb => ?_⟩
    · cases hz : szM 4 0 0 s with
      | none => rw [h6 hz] at hb; cases hb
      | some q => obtain ⟨n, r⟩ := q; obtain ⟨rfl, rfl, _⟩ := h5 n r hz; rfl
    · cases hz : szM 4 0 0 s with
      | none => rfl
      | some q => obtain ⟨n, r⟩ := q; obtain ⟨_, _, h⟩ := h5 n r hz; rw [h] at hb; cases hb
def NRead (b d : Nat) (s : List UInt8) (bad : Bool) (v : Value) (R' : Hp) (L' : List Asn) : Prop :=
  ∃ y cy s' bad', v = .agg ⟨cy⟩ ∧ RepN R' y cy ∧ L' = [rB b s' bad'] ∧ s'.length ≤ s.length ∧ (bad = true → bad' = true) ∧ (bad = false → bad' = false → rdM d s = some (y, s')) ∧ (bad = false → bad' = true → rdM d s = none)
theorem takeR_spec (s : List UInt8) (n : Nat) : ((takeR s false n).2.2 = true ∧ (takeR s false n).1 = [] ∧ (takeR s false n).2.1 = s ∧ s.length < n) ∨ ((takeR s false n).2.2 = false ∧ (takeR s false n).1 = s.take n ∧ (takeR s false n).2.1 = s.drop n ∧ n ≤ s.length) := by
  unfold takeR
  by_cases h : s.length < n
  · simp [h]
  · simp [h]; omega
theorem zero_rep (R : Hp) : RepN R ndZero [.int .i64 0, .int .u64 0, .string (str []), .slice none 0 0] := RepL.node (k := 0) (n := 0) (s := []) (by simp [big]) (RepL.nil R)
theorem beN_take {t : List UInt8} {i : Nat} (h : i < t.length) : beN (t.take (i + 1)) = beN (t.take i) * 256 + (byteAt t (i : Int)).toNat := by
  rw [List.take_add_one]
  have : t[i]? = some (t[i]) := by simp [h]
  rw [this]
  simp only [Option.toList_some]
  rw [beN_snoc]
  simp [byteAt, h]
theorem rdL_app {f : List UInt8 → Option (Nd × List UInt8)} {n : Nat} {s s' : List UInt8} {ks : List Nd} {m : Nat} (h : rdL f n s = (rdL f m s').map (fun p => (ks ++ p.1, p.2))) {y : Nd} {r : List UInt8} {m' : Nat} (hm : m = m' + 1) (hy : f s' = some (y, r)) :
    rdL f n s = (rdL f m' r).map (fun p => ((ks ++ [y]) ++ p.1, p.2)) := by
  rw [h, hm, rdL, hy]
  simp only
  cases rdL f m' r with
  | none => rfl
  | some q => simp
theorem rdL_none {f : List UInt8 → Option (Nd × List UInt8)} {n : Nat} {s s' : List UInt8} {ks : List Nd} {m : Nat} (h : rdL f n s = (rdL f m s').map (fun p => (ks ++ p.1, p.2))) {m' : Nat} (hm : m = m' + 1) (hy : f s' = none) : rdL f n s = none := by
  rw [h, hm, rdL, hy]; rfl
def Kids (R : Hp) (ks : List Nd) (css : List (List Value)) : Prop := css.length = ks.length ∧ ∀ (i : Nat) (x : Nd) (cs : List Value), ks[i]? = some x → css[i]? = some cs → RepN R x cs
theorem Kids.mono {R R' : Hp} (h : R.le R') {ks : List Nd} {css : List (List Value)} (k : Kids R ks css) : Kids R' ks css := ⟨k.1, fun i x cs h1 h2 => (k.2 i x cs h1 h2).mono h⟩
theorem Kids.snoc {R : Hp} {ks : List Nd} {css : List (List Value)} (k : Kids R ks css) {y : Nd} {cy : List Value} (h : RepN R y cy) : Kids R (ks ++ [y]) (css ++ [cy]) := by
  refine ⟨by simp [k.1], fun i x cs h1 h2 => ?_⟩
  rcases Nat.lt_or_ge i ks.length with hi | hi
  · rw [List.getElem?_append_left hi] at h1
    rw [List.getElem?_append_left (by rw [k.1]; exact hi)] at h2
    exact k.2 i x cs h1 h2
  · rw [List.getElem?_append_right hi] at h1
    rw [List.getElem?_append_right (by rw [k.1]; exact hi), k.1] at h2
    cases hd : i - ks.length with
    | zero => rw [hd] at h1 h2; simp at h1 h2; subst h1 h2; exact h
    | succ n => rw [hd] at h1; simp at h1
theorem rep_four {R : Hp} {x : Nd} {cs : List Value} (h : RepN R x cs) : cs.length = 4 := by
  obtain ⟨_, _, _, _, _, _, _, rfl, _⟩ := h.inv; rfl
theorem rep_one {R : Hp} {x : Nd} {cs : List Value} (h : RepN R x cs) : ∀ u ∈ cs, u.oneCell' = true := by
  obtain ⟨_, _, _, _, _, _, _, rfl, _⟩ := h.inv
  intro u hu
  simp at hu
  rcases hu with rfl | rfl | rfl | rfl <;> rfl
theorem flat_get : ∀ (css : List (List Value)) (i : Nat) (cs : List Value) (j : Nat) (u : Value), (∀ c ∈ css, c.length = 4) → css[i]? = some cs → cs[j]? = some u → css.flatten[i * 4 + j]? = some u
  | [], i, cs, j, u, _, h, _ => by simp at h
  | c :: css, 0, cs, j, u, h4, h, hj => by
    simp at h; subst h
    have := (List.getElem?_eq_some_iff.1 hj).1
    simp only [List.flatten_cons, Nat.zero_mul, Nat.zero_add]
    rw [List.getElem?_append_left this, hj]
  | c :: css, i + 1, cs, j, u, h4, h, hj => by
    have hc := h4 c (by simp)
    simp only [List.flatten_cons]
    rw [List.getElem?_append_right (by omega), hc, show (i + 1) * 4 + j - 4 = i * 4 + j by omega]
    exact flat_get css i cs j u (fun x hx => h4 x (by simp [hx])) (by simpa using h) hj
theorem Kids.four {R : Hp} {ks : List Nd} {css : List (List Value)} (k : Kids R ks css) : ∀ c ∈ css, c.length = 4 := fun c hc => by
  obtain ⟨i, hi, rfl⟩ := List.getElem_of_mem hc
  exact rep_four (k.2 i (ks[i]'(by rw [← k.1]; exact hi)) _ (by simp) (by simp [hi]))
theorem Kids.repL {R : Hp} {ks : List Nd} {css : List (List Value)} (k : Kids R ks css) {v : Value} (h : FrozenS R v ks.length css.flatten) (hb : ks.length ≤ big) : ∃ q cap, v = .slice q ks.length cap ∧ RepL R ks q cap := by
  rcases h with ⟨rfl, h0⟩ | ⟨b, off, cap, rfl, h1, h2, h3⟩
  · have : ks = [] := List.eq_nil_of_length_eq_zero h0
    subst this
    exact ⟨none, 0, rfl, RepL.nil R⟩
  · refine ⟨_, cap, rfl, css, hb, k.1, h1, h2, fun i x cs e1 e2 => k.four cs (List.mem_of_getElem? e2), k.2, .inr ⟨b, off, rfl, fun i cs j u e1 e2 => ?_⟩⟩
    rw [Nat.add_assoc]
    exact h3 _ _ (flat_get css i cs j u k.four e1 e2)
end V
end Go.Proofs.YtenfjpigffjgmaaGreat
set_option linter.unusedSimpArgs false
set_option linter.unusedVariables false
set_option maxRecDepth 100000
namespace Go.Proofs.YtenfjpigffjgmaaGreat
open Go.RowKit
namespace V
set_option maxHeartbeats 4000000
theorem or_shift (X : Nat) (B : Int) (hB : 0 ≤ B ∧ B < 256) (hX : X < 72057594037927936) : bitOr .u64 (IntKind.u64.wrap ((X : Int) * 2 ^ min (8 : Int).toNat IntKind.u64.bits)) B = ((X * 256 + B.toNat : Nat) : Int) := by
  obtain ⟨A, rfl⟩ := Int.eq_ofNat_of_zero_le hB.1
  have hA : A < 2 ^ 8 := by omega
  have e0 : ((X : Int) * 2 ^ min (8 : Int).toNat IntKind.u64.bits) = ((X * 256 : Nat) : Int) := by
    have : min (8 : Int).toNat IntKind.u64.bits = 8 := by decide
    rw [this]; omega
  rw [e0, wrap_u64_in ⟨by omega, by omega⟩]
  have h2 : (BitVec.ofInt 64 ((X * 256 : Nat) : Int) ||| BitVec.ofInt 64 (A : Int)).toNat = X * 256 + A := by
    simp only [BitVec.ofInt_natCast, BitVec.toNat_or, BitVec.toNat_ofNat]
    rw [Nat.mod_eq_of_lt (by omega), Nat.mod_eq_of_lt (by omega)]
    have := Nat.two_pow_add_eq_or_of_lt (i := 8) (b := A) hA X
    rw [Nat.mul_comm X 256]; exact this.symm
  have h3 : bitOr .u64 ((X * 256 : Nat) : Int) (A : Int) = IntKind.u64.wrap ((X * 256 + A : Nat) : Int) := by rw [← h2]; rfl
  rw [h3, wrap_u64_in ⟨by omega, by omega⟩]
  simp
theorem sz_none {e : Nat} {s : List UInt8} {bad bad2 : Bool} (hb : bad = false) (h : bad2 = true) (z3 : (takeR s bad 1).2.2 = false → bad2 = true → szM 4 0 0 (takeR s bad 1).2.1 = none) : rdM (e + 1) s = none := by
  subst hb
  cases s with
  | nil => rfl
  | cons k r =>
    rw [takeR_one] at z3
    rw [rdM, z3 rfl h]
theorem sz_some {m : Nat} {s s2 : List UInt8} {bad bad2 : Bool} (h : bad2 = false) (z1 : (takeR s bad 1).2.2 = true → bad2 = true) (z2 : (takeR s bad 1).2.2 = false → bad2 = false → szM 4 0 0 (takeR s bad 1).2.1 = some (m, s2)) :
    bad = false ∧ ∃ k r, s = k :: r ∧ szM 4 0 0 r = some (m, s2) ∧ (takeR s bad 1).1 = [k] := by
  cases bad with
  | true => rw [takeR_bad] at z1; rw [z1 rfl] at h; cases h
  | false =>
    cases s with
    | nil => rw [show takeR [] false 1 = ([], [], true) by simp [takeR]] at z1; rw [z1 rfl] at h; cases h
    | cons k r => rw [takeR_one] at z2 ⊢; exact ⟨rfl, k, r, rfl, z2 rfl h, rfl⟩
theorem head_byte {t : List UInt8} (h : 0 < t.length) : (byteAt t 0 = 0) ↔ t.head? = some 0 := by
  cases t with
  | nil => simp at h
  | cons u t =>
    simp only [byteAt, Int.toNat_zero, List.getD_cons_zero, List.head?_cons, Option.some.injEq]
    constructor
    · intro h; exact UInt8.toNat_inj.1 (by simpa using h)
    · rintro rfl; rfl
theorem beN_small {t : List UInt8} {i : Nat} (h8 : t.length ≤ 8) (hi : i < t.length) : beN (t.take i) < 72057594037927936 := by
  have h1 := beN_lt (t.take i)
  have h2 : (t.take i).length ≤ 7 := by rw [List.length_take]; omega
  have h3 : 256 ^ (t.take i).length ≤ 256 ^ 7 := Nat.pow_le_pow_right (by omega) h2
  omega
theorem flat_snoc (css : List (List Value)) (cy : List Value) : css.flatten ++ cy = (css ++ [cy]).flatten := by simp
theorem len_snoc (ks : List Nd) (y : Nd) : ks.length + 1 = (ks ++ [y]).length := by simp
def NumI (r : Option (Nd × List UInt8)) (tk : List UInt8 × List UInt8 × Bool) (x : Bool) : Prop :=
  (x = true → r = none) ∧ (x = false → tk.2.2 = false → r = some (.mk 0 (beN tk.1) [] [], tk.2.1)) ∧ (tk.2.2 = true → r = none) ∧ (x = false → tk.1.length ≤ 8)
section
variable {r : Option (Nd × List UInt8)} {s2 : List UInt8} {m : Nat} {tk : List UInt8 × List UInt8 × Bool}
  (hr : r = (if m > 8 ∨ s2.length < m ∨ (m > 0 ∧ s2.head? = some 0) then none else some (.mk 0 (beN (s2.take m)) [] [], s2.drop m))) (htk : tk = takeR s2 false m)
include hr htk
omit htk in
theorem num_a (h : m > 8) : NumI r tk true := by
  have : r = none := by rw [hr, if_pos (.inl h)]
  exact ⟨fun _ => this, fun h => (by cases h), fun _ => this, fun h => (by cases h)⟩
theorem num_b (h8 : ¬ m > 8) (h0 : m > 0) (hb : tk.2.2 = false) : NumI r tk (decide (byteAt tk.1 0 = 0)) := by
  have hs := takeR_spec s2 m
  rw [← htk] at hs
  obtain ⟨_, h1, h2, h3⟩ := hs.resolve_left (by rw [hb]; simp)
  have hl : tk.1.length = m := by rw [h1, List.length_take]; omega
  have hh : tk.1.head? = s2.head? := by
    rw [h1]; cases s2 with
    | nil => simp at h3; omega
    | cons u t => cases m with
      | zero => omega
      | succ m => rfl
  have hk := head_byte (t := tk.1) (by omega)
  rw [hh] at hk
  refine ⟨fun h => ?_, fun h _ => ?_, fun h => (by rw [hb] at h; cases h), fun _ => by omega⟩
  · rw [hr, if_pos (.inr (.inr ⟨h0, hk.1 (of_decide_eq_true h)⟩))]
  · rw [hr, h1, h2, if_neg]
    rintro (h | h | ⟨_, h⟩)
    · exact h8 h
    · omega
    · exact of_decide_eq_false ‹_› (hk.2 h)
theorem num_c (hb : tk.2.2 = true) : NumI r tk false := by
  have hs := takeR_spec s2 m
  rw [← htk] at hs
  obtain ⟨_, h1, h2, h3⟩ := hs.resolve_right (by rw [hb]; simp)
  have : r = none := by rw [hr, if_pos (.inr (.inl h3))]
  exact ⟨fun h => (by cases h), fun _ h => (by rw [hb] at h; cases h), fun _ => this, fun _ => by rw [h1]; simp⟩
theorem num_d (h0 : m = 0) : NumI r tk false := by
  have hs := takeR_spec s2 m
  rw [← htk] at hs
  obtain ⟨h4, h1, h2, h3⟩ := hs.resolve_left (by rintro ⟨_, _, _, h⟩; omega)
  refine ⟨fun h => (by cases h), fun _ _ => ?_, fun h => (by rw [h4] at h; cases h), fun _ => by rw [h1]; simp; omega⟩
  rw [hr, h1, h2, if_neg (by omega)]
end
def RNodeT (d : Nat) : Prop := ∀ (b : Nat) (s : List UInt8) (bad : Bool) {R : Hp}, d ≤ 20 → s.length ≤ big →
    Tri Tryz.prog 103 [.pointer (some ⟨b, 0, none⟩), .int .i64 (d : Int)] R [rB b s bad] (fun r R' L' => NRead b d s bad r R' L')
theorem rnode_zero : RNodeT 0 := by
  intro b s bad R hd hs
  refine tri_of Tryz.func103 rfl Tryz.ntmps103 rfl (fun σ F Q hret hend hpan => ?_)
  try simp only [cA, nA]
  refine cj_seq fun K1 hK1 => cj_region ?_
  refine rj_alloc (wn0 rfl) rfl Tryz.zeroValue150 rfl (fun b4 => ?_)
  refine rj_nil (hK1 _ _ _ (cj_seq fun K2 hK2 => cj_seq fun K3 hK3 => cj_region ?_))
  refine Pm ?_
  refine Pa (y_eql rfl rfl) ?_
  refine rj_nil (hK3 _ _ _ (cj_cond_t rfl (cj_seq fun K4 hK4 => cj_region ?_)))
  refine Pm ?_
  refine Pa (y_nilCheck rfl) ?_
  refine Pa (Ga Tryz.underlying174 Tryz.sizeOf4) ?_
  refine Sa o4 ?_
  refine rj_nil (hK4 _ _ _ (cj_seq fun K5 hK5 => cj_region ?_))
  refine Pa (y_build (cells := [_, _, _, _]) [(0, 1), (1, 1), (2, 1), (3, 1)] Tryz.underlying150 Tryz.zeroValue150 (fun _ => rfl) rfl rfl) ?_
  refine rj_stores m150 rfl (wn0 rfl) rfl rfl (by (first | (simp [Value.oneCell']; done) | (intro u hu; simp only [List.mem_cons, List.not_mem_nil, or_false] at hu; rcases hu with rfl | rfl | rfl | rfl <;> first | rfl | assumption))) fd_ (by (simp)) rfl ?_
  refine rj_nil (hK5 _ _ _ (cj_ret (hret _ _ _ ?_)))
  refine Ea Tryz.results103 (.cons (rv_cells m150 rfl fd_ rfl rfl) .nil) [rB b s true] le_ ?_
  exact ⟨ndZero, _, s, true, rfl, zero_rep R, rfl, Nat.le_refl _, fun _ => rfl, fun _ h => (by cases h), fun _ _ => rfl⟩
theorem rnode_succ (e : Nat) (ih : RNodeT e) : RNodeT (e + 1) := by
  intro b s bad R hd hs
  have hs0 := hs
  unfold big at hs
  refine tri_of Tryz.func103 rfl Tryz.ntmps103 rfl (fun σ F Q hret hend hpan => ?_)
  try simp only [cA, nA]
  refine cj_seq fun K1 hK1 => cj_region ?_
  refine rj_alloc (wn0 rfl) rfl Tryz.zeroValue150 rfl (fun bo => ?_)
  refine rj_nil (hK1 _ _ _ (cj_seq fun K2 hK2 => cj_seq fun K3 hK3 => cj_region ?_))
  refine Pm ?_
  refine Pa (y_eql rfl rfl) ?_
  refine rj_nil (hK3 _ _ _ (cj_cond_f rfl (cj_skip (hK2 _ _ _ (cj_seq fun K4 hK4 => cj_region ?_)))))
  refine Pm ?_
  refine Ra Tryz.call115 (rtake_t b s bad 1 hs0 (by decide)) ?_
  rintro r R' L' hR ⟨rfl, rfl, rfl⟩
  have hsl : (takeR s bad 1).2.1.length ≤ s.length := by unfold takeR; split; exact Nat.le_refl _; simp
  try simp only [cA, nA]
  refine Pm ?_
  refine Ra Tryz.call116 (rsizeAny_t b (takeR s bad 1).2.1 (takeR s bad 1).2.2 (Nat.le_trans hsl hs0)) ?_
  rintro r R' L' hR ⟨rfl, m, s2, bad2, rfl, rfl, hs2, hm, z1, z2, z3⟩
  try simp only [cA, nA]
  refine Ps ?_
  refine Ps ?_
  refine rj_nil (hK4 _ _ _ (cj_seq fun K5 hK5 => ?_))
  have hJ27 : ∀ (x : List UInt8 × Bool), x.1.length ≤ s.length ∧ (bad = false → rdM (e + 1) s = none) → EJ ⟨Tryz.prog, 107, σ⟩ K5 [(0, .pointer (some ⟨b, 0, none⟩)), (4, .pointer (some ⟨bo, 0, none⟩))] R (rB b x.1 x.2 :: blk bo [.int .i64 0, .int .u64 0, .string (str []), .slice none 0 0] 150 :: F) := by
    rintro ⟨sj, badj⟩ ⟨hj1, hj2⟩
    try dsimp only
    dsimp only at hj1 hj2
    refine hK5 _ _ _ (cj_seq fun K6 hK6 => cj_region ?_)
    refine Pm ?_
    refine Pa (y_nilCheck rfl) ?_
    refine Pa (Ga Tryz.underlying174 Tryz.sizeOf4) ?_
    refine Sa o4 ?_
    refine rj_nil (hK6 _ _ _ (cj_seq fun K7 hK7 => cj_region ?_))
    refine Pa (y_build (cells := [_, _, _, _]) [(0, 1), (1, 1), (2, 1), (3, 1)] Tryz.underlying150 Tryz.zeroValue150 (fun _ => rfl) rfl rfl) ?_
    refine rj_stores m150 rfl (wn0 rfl) rfl rfl (by (first | (simp [Value.oneCell']; done) | (intro u hu; simp only [List.mem_cons, List.not_mem_nil, or_false] at hu; rcases hu with rfl | rfl | rfl | rfl <;> first | rfl | assumption))) fd_ (by (simp)) rfl ?_
    refine rj_nil (hK7 _ _ _ (cj_ret (hret _ _ _ ?_)))
    refine Ea Tryz.results103 (.cons (rv_cells m150 rfl fd_ rfl rfl) .nil) [rB b sj true] (by first | exact Hp.le_refl _ | exact Hp.le_trans hr1 hR2) ?_
    exact ⟨ndZero, _, sj, true, rfl, zero_rep R, rfl, hj1, fun _ => rfl, fun _ h => (by cases h), fun hb _ => hj2 hb⟩
  refine cj_block (cj_seq fun K8 hK8 => cj_region ?_)
  refine Pm ?_
  refine Pa (y_nilCheck rfl) ?_
  refine Pa (Ga Tryz.underlying174 Tryz.sizeOf4) ?_
  first | refine Pa (La o4) ?_ | refine Pa (Ls o4) ?_
  refine Ps ?_
  refine rj_nil (hK8 _ _ _ ?_)
  refine cj_cond rfl (fun hc22 => ?_) (fun hc22 => ?_)
  subst hc22
  refine cj_skip ?_
  refine ej_join hJ27 ((s2, true)) (⟨by dsimp only; omega, fun hb => sz_none hb rfl z3⟩) (eC rfl (eC rfl eN)) rfl sb_
  subst hc22
  obtain ⟨rfl, k, r0, rfl, hz, hk⟩ := sz_some rfl z1 z2
  have hs3 : s2.length ≤ r0.length := by rw [takeR_one] at hs2; exact hs2
  rw [hk]
  refine cj_seq fun K10 hK10 => cj_region ?_
  refine Pm ?_
  refine Pa (y_seql rfl rfl) ?_
  refine Ps ?_
  refine rj_nil (hK10 _ _ _ ?_)
  refine cj_env (eL 0 rfl (eL 1 rfl (eL 4 rfl (eL 5 rfl (eL 6 rfl (eL 27 rfl eN)))))) ?_
  refine cj_cond rfl (fun hc27 => ?_) (fun hc27 => ?_)
  (try simp only [dT, dF, nT, nF, tF, fT] at hc27); obtain rfl : k = 110 := by simpa using hc27
  refine cj_seq fun K12 hK12 => cj_region ?_
  refine Pm ?_
  refine Pm ?_
  refine Ra Tryz.call115 (rtake_t b s2 false m (Nat.le_trans hs2 (Nat.le_trans hsl hs0)) (by unfold big; omega)) ?_
  rintro r R' L' hR ⟨rfl, rfl, rfl⟩
  have htk := takeR_spec s2 m
  obtain ⟨tk, htk0⟩ : ∃ tk, tk = takeR s2 false m := ⟨_, rfl⟩
  rw [← htk0] at htk ⊢
  have hrd : rdM (e + 1) (110 :: r0) = (if m > 8 ∨ s2.length < m ∨ (m > 0 ∧ s2.head? = some 0) then none else some (.mk 0 (beN (s2.take m)) [] [], s2.drop m)) := by rw [rdM, hz]; simp
  try simp only [cA, nA]
  refine Ps ?_
  refine rj_nil (hK12 _ _ _ (cj_seq fun K13 hK13 => cj_seq fun K14 hK14 => ?_))
  have hJ9 : ∀ (x : Bool), NumI (rdM (e + 1) (110 :: r0)) tk x → EJ ⟨Tryz.prog, 107, σ⟩ K14 [(0, .pointer (some ⟨b, 0, none⟩)), (4, .pointer (some ⟨bo, 0, none⟩)), (7, .string (str tk.1)), (50, .bool x)] R (rB b tk.2.1 tk.2.2 :: blk bo [.int .i64 0, .int .u64 0, .string (str []), .slice none 0 0] 150 :: F) := by
    rintro x ⟨j1, j2, j3, j4⟩
    try dsimp only
    have hk3 : tk.2.1.length ≤ (110 :: r0).length := by rcases htk with h | h; rw [h.2.2.1, List.length_cons]; omega; rw [h.2.2.1]; simp; omega
    refine hK14 _ _ _ ?_
    refine cj_cond rfl (fun hc50 => ?_) (fun hc50 => ?_)
    subst hc50
    refine cj_seq fun K16 hK16 => cj_region ?_
    refine Pm ?_
    refine Pa (y_nilCheck rfl) ?_
    refine Pa (Ga Tryz.underlying174 Tryz.sizeOf4) ?_
    refine Sa o4 ?_
    refine rj_nil (hK16 _ _ _ (cj_seq fun K17 hK17 => cj_region ?_))
    refine Pa (y_build (cells := [_, _, _, _]) [(0, 1), (1, 1), (2, 1), (3, 1)] Tryz.underlying150 Tryz.zeroValue150 (fun _ => rfl) rfl rfl) ?_
    refine rj_stores m150 rfl (wn0 rfl) rfl rfl (by (first | (simp [Value.oneCell']; done) | (intro u hu; simp only [List.mem_cons, List.not_mem_nil, or_false] at hu; rcases hu with rfl | rfl | rfl | rfl <;> first | rfl | assumption))) fd_ (by (simp)) rfl ?_
    refine rj_nil (hK17 _ _ _ (cj_ret (hret _ _ _ ?_)))
    refine Ea Tryz.results103 (.cons (rv_cells m150 rfl fd_ rfl rfl) .nil) [rB b tk.2.1 true] (by first | exact Hp.le_refl _ | exact Hp.le_trans hr1 hR2) ?_
    exact ⟨ndZero, _, _, true, rfl, zero_rep R, rfl, hk3, fun _ => rfl, fun _ h => (by cases h), fun _ _ => j1 rfl⟩
    subst hc50
    refine cj_skip (hK13 _ _ _ (cj_seq fun K18 hK18 => cj_region ?_))
    refine Ps ?_
    refine rj_nil (hK18 _ _ _ (cj_seq fun K19 hK19 => cj_seq fun K20 hK20 => cj_region ?_))
    refine Pm ?_
    refine Pa (y_slen Tryz.underlying9 rfl) ?_
    refine Pm ?_
    refine rj_nil (hK20 _ _ _ (cj_block ?_))
    have h8 := j4 rfl
    refine cj_env (E' := (fun (x : Nat) => [(4, .pointer (some ⟨bo, 0, none⟩)), (7, .string (str tk.1)), (8, .int .u64 (beN (tk.1.take x) : Int)), (56, .int .i64 (tk.1.length : Int)), (57, .int .i64 (x : Int))]) 0) (eC rfl (eC rfl (eC rfl (eC rfl (eC rfl eN))))) ?_
    refine cj_sub (M := (fun (x : Nat) => rB b tk.2.1 tk.2.2 :: blk bo [.int .i64 0, .int .u64 0, .string (str []), .slice none 0 0] 150 :: F) 0) sb_ ?_
    refine cj_loop (fun (x : Nat) => [(4, .pointer (some ⟨bo, 0, none⟩)), (7, .string (str tk.1)), (8, .int .u64 (beN (tk.1.take x) : Int)), (56, .int .i64 (tk.1.length : Int)), (57, .int .i64 (x : Int))]) (fun (x : Nat) => R) (fun (x : Nat) => rB b tk.2.1 tk.2.2 :: blk bo [.int .i64 0, .int .u64 0, .string (str []), .slice none 0 0] 150 :: F) (fun (x : Nat) => x ≤ tk.1.length) (fun (x : Nat) => tk.1.length - x) 0 (by simp) ?_
    rintro i hI13
    try dsimp only
    refine cj_seq fun K21 hK21 => cj_region ?_
    refine Pa (y_lss rfl rfl) ?_
    refine rj_nil (hK21 _ _ _ (cj_seq fun K22 hK22 => ?_))
    refine cj_cond rfl (fun hc58 => ?_) (fun hc58 => ?_)
    try simp only [dT, dF, nT, nF, tF, fT] at hc58
    refine cj_skip (hK22 _ _ _ (cj_seq fun K24 hK24 => cj_block (cj_seq fun K25 hK25 => cj_region ?_)))
    refine Pm ?_
    refine Ps ?_
    refine rj_nil (hK25 _ _ _ (cj_region ?_))
    have hlt := beN_small (t := tk.1) (i := i) h8 (by omega)
    have h4 := byteAt_bd tk.1 i
    refine Pm ?_
    refine Pa (y_shl rfl rfl om_) ?_
    refine Pm ?_
    refine Pm ?_
    refine Pa (y_index_s Tryz.underlying9 rfl rfl om_) ?_
    refine Pa ((y_conv_in Tryz.underlying5 Tryz.underlying36 rfl (by simp only [IntKind.min, IntKind.max, IntKind.signed, IntKind.bits, Bool.false_eq_true, ite_false]; omega))) ?_
    refine Pa (y_or rfl rfl) ?_
    refine rj_eq 66 rfl (v' := .int .u64 (beN (tk.1.take (i + 1)) : Int)) (by rw [beN_take (by omega)]; exact congrArg _ (or_shift _ _ h4 hlt)) ?_
    refine Ps ?_
    refine rj_nil (hK24 _ _ _ ?_)
    refine cj_env (eL 4 rfl (eL 7 rfl (eL 8 rfl (eL 56 rfl (eL 57 rfl eN))))) ?_
    refine cj_region ?_
    first | refine Pa (y_add64 rfl rfl om_) ?_ | refine Pa (y_add rfl rfl) ?_
    refine Pm ?_
    refine rj_nil ?_
    refine ej_on (q' := roundK _ _ _ _ _ _ _) rfl ?_
    refine ej_round (i + 1) (by omega) (by omega) (eC rfl (eC rfl (eC rfl (eC rfl (eC rfl eN))))) rfl sb_
    try simp only [dT, dF, nT, nF, tF, fT] at hc58
    refine cj_exit (hK19 _ _ _ (cj_seq fun K26 hK26 => cj_region ?_))
    rw [List.take_of_length_le (by omega)]
    refine Pm ?_
    refine Pa (Ca Tryz.call95 (numN_q _)) ?_
    refine rj_stores m150 rfl (wn0 rfl) rfl rfl (by (first | (simp [Value.oneCell']; done) | (intro u hu; simp only [List.mem_cons, List.not_mem_nil, or_false] at hu; rcases hu with rfl | rfl | rfl | rfl <;> first | rfl | assumption))) fd_ (by (simp)) rfl ?_
    refine rj_nil (hK26 _ _ _ (cj_ret (hret _ _ _ ?_)))
    refine Ea Tryz.results103 (.cons (rv_cells m150 rfl fd_ rfl rfl) .nil) [rB b tk.2.1 tk.2.2] (by first | exact Hp.le_refl _ | exact Hp.le_trans hr1 hR2) ?_
    exact ⟨.mk 0 (beN tk.1) [] [], _, _, _, rfl, RepL.node (by simp [big]) (RepL.nil R), rfl, hk3, fun h => (by cases h), fun _ h => j2 rfl h, fun _ h => j3 h⟩
  refine cj_region ?_
  refine Pm ?_
  refine Pa (y_gtr rfl rfl) ?_
  refine Pm ?_
  refine rj_part 35 rfl (fun hg35 => ?_) (fun hg35 => ?_)
  (try simp only [dT, dF, nT, nF, tF, fT] at hg35)
  refine Pk ?_
  refine Pk ?_
  refine Pk ?_
  refine rj_skip (wn3 rfl rfl rfl rfl) rfl rfl ?_
  refine rj_skip (wn3 rfl rfl rfl rfl) rfl rfl ?_
  refine rj_skip (wn3 rfl rfl rfl rfl) rfl rfl ?_
  refine rj_skip (wn3 rfl rfl rfl rfl) rfl rfl ?_
  refine rj_skip (wn3 rfl rfl rfl rfl) rfl rfl ?_
  refine Pk ?_
  refine Pk ?_
  refine rj_skip (wn3 rfl rfl rfl rfl) rfl rfl ?_
  refine rj_skip (wn3 rfl rfl rfl rfl) rfl rfl ?_
  refine rj_skip (wn3 rfl rfl rfl rfl) rfl rfl ?_
  refine Pk ?_
  refine Pa (y_pick_t rfl rfl) ?_
  refine rj_nil ?_
  refine ej_join hJ9 (true) (num_a hrd (by (try simp at hg35); omega)) (eC rfl (eC rfl (eC rfl (eC rfl eN)))) rfl sb_
  (try simp only [dT, dF, nT, nF, tF, fT] at hg35)
  refine Pb (y_move rfl) ?_
  refine Pb (y_gtr rfl rfl) ?_
  refine Pb (y_move rfl) ?_
  refine rj_part 38 rfl (fun hg38 => ?_) (fun hg38 => ?_)
  try simp only [dT, dF, nT, nF, tF, fT] at hg38
  refine Pb (y_move rfl) ?_
  refine Pb (y_nilCheck rfl) ?_
  refine Pb (Ga Tryz.underlying174 Tryz.sizeOf4) ?_
  first | refine Pb (La o4) ?_ | refine Pb (Ls o4) ?_
  refine Pb (y_not rfl) ?_
  refine Pb (y_pick_t rfl rfl) ?_
  refine Pb (y_move rfl) ?_
  refine rj_part 45 rfl (fun hg45 => ?_) (fun hg45 => ?_)
  (try simp only [dT, dF, nT, nF, tF, fT] at hg45)
  have hbd : tk.2.2 = false := by simpa using hg45
  have hk2 := (htk.resolve_left (by rw [hbd]; simp)).2
  have htl : tk.1.length = m := by rw [hk2.1, List.length_take]; omega
  refine Pb (y_move rfl) ?_
  refine Pb (y_index_s Tryz.underlying9 rfl rfl om_) ?_
  refine Pb (y_eql rfl rfl) ?_
  refine Pb (y_pick_t rfl rfl) ?_
  refine Pa (y_pick_f rfl rfl) ?_
  refine rj_nil ?_
  refine ej_join hJ9 ((decide (byteAt tk.1 0 = 0))) (num_b hrd htk0 (by (try simp at hg35); omega) (by (try simp at hg38); omega) hbd) (eC rfl (eC rfl (eC rfl (eC rfl eN)))) rfl sb_
  (try simp only [dT, dF, nT, nF, tF, fT] at hg45)
  have hbd : tk.2.2 = true := by simpa using hg45
  refine Pk ?_
  refine Pk ?_
  refine Pk ?_
  refine Pb (y_pick_f rfl rfl) ?_
  refine Pa (y_pick_f rfl rfl) ?_
  refine rj_nil ?_
  refine ej_join hJ9 (false) (num_c hrd htk0 hbd) (eC rfl (eC rfl (eC rfl (eC rfl eN)))) rfl sb_
  try simp only [dT, dF, nT, nF, tF, fT] at hg38
  refine Pk ?_
  refine Pk ?_
  refine Pk ?_
  refine Pk ?_
  refine Pk ?_
  refine Pb (y_pick_f rfl rfl) ?_
  refine Pb (y_move rfl) ?_
  refine Pk ?_
  refine Pk ?_
  refine Pk ?_
  refine Pb (y_pick_f rfl rfl) ?_
  refine Pa (y_pick_f rfl rfl) ?_
  refine rj_nil ?_
  refine ej_join hJ9 (false) (num_d hrd htk0 (by (try simp at hg38); omega)) (eC rfl (eC rfl (eC rfl (eC rfl eN)))) rfl sb_
  try simp only [dT, dF, nT, nF, tF, fT] at hc27
  refine cj_seq fun K27 hK27 => cj_region ?_
  refine Pm ?_
  refine Pa (y_seql rfl rfl) ?_
  refine Ps ?_
  refine rj_nil (hK27 _ _ _ ?_)
  refine cj_env (eL 0 rfl (eL 1 rfl (eL 4 rfl (eL 5 rfl (eL 6 rfl (eL 70 rfl eN)))))) ?_
  refine cj_cond rfl (fun hc70 => ?_) (fun hc70 => ?_)
  (try simp only [dT, dF, nT, nF, tF, fT] at hc70); obtain rfl : k = 115 := by simpa using hc70
  refine cj_seq fun K29 hK29 => cj_region ?_
  refine Pm ?_
  refine Pm ?_
  refine Ra Tryz.call115 (rtake_t b s2 false m (Nat.le_trans hs2 (Nat.le_trans hsl hs0)) (by unfold big; omega)) ?_
  rintro r R' L' hR ⟨rfl, rfl, rfl⟩
  have htk := takeR_spec s2 m
  obtain ⟨tk, htk0⟩ : ∃ tk, tk = takeR s2 false m := ⟨_, rfl⟩
  rw [← htk0] at htk ⊢
  have hrd : rdM (e + 1) (115 :: r0) = (if s2.length < m then none else some (.mk 1 0 (s2.take m) [], s2.drop m)) := by rw [rdM, hz]; simp
  have hk3 : tk.2.1.length ≤ (115 :: r0).length := by rcases htk with h | h; rw [h.2.2.1, List.length_cons]; omega; rw [h.2.2.1]; simp; omega
  have hk4 : tk.1.length ≤ big := by unfold big; rcases htk with h | h; rw [h.2.1]; simp; rw [h.2.1]; simp; omega
  have j2 : tk.2.2 = false → rdM (e + 1) (115 :: r0) = some (.mk 1 0 tk.1 [], tk.2.1) := fun h => by rcases htk with h1 | h1; rw [h1.1] at h; cases h; rw [hrd, if_neg (by omega), h1.2.1, h1.2.2.1]
  have j3 : tk.2.2 = true → rdM (e + 1) (115 :: r0) = none := fun h => by rcases htk with h1 | h1; rw [hrd, if_pos h1.2.2.2]; rw [h1.1] at h; cases h
  try simp only [cA, nA]
  refine Pa (Ca Tryz.call114 (numS_q _)) ?_
  refine rj_stores m150 rfl (wn0 rfl) rfl rfl (by (first | (simp [Value.oneCell']; done) | (intro u hu; simp only [List.mem_cons, List.not_mem_nil, or_false] at hu; rcases hu with rfl | rfl | rfl | rfl <;> first | rfl | assumption))) fd_ (by (simp)) rfl ?_
  refine rj_nil (hK29 _ _ _ (cj_ret (hret _ _ _ ?_)))
  refine Ea Tryz.results103 (.cons (rv_cells m150 rfl fd_ rfl rfl) .nil) [rB b tk.2.1 tk.2.2] (by first | exact Hp.le_refl _ | exact Hp.le_trans hr1 hR2) ?_
  exact ⟨.mk 1 0 tk.1 [], _, _, _, rfl, RepL.node hk4 (RepL.nil R), rfl, hk3, fun h => (by cases h), fun _ h => j2 h, fun _ h => j3 h⟩
  try simp only [dT, dF, nT, nF, tF, fT] at hc70
  refine cj_seq fun K30 hK30 => cj_region ?_
  refine Pm ?_
  refine Pa (y_seql rfl rfl) ?_
  refine Ps ?_
  refine rj_nil (hK30 _ _ _ ?_)
  refine cj_cond rfl (fun hc77 => ?_) (fun hc77 => ?_)
  (try simp only [dT, dF, nT, nF, tF, fT] at hc77); obtain rfl : k = 108 := by simpa using hc77
  refine cj_seq fun K32 hK32 => cj_region ?_
  have hrd : rdM (e + 1) (108 :: r0) = (match rdL (rdM e) m s2 with | none => none | some (l, r') => some (.mk 2 0 [] l, r')) := by rw [rdM, hz]; simp only; rw [if_neg (by decide), if_neg (by decide), if_pos trivial]; try rfl
  refine Pa (y_build (cells := [_, _, _, _]) [(0, 1), (1, 1), (2, 1), (3, 1)] Tryz.underlying150 Tryz.zeroValue150 (fun _ => rfl) rfl rfl) ?_
  refine rj_alloc (wn0 rfl) rfl Tryz.zeroValue150 rfl (fun bl => ?_)
  refine rj_stores m150 rfl (wn0 rfl) rfl rfl (by (first | (simp [Value.oneCell']; done) | (intro u hu; simp only [List.mem_cons, List.not_mem_nil, or_false] at hu; rcases hu with rfl | rfl | rfl | rfl <;> first | rfl | assumption))) fd_ (by (simp)) rfl ?_
  refine rj_add (A := slc 150 4 (.slice none 0 0) 0 []) (slc_nil _ _) ?_
  refine rj_nil (hK32 _ _ _ (cj_seq fun K33 hK33 => cj_seq fun K34 hK34 => cj_region ?_))
  refine Ps ?_
  refine rj_nil (hK34 _ _ _ (cj_block ?_))
  refine cj_env (E' := (fun (x : List Nd × List (List Value) × Value × List UInt8 × Bool × Hp) => [(0, .pointer (some ⟨b, 0, none⟩)), (1, .int .i64 ((e + 1 : Nat) : Int)), (4, .pointer (some ⟨bo, 0, none⟩)), (6, .int .i64 (m : Int)), (10, .pointer (some ⟨bl, 0, none⟩)), (11, .int .i64 (x.1.length : Int))]) ([], [], .slice none 0 0, s2, false, R)) (eC rfl (eC rfl (eC rfl (eC rfl (eC rfl (Env.le_cons (Eq.trans rfl (congrArg some (by first | rfl | (exact congrArg (Value.int .i64) (by simp))))) eN)))))) ?_
  refine cj_sub (M := (fun (x : List Nd × List (List Value) × Value × List UInt8 × Bool × Hp) => rB b x.2.2.2.1 x.2.2.2.2.1 :: slc 150 4 x.2.2.1 x.1.length x.2.1.flatten :: blk bl [.int .i64 2, .int .u64 0, .string (str []), x.2.2.1] 150 :: blk bo [.int .i64 0, .int .u64 0, .string (str []), .slice none 0 0] 150 :: F) ([], [], .slice none 0 0, s2, false, R)) sb_ ?_
  refine cj_loop (fun (x : List Nd × List (List Value) × Value × List UInt8 × Bool × Hp) => [(0, .pointer (some ⟨b, 0, none⟩)), (1, .int .i64 ((e + 1 : Nat) : Int)), (4, .pointer (some ⟨bo, 0, none⟩)), (6, .int .i64 (m : Int)), (10, .pointer (some ⟨bl, 0, none⟩)), (11, .int .i64 (x.1.length : Int))]) (fun (x : List Nd × List (List Value) × Value × List UInt8 × Bool × Hp) => x.2.2.2.2.2) (fun (x : List Nd × List (List Value) × Value × List UInt8 × Bool × Hp) => rB b x.2.2.2.1 x.2.2.2.2.1 :: slc 150 4 x.2.2.1 x.1.length x.2.1.flatten :: blk bl [.int .i64 2, .int .u64 0, .string (str []), x.2.2.1] 150 :: blk bo [.int .i64 0, .int .u64 0, .string (str []), .slice none 0 0] 150 :: F) (fun (x : List Nd × List (List Value) × Value × List UInt8 × Bool × Hp) => R.le x.2.2.2.2.2 ∧ x.1.length ≤ m ∧ Kids x.2.2.2.2.2 x.1 x.2.1 ∧ x.2.2.2.1.length ≤ s2.length ∧ (x.2.2.2.2.1 = false → rdL (rdM e) m s2 = (rdL (rdM e) (m - x.1.length) x.2.2.2.1).map (fun p => (x.1 ++ p.1, p.2))) ∧ (x.2.2.2.2.1 = true → rdL (rdM e) m s2 = none)) (fun (x : List Nd × List (List Value) × Value × List UInt8 × Bool × Hp) => m - x.1.length) ([], [], .slice none 0 0, s2, false, R) (⟨Hp.le_refl R, by simp, ⟨rfl, fun i x cs h _ => by simp at h⟩, Nat.le_refl _, fun _ => by simp, fun h => (by cases h)⟩) ?_
  rintro ⟨ks, css, v, sj, badj, R1⟩ ⟨hr1, hi, hk, hsj, q1, q2⟩
  try dsimp only
  dsimp only at hr1 hi hk hsj q1 q2
  refine cj_seq fun K35 hK35 => cj_seq fun K36 hK36 => cj_region ?_
  refine Pm ?_
  refine Pm ?_
  refine Pa (y_lss rfl rfl) ?_
  refine Pm ?_
  refine rj_part 84 rfl (fun hg84 => ?_) (fun hg84 => ?_)
  try simp only [dT, dF, nT, nF, tF, fT] at hg84
  refine Pb (y_move rfl) ?_
  refine Pb (y_nilCheck rfl) ?_
  refine Pb (Ga Tryz.underlying174 Tryz.sizeOf4) ?_
  first | refine Pb (La o4) ?_ | refine Pb (Ls o4) ?_
  refine Pb (y_not rfl) ?_
  refine Pa (y_pick_t rfl rfl) ?_
  refine rj_nil (hK36 _ _ _ ?_)
  refine cj_env (eL 0 rfl (eL 1 rfl (eL 4 rfl (eL 6 rfl (eL 10 rfl (eL 11 rfl (eL 90 rfl eN))))))) ?_
  refine cj_cond rfl (fun hc90 => ?_) (fun hc90 => ?_)
  (try simp only [dT, dF, nT, nF, tF, fT] at hc90); obtain rfl : badj = false := by simpa using hc90
  refine cj_skip (hK35 _ _ _ (cj_seq fun K38 hK38 => cj_block ?_))
  refine cj_mixg (L := [blk bl [.int .i64 2, .int .u64 0, .string (str []), v] 150]) [0, 1, 2, 3, 4] [5, 6] [7, 8, 9] _ sb_ (by kernel_rfl) (by kernel_rfl) (by kernel_rfl) rfl ?_
  refine Wa rfl (fun R1 hR1 G => (Ga Tryz.underlying150 Tryz.sizeOf148)) ?_
  first | refine Wa rfl (fun R1 hR1 G => (La o148)) ?_ | refine Wa rfl (fun R1 hR1 G => (Ls o148)) ?_
  refine Wa rfl (fun R1 hR1 G => (y_move rfl)) ?_
  refine Wa rfl (fun R1 hR1 G => (y_move rfl)) ?_
  refine Wa rfl (fun R1 hR1 G => (y_sub64 rfl rfl om_).to (show Value.int .i64 (((e + 1 : Nat) : Int) - 1) = .int .i64 (e : Int) from congrArg _ (by omega))) ?_
  refine fj_nil ?_
  refine xj_rj rfl ?_
  try simp only [cA, nA, List.append_nil]
  refine Ra Tryz.call103 (ih b sj false (by omega) (by unfold big; omega)) ?_
  rintro r R2 L' hR2 ⟨y, cy, s4, bad4, rfl, hy, rfl, hs4, y1, y2, y3⟩
  obtain ⟨k1, n1, st1, l1, qq1, cap1, rfl, rfl, hb1, hl1⟩ := hy.inv
  try simp only [cA, nA]
  refine rj_xk le_ sb_ ?_
  refine xj_rj rfl ?_
  try simp only [cA, nA, List.append_nil]
  refine rj_buildSlice (sz := 4) (wn0 rfl) rfl Tryz.underlying148 Tryz.sizeOf150 Tryz.zeroValue150 rfl rfl rfl (by decide) (by decide) (fun b99 => ?_)
  refine rj_xk le_ sb_ ?_
  refine xj_nil ?_
  try simp only [cA, nA, List.append_nil]
  refine rj_append (sz := 4) (by_ := 56) ⟨Tryz.underlying148, _, _, rfl, rfl, rfl, rfl, rfl⟩ (wn0 rfl) rfl rfl rfl fd_ (src_slc Tryz.underlying148 fd_ (rep_one hy)) rfl om_ (by simp only [maxLen]; omega) (fun v100 ho100 hh100 => ?_)
  rw [flat_snoc css, len_snoc ks (Nd.mk k1 n1 st1 l1)]
  refine Pa (Ga Tryz.underlying150 Tryz.sizeOf148) ?_
  refine Sa o148 ?_
  refine rj_nil (hK38 _ _ _ (cj_region ?_))
  refine Pm ?_
  first | refine Pa (y_add64 rfl rfl om_) ?_ | refine Pa (y_add rfl rfl) ?_
  refine Ps ?_
  refine rj_nil ?_
  refine ej_on (q' := roundK _ _ _ _ _ _ _) rfl ?_
  refine ej_round ((ks ++ [Nd.mk k1 n1 st1 l1], css ++ [[.int .i64 k1, .int .u64 ((n1 : Nat) : Int), .string (str st1), .slice qq1 l1.length cap1]], v100, s4, bad4, R2)) (⟨Hp.le_trans hr1 hR2, by dsimp only; rw [List.length_append]; simp; omega, (hk.mono hR2).snoc hy, by dsimp only; omega, fun hb => by dsimp only at hb ⊢; rw [List.length_append]; exact rdL_app (q1 rfl) (by simp; omega) (y2 rfl hb), fun hb => rdL_none (q1 rfl) (m' := m - ks.length - 1) (by omega) (y3 rfl hb)⟩) (by dsimp only; rw [List.length_append]; simp; omega) (eC rfl (eC rfl (eC rfl (eC rfl (eC rfl (Env.le_cons (Eq.trans rfl (congrArg some (by first | rfl | (exact congrArg (Value.int .i64) (by simp))))) eN)))))) rfl sb_
  (try simp only [dT, dF, nT, nF, tF, fT] at hc90); obtain rfl : badj = true := by simpa using hc90
  refine cj_exit (hK33 _ _ _ (cj_seq fun K39 hK39 => cj_region ?_))
  refine rj_freeze (e := 150) (sz := 4) (n := ks.length) (v := v) (xs := css.flatten) fd_ (fun R2 hR2 hfr hxl => ?_)
  have hkb : ks.length ≤ big := by unfold big; omega
  obtain ⟨q, cap, rfl, hrl⟩ := (hk.mono hR2).repL hfr hkb
  first | refine Pa (Lb m150) ?_ | refine Pa (y_loads_slc m150 rfl fd_ rfl rfl om_) ?_
  refine rj_stores m150 rfl (wn0 rfl) rfl rfl (by (first | (simp [Value.oneCell']; done) | (intro u hu; simp only [List.mem_cons, List.not_mem_nil, or_false] at hu; rcases hu with rfl | rfl | rfl | rfl <;> first | rfl | assumption))) fd_ (by (simp)) rfl ?_
  refine rj_nil (hK39 _ _ _ (cj_ret (hret _ _ _ ?_)))
  refine Ea Tryz.results103 (.cons (rv_cells m150 rfl fd_ rfl rfl) .nil) [rB b sj true] (by first | exact Hp.le_refl _ | exact Hp.le_trans hr1 hR2) ?_
  exact ⟨.mk 2 0 [] ks, _, _, true, rfl, hrl.node (by simp [big]), rfl, by simp at hs2 ⊢; omega, fun _ => rfl, fun _ h => (by cases h), fun _ _ => by rw [hrd, q2 rfl]⟩
  try simp only [dT, dF, nT, nF, tF, fT] at hg84
  refine Pk ?_
  refine Pk ?_
  refine Pk ?_
  refine Pk ?_
  refine Pk ?_
  refine Pa (y_pick_f rfl rfl) ?_
  refine rj_nil (hK36 _ _ _ (cj_cond_f rfl (cj_exit (hK33 _ _ _ (cj_seq fun K40 hK40 => cj_region ?_)))))
  refine rj_freeze (e := 150) (sz := 4) (n := ks.length) (v := v) (xs := css.flatten) fd_ (fun R2 hR2 hfr hxl => ?_)
  have hkb : ks.length ≤ big := by unfold big; omega
  obtain ⟨q, cap, rfl, hrl⟩ := (hk.mono hR2).repL hfr hkb
  first | refine Pa (Lb m150) ?_ | refine Pa (y_loads_slc m150 rfl fd_ rfl rfl om_) ?_
  refine rj_stores m150 rfl (wn0 rfl) rfl rfl (by (first | (simp [Value.oneCell']; done) | (intro u hu; simp only [List.mem_cons, List.not_mem_nil, or_false] at hu; rcases hu with rfl | rfl | rfl | rfl <;> first | rfl | assumption))) fd_ (by (simp)) rfl ?_
  refine rj_nil (hK40 _ _ _ (cj_ret (hret _ _ _ ?_)))
  refine Ea Tryz.results103 (.cons (rv_cells m150 rfl fd_ rfl rfl) .nil) [rB b sj badj] (by first | exact Hp.le_refl _ | exact Hp.le_trans hr1 hR2) ?_
  refine ⟨.mk 2 0 [] ks, _, _, badj, rfl, hrl.node (by simp [big]), rfl, by simp at hs2 ⊢; omega, fun h => (by cases h), fun _ h => ?_, fun _ h => by rw [hrd, q2 h]⟩
  rw [hrd, q1 h, show m - ks.length = 0 by omega]; simp [rdL]
  try simp only [dT, dF, nT, nF, tF, fT] at hc77
  refine cj_skip ?_
  refine ej_join hJ27 ((s2, false)) (⟨by dsimp only; omega, fun _ => by rw [rdM, hz]; (try simp at hc27 hc70 hc77); simp [hc27, hc70, hc77]⟩) (eC rfl (eC rfl eN)) rfl sb_
theorem rnode_t (d : Nat) : RNodeT d := by
  induction d with
  | zero => exact rnode_zero
  | succ e ih => exact rnode_succ e ih
def readM (s : List UInt8) : Nd × Bool := if s.length > 16777216 then (ndZero, false) else match rdM 20 s with
  | some (x, []) => (x, true)
  | _ => (ndZero, false)
theorem readM_none {s : List UInt8} (h : ¬ s.length > 16777216 → rdM 20 s = none) : readM s = (ndZero, false) := by
  unfold readM
  by_cases hl : s.length > 16777216
  · rw [if_pos hl]
  · rw [if_neg hl, h hl]
theorem readM_rest {s s' : List UInt8} {y : Nd} (h : ¬ s.length > 16777216 → rdM 20 s = some (y, s')) (hne : ¬ s' = []) : readM s = (ndZero, false) := by
  unfold readM
  by_cases hl : s.length > 16777216
  · rw [if_pos hl]
  · rw [if_neg hl, h hl]
    cases s' with
    | nil => exact absurd rfl hne
    | cons u t => rfl
theorem readM_some {s : List UInt8} {y : Nd} (hl : ¬ s.length > 16777216) (h : rdM 20 s = some (y, [])) : readM s = (y, true) := by
  unfold readM
  rw [if_neg hl, h]
theorem read_t {R : Hp} (s : List UInt8) (hs : s.length ≤ big) : Tri Tryz.prog 82 [.string (str s)] R []
    (fun r R' L' => ∃ cy, r = .tuple #[.agg ⟨cy⟩, .bool (readM s).2] ∧ RepN R' (readM s).1 cy ∧ L' = []) := by
  have hbg : s.length ≤ 1000000000000 := hs
  refine tri_of Tryz.func82 rfl Tryz.ntmps82 rfl (fun σ F Q hret hend hpan => ?_)
  try simp only [cA, nA]
  refine cj_seq fun K1 hK1 => cj_region ?_
  refine rj_alloc (wn0 rfl) rfl Tryz.zeroValue150 rfl (fun b2 => ?_)
  refine Ps ?_
  refine rj_nil (hK1 _ _ _ (cj_seq fun K2 hK2 => cj_region ?_))
  refine Pm ?_
  refine Pm ?_
  refine Pa (y_slen Tryz.underlying9 rfl) ?_
  refine Pa (y_gtr rfl rfl) ?_
  refine Pa (y_build (cells := [_, _]) [(0, 1), (1, 1)] Tryz.underlying174 Tryz.zeroValue174 (fun _ => rfl) rfl rfl) ?_
  refine rj_box (wn0 rfl) rfl rfl rfl (fun br => ?_)
  refine Ps ?_
  refine rj_nil (hK2 _ _ _ (cj_seq fun K3 hK3 => cj_region ?_))
  refine Pm ?_
  refine Ra Tryz.call103 (rnode_t 20 br s (decide ((s.length : Int) > 16777216)) (by decide) hs) ?_
  rintro r R' L' hR ⟨y, cy, s', bad', rfl, hy, rfl, hs', y1, y2, y3⟩
  obtain ⟨k1, n1, st1, l1, qq1, cap1, rfl, rfl, hb1, hl1⟩ := hy.inv
  try simp only [cA, nA]
  refine rj_alloc (wn0 rfl) rfl Tryz.zeroValue150 rfl (fun b5 => ?_)
  refine rj_stores m150 rfl (wn0 rfl) rfl rfl (by (first | (simp [Value.oneCell']; done) | (intro u hu; simp only [List.mem_cons, List.not_mem_nil, or_false] at hu; rcases hu with rfl | rfl | rfl | rfl <;> first | rfl | assumption))) fd_ (by (simp)) rfl ?_
  refine rj_nil (hK3 _ _ _ (cj_seq fun K4 hK4 => cj_seq fun K5 hK5 => cj_region ?_))
  refine Pm ?_
  refine Pa (y_nilCheck rfl) ?_
  refine Pa (Ga Tryz.underlying174 Tryz.sizeOf4) ?_
  first | refine Pa (La o4) ?_ | refine Pa (Ls o4) ?_
  refine Pm ?_
  refine rj_part 18 rfl (fun hg18 => ?_) (fun hg18 => ?_)
  (try simp only [dT, dF, nT, nF, tF, fT] at hg18); obtain rfl : bad' = true := by simpa using hg18
  refine Pk ?_
  refine Pk ?_
  refine Pk ?_
  refine Pk ?_
  refine Pk ?_
  refine Pa (y_pick_t rfl rfl) ?_
  refine rj_nil (hK5 _ _ _ ?_)
  refine cj_env (eL 2 rfl (eL 5 rfl (eL 24 rfl eN))) ?_
  refine cj_cond_t rfl (cj_seq fun K6 hK6 => cj_region ?_)
  refine Pa (y_build (cells := [_, _, _, _]) [(0, 1), (1, 1), (2, 1), (3, 1)] Tryz.underlying150 Tryz.zeroValue150 (fun _ => rfl) rfl rfl) ?_
  refine rj_stores m150 rfl (wn0 rfl) rfl rfl (by (first | (simp [Value.oneCell']; done) | (intro u hu; simp only [List.mem_cons, List.not_mem_nil, or_false] at hu; rcases hu with rfl | rfl | rfl | rfl <;> first | rfl | assumption))) fd_ (by (simp)) rfl ?_
  refine Ps ?_
  refine rj_nil (hK6 _ _ _ (cj_ret (hret _ _ _ ?_)))
  refine Ea Tryz.results82 (.cons (rv_cells m150 rfl fd_ rfl rfl) (.cons (rv_tmp rfl) .nil)) [] le_ ?_
  rw [readM_none (fun hl => y3 (decide_eq_false (by omega)) rfl)]; exact ⟨_, rfl, zero_rep R', rfl⟩
  (try simp only [dT, dF, nT, nF, tF, fT] at hg18); obtain rfl : bad' = false := by simpa using hg18
  refine Pb (y_move rfl) ?_
  refine Pb (y_nilCheck rfl) ?_
  refine Pb (Ga Tryz.underlying174 Tryz.sizeOf9) ?_
  first | refine Pb (La o9) ?_ | refine Pb (Ls o9) ?_
  refine Pb (y_sneq rfl rfl) ?_
  refine Pa (y_pick_f rfl rfl) ?_
  refine rj_nil (hK5 _ _ _ ?_)
  refine cj_cond rfl (fun hc24 => ?_) (fun hc24 => ?_)
  (try simp only [dT, dF, nT, nF, tF, fT] at hc24); have hne : ¬ s' = [] := by simpa using hc24
  refine cj_seq fun K8 hK8 => cj_region ?_
  refine Pa (y_build (cells := [_, _, _, _]) [(0, 1), (1, 1), (2, 1), (3, 1)] Tryz.underlying150 Tryz.zeroValue150 (fun _ => rfl) rfl rfl) ?_
  refine rj_stores m150 rfl (wn0 rfl) rfl rfl (by (first | (simp [Value.oneCell']; done) | (intro u hu; simp only [List.mem_cons, List.not_mem_nil, or_false] at hu; rcases hu with rfl | rfl | rfl | rfl <;> first | rfl | assumption))) fd_ (by (simp)) rfl ?_
  refine Ps ?_
  refine rj_nil (hK8 _ _ _ (cj_ret (hret _ _ _ ?_)))
  refine Ea Tryz.results82 (.cons (rv_cells m150 rfl fd_ rfl rfl) (.cons (rv_tmp rfl) .nil)) [] le_ ?_
  rw [readM_rest (fun hl => y2 (decide_eq_false (by omega)) rfl) hne]; exact ⟨_, rfl, zero_rep R', rfl⟩
  (try simp only [dT, dF, nT, nF, tF, fT] at hc24); have hne : s' = [] := by simpa using hc24
  refine cj_skip (hK4 _ _ _ (cj_seq fun K9 hK9 => cj_region ?_))
  first | refine Pa (Lb m150) ?_ | refine Pa (y_loads_slc m150 rfl fd_ rfl rfl om_) ?_
  refine rj_stores m150 rfl (wn0 rfl) rfl rfl (by (first | (simp [Value.oneCell']; done) | (intro u hu; simp only [List.mem_cons, List.not_mem_nil, or_false] at hu; rcases hu with rfl | rfl | rfl | rfl <;> first | rfl | assumption))) fd_ (by (simp)) rfl ?_
  refine Ps ?_
  refine rj_nil (hK9 _ _ _ (cj_ret (hret _ _ _ ?_)))
  refine Ea Tryz.results82 (.cons (rv_cells m150 rfl fd_ rfl rfl) (.cons (rv_tmp rfl) .nil)) [] le_ ?_
  subst hne; rw [readM_some (by by_cases hl : (s.length : Int) > 16777216; have := y1 (decide_eq_true hl); cases this; omega) (by by_cases hl : (s.length : Int) > 16777216; have := y1 (decide_eq_true hl); cases this; exact y2 (decide_eq_false hl) rfl)]; exact ⟨_, rfl, hy, rfl⟩
end V
end Go.Proofs.YtenfjpigffjgmaaGreat
set_option linter.unusedSimpArgs false
set_option linter.unusedVariables false
set_option maxRecDepth 100000
namespace Go.Proofs.YtenfjpigffjgmaaGreat
open Go.RowKit
namespace V
set_option maxHeartbeats 4000000
theorem clone_t {R : Hp} (v : Value) (n : Nat) (xs : List Value) (h1 : ∀ u ∈ xs, u.oneCell' = true) (hn : n ≤ 1000000) : Tri Tryz.prog 123 [v] R [slc 150 4 v n xs]
    (fun r R' L' => R = R' ∧ L' = [slc 150 4 r n xs]) := by
  refine tri_of Tryz.func123 rfl Tryz.ntmps123 rfl (fun σ F Q hret hend hpan => ?_)
  try simp only [cA, nA]
  refine cj_pure (A := slc 150 4 v n xs) fd_ slc_shape (fun hsh => ?_)
  obtain ⟨q, k, rfl, hk, _, hqq⟩ := hsh
  have hq0 : q.isNone = true → n = 0 := fun h => by rcases Nat.eq_zero_or_pos n with h0 | h0; exact h0; obtain ⟨b, off, rfl⟩ := hqq h0; cases h
  refine cj_seq fun K1 hK1 => cj_region ?_
  refine Ps ?_
  refine rj_nil (hK1 _ _ _ (cj_seq fun K2 hK2 => cj_seq fun K3 hK3 => cj_region ?_))
  refine Pm ?_
  refine Pa (y_sleql Tryz.underlying148 rfl rfl) ?_
  refine rj_nil (hK3 _ _ _ ?_)
  refine cj_cond rfl (fun hc4 => ?_) (fun hc4 => ?_)
  have h0 := hq0 hc4
  subst h0
  refine cj_pure (A := slc 150 4 (.slice q 0 k) 0 xs) fd_ slc_len (fun hxl => ?_)
  obtain rfl : xs = [] := by simpa using hxl
  refine cj_add (A := slc 150 4 (.slice none 0 0) 0 []) (slc_nil _ _) ?_
  refine cj_seq fun K5 hK5 => cj_region ?_
  refine Ps ?_
  refine rj_nil (hK5 _ _ _ (cj_ret (hret _ _ _ ?_)))
  refine Ea Tryz.results123 (.cons (rv_tmp rfl) .nil) [slc 150 4 (.slice none 0 0) 0 []] le_ ?_
  exact ⟨rfl, rfl⟩
  try simp only [dT, dF, nT, nF, tF, fT] at hc4
  refine cj_skip (hK2 _ _ _ (cj_seq fun K6 hK6 => cj_region ?_))
  refine rj_buildSlice (sz := 4) (wn0 rfl) rfl Tryz.underlying148 Tryz.sizeOf150 Tryz.zeroValue150 rfl rfl rfl (by decide) (by decide) (fun b5 => ?_)
  refine Pm ?_
  refine rj_append (sz := 4) (by_ := 56) ⟨Tryz.underlying148, _, _, rfl, rfl, rfl, rfl, rfl⟩ (wn0 rfl) rfl rfl rfl fd_ (src_slc Tryz.underlying148 fd_ h1) rfl om_ (by simp only [maxLen]; omega) (fun v7 ho7 hh7 => ?_)
  rw [Nat.zero_add, List.nil_append]
  refine Ps ?_
  refine rj_nil (hK6 _ _ _ (cj_ret (hret _ _ _ ?_)))
  refine Ea Tryz.results123 (.cons (rv_tmp rfl) .nil) [slc 150 4 v7 n xs] le_ ?_
  exact ⟨rfl, rfl⟩
theorem mkL_t {R : Hp} (v : Value) (ks : List Nd) (css : List (List Value)) (hk : Kids R ks css) (hn : ks.length ≤ 1000000) : Tri Tryz.prog 119 [v] R [slc 150 4 v ks.length css.flatten]
    (fun r R' L' => (∃ cy, r = .agg ⟨cy⟩ ∧ RepN R' (.mk 2 0 [] ks) cy) ∧ L' = []) := by
  have h1 : ∀ u ∈ css.flatten, u.oneCell' = true := fun u hu => by
    obtain ⟨c, hc, hu⟩ := List.mem_flatten.1 hu
    obtain ⟨i, hi, rfl⟩ := List.getElem_of_mem hc
    exact rep_one (hk.2 i (ks[i]'(by rw [← hk.1]; exact hi)) _ (by simp) (by simp [hi])) u hu
  refine tri_of Tryz.func119 rfl Tryz.ntmps119 rfl (fun σ F Q hret hend hpan => ?_)
  try simp only [cA, nA]
  refine cj_seq fun K1 hK1 => cj_region ?_
  refine rj_alloc (wn0 rfl) rfl Tryz.zeroValue150 rfl (fun b2 => ?_)
  refine rj_nil (hK1 _ _ _ (cj_seq fun K2 hK2 => cj_region ?_))
  refine Pm ?_
  refine Ra Tryz.call123 (clone_t v ks.length css.flatten h1 hn) ?_
  rintro r R' L' hR ⟨rfl, rfl⟩
  refine rj_pure (A := slc 150 4 r ks.length css.flatten) fd_ slc_one (fun hro => ?_)
  refine rj_freeze (e := 150) (sz := 4) (n := ks.length) (v := r) (xs := css.flatten) fd_ (fun R2 hR2 hfr hxl => ?_)
  have hkb : ks.length ≤ big := by unfold big; omega
  obtain ⟨q, cap, rfl, hrl⟩ := (hk.mono hR2).repL hfr hkb
  try simp only [cA, nA]
  refine Pa (y_build (cells := [_, _, _, _]) [(0, 1), (1, 1), (2, 1), (3, 1)] Tryz.underlying150 Tryz.zeroValue150 (fun _ => rfl) rfl rfl) ?_
  refine rj_stores m150 rfl (wn0 rfl) rfl rfl (by (first | (simp [Value.oneCell']; done) | (intro u hu; simp only [List.mem_cons, List.not_mem_nil, or_false] at hu; rcases hu with rfl | rfl | rfl | rfl <;> first | rfl | assumption))) fd_ (by (simp)) rfl ?_
  refine rj_nil (hK2 _ _ _ (cj_ret (hret _ _ _ ?_)))
  refine Ea Tryz.results119 (.cons (rv_cells m150 rfl fd_ rfl rfl) .nil) [] le_ ?_
  exact ⟨⟨_, rfl, hrl.node (by simp [big])⟩, rfl⟩
theorem readM_wr {x : Nd} (hok : OkN x) (hr : rightB 20 x = true) (hl : (wr x).length ≤ 16777216) : readM (wr x) = (x, true) :=
  readM_some (by omega) (by have := rd_wr 20 x [] hok hr (by omega); simpa using this)
abbrev Bs := List UInt8
structure LG where
  term : Int
  vote : Int
  base : Int
  baseT : Int
  state : Bs
  all : List Ent
  down : Bool
def LG.new : LG := ⟨0, -1, 0, 0, [], [], false⟩
def LG.last (g : LG) : Int := g.base + g.all.length
def LG.at (g : LG) (i : Int) : Option Ent := if g.base < i ∧ i ≤ g.last then g.all[(i - g.base - 1).toNat]? else none
def LG.termAt (g : LG) (i : Int) : Option Int := if i = g.base then some g.baseT else (g.at i).map (·.1)
structure LG.ok (g : LG) : Prop where
  term : u64B g.term
  vote : -1 ≤ g.vote ∧ g.vote < 9223372036854775807
  base : 0 ≤ g.base ∧ g.base ≤ 1000000000000000
  baseT : u64B g.baseT
  state : g.state.length ≤ 1000000
  alln : g.all.length ≤ 100000
  all : ∀ e ∈ g.all, u64B e.1 ∧ e.2.length ≤ 1000000
theorem LG.new_ok : LG.new.ok := ⟨by unfold u64B; decide, by decide, by decide, by unfold u64B; decide, by decide, by decide, fun e he => by cases he⟩
def numN (n : Nat) : Nd := .mk 0 n [] []
def strN (s : Bs) : Nd := .mk 1 0 s []
def entN (e : Ent) : Nd := .mk 2 0 [] [numN e.1.toNat, strN e.2]
def listN (l : List Ent) : Nd := .mk 2 0 [] (l.map entN)
inductive Rec
  | term (t : Int) (v : Int)
  | add (behind : Int) (m : List Ent)
  | all (g : LG)
def Rec.kids : Rec → List Nd
  | .term t v => [numN 0, numN t.toNat, numN (v + 1).toNat]
  | .add b m => [numN 1, numN b.toNat, listN m]
  | .all g => [numN 2, numN g.term.toNat, numN (g.vote + 1).toNat, numN g.base.toNat, numN g.baseT.toNat, strN g.state, listN g.all]
def Rec.nd (r : Rec) : Nd := .mk 2 0 [] r.kids
def be4 (n : Nat) : Bs := [UInt8.ofNat (n / 16777216 % 256), UInt8.ofNat (n / 65536 % 256), UInt8.ofNat (n / 256 % 256), UInt8.ofNat (n % 256)]
def Rec.bytes (r : Rec) : Bs := be4 (wr r.nd).length ++ wr r.nd
def recsB (l : List Rec) : Bs := (l.map Rec.bytes).flatten
def Rec.may (g : LG) : Rec → Prop
  | .term t v => u64B t ∧ -1 ≤ v ∧ v < 9223372036854775807
  | .add b m => (g.base ≤ b ∧ b ≤ g.last) ∧ (∀ e ∈ m, u64B e.1 ∧ e.2.length ≤ 1000000) ∧ m.length ≤ 100000
  | .all h => h.ok
def LG.play (g : LG) : Rec → LG
  | .term t v => { g with term := t, vote := v }
  | .add b m => { g with all := g.all.take (b - g.base).toNat ++ m }
  | .all h => { h with down := g.down }
inductive Plays : LG → List Rec → LG → Prop
  | nil (g : LG) : g.ok → Plays g [] g
  | cons {g h : LG} {r : Rec} {l : List Rec} : g.ok → r.may g → (wr r.nd).length ≤ 16777216 → Plays (g.play r) l h → Plays g (r :: l) h
theorem Plays.okR {g h : LG} {l : List Rec} (p : Plays g l h) : h.ok := by
  induction p with
  | nil g h => exact h
  | cons _ _ _ _ ih => exact ih
theorem Plays.snoc {g h : LG} {l : List Rec} {r : Rec} (p : Plays g l h) (hm : r.may h) (hl : (wr r.nd).length ≤ 16777216) (ho : (h.play r).ok) : Plays g (l ++ [r]) (h.play r) := by
  induction p with
  | nil g hg => exact .cons hg hm hl (.nil _ ho)
  | cons h1 h2 h3 _ ih => exact .cons h1 h2 h3 (ih hm ho)
theorem recsB_snoc (l : List Rec) (r : Rec) : recsB (l ++ [r]) = recsB l ++ r.bytes := by simp [recsB]
theorem be4_len (n : Nat) : (be4 n).length = 4 := rfl
def be4N (l : Bs) : Nat := (l.getD 0 0).toNat * 16777216 + (l.getD 1 0).toNat * 65536 + (l.getD 2 0).toNat * 256 + (l.getD 3 0).toNat
theorem be4_N {n : Nat} (h : n < 4294967296) (r : Bs) : be4N (be4 n ++ r) = n := by
  unfold be4N be4
  simp
  omega
def torn (t : Bs) : Prop := t.length < 4 ∨ t.length - 4 < be4N t
theorem torn_nil : torn [] := .inl (by decide)
theorem torn_pre {r : Rec} (hl : (wr r.nd).length ≤ 16777216) {k : Nat} (hk : k < r.bytes.length) : torn (r.bytes.take k) := by
  unfold Rec.bytes at hk ⊢
  simp only [List.length_append, be4_len] at hk
  by_cases h4 : k < 4
  · left; simp; omega
  · right
    have e : (be4 (wr r.nd).length ++ wr r.nd).take k = be4 (wr r.nd).length ++ (wr r.nd).take (k - 4) := by
      rw [List.take_append, be4_len, List.take_of_length_le (by rw [be4_len]; omega)]
    rw [e, be4_N (by omega)]
    simp only [List.length_append, be4_len, List.length_take]
    omega
theorem ent_okN {e : Ent} (h : u64B e.1) : OkN (entN e) := .mk (by decide) (fun x hx => by
  simp only [List.mem_cons, List.not_mem_nil, or_false] at hx
  unfold u64B at h
  rcases hx with rfl | rfl
  · exact .mk (by omega) (fun y hy => by cases hy)
  · exact .mk (by decide) (fun y hy => by cases hy))
theorem num_okN {n : Nat} (h : n < 18446744073709551616) : OkN (numN n) := .mk h (fun y hy => by cases hy)
theorem str_okN (s : Bs) : OkN (strN s) := .mk (by decide) (fun y hy => by cases hy)
theorem list_okN {l : List Ent} (h : ∀ e ∈ l, u64B e.1) : OkN (listN l) := .mk (by decide) (fun x hx => by
  obtain ⟨e, he, rfl⟩ := List.mem_map.1 hx; exact ent_okN (h e he))
theorem toNat64 {n : Int} (h : u64B n) : n.toNat < 18446744073709551616 ∧ ((n.toNat : Nat) : Int) = n := by unfold u64B at h; omega
theorem Rec.kids_ok {g : LG} {r : Rec} (h : r.may g) (hg : g.ok) : ∀ x ∈ r.kids, OkN x := by
  intro x hx
  cases r with
  | term t v =>
    obtain ⟨h1, h2, h3⟩ := h
    simp only [Rec.kids, List.mem_cons, List.not_mem_nil, or_false] at hx
    rcases hx with rfl | rfl | rfl
    · exact num_okN (by decide)
    · exact num_okN (toNat64 h1).1
    · exact num_okN (by omega)
  | add b m =>
    obtain ⟨⟨h1, h2⟩, h3, h4⟩ := h
    have hb := hg.base
    have hn := hg.alln
    simp only [Rec.kids, List.mem_cons, List.not_mem_nil, or_false] at hx
    rcases hx with rfl | rfl | rfl
    · exact num_okN (by decide)
    · exact num_okN (by unfold LG.last at h2; omega)
    · exact list_okN (fun e he => (h3 e he).1)
  | all k =>
    have h : k.ok := h
    have hb := h.base
    have hv := h.vote
    simp only [Rec.kids, List.mem_cons, List.not_mem_nil, or_false] at hx
    rcases hx with rfl | rfl | rfl | rfl | rfl | rfl | rfl
    · exact num_okN (by decide)
    · exact num_okN (toNat64 h.term).1
    · exact num_okN (by omega)
    · exact num_okN (by omega)
    · exact num_okN (toNat64 h.baseT).1
    · exact str_okN _
    · exact list_okN (fun e he => (h.all e he).1)
theorem Rec.okN {g : LG} {r : Rec} (h : r.may g) (hg : g.ok) : OkN r.nd := .mk (by decide) (Rec.kids_ok h hg)
theorem right_num (d n : Nat) : rightB (d + 1) (numN n) = true := by simp [rightB, numN]
theorem right_str (d : Nat) (s : Bs) : rightB (d + 1) (strN s) = true := by simp [rightB, strN]
theorem right_ent (d : Nat) (e : Ent) : rightB (d + 2) (entN e) = true := by
  have h1 := right_num d e.1.toNat
  have h2 := right_str d e.2
  rw [entN, rightB]; simp [h1, h2]
theorem right_list (d : Nat) (l : List Ent) : rightB (d + 3) (listN l) = true := by
  rw [listN, rightB]
  simp [right_ent]
theorem Rec.right (r : Rec) : rightB 20 r.nd = true := by
  have h1 := right_num 18
  have h2 := right_str 18
  have h3 := right_list 16
  cases r <;> (rw [Rec.nd, rightB]; simp [Rec.kids, h1, h2, h3])
theorem Rec.write (r : Rec) (hl : (wr r.nd).length ≤ 16777216) : writeM r.nd = (wr r.nd, true) := by
  unfold writeM; rw [if_pos ⟨r.right, hl⟩]
theorem Rec.read {g : LG} {r : Rec} (h : r.may g) (hg : g.ok) (hl : (wr r.nd).length ≤ 16777216) : readM (wr r.nd) = (r.nd, true) := readM_wr (Rec.okN h hg) r.right hl
theorem numB_le (n : Nat) (h : n < 18446744073709551616) : (numB n).length ≤ 8 := numB_length 8 n (by simpa using h)
theorem sizeB_le (n : Nat) (h : n ≤ 1000000) : (sizeB n).length ≤ 3 := sizeB_len 2 n (by simp; omega)
theorem wr_num {n : Nat} (h : n < 18446744073709551616) : (wr (numN n)).length ≤ 12 := by
  have h1 := numB_le n h
  have h2 := sizeB_le (numB n).length (by omega)
  simp [wr, numN]; omega
theorem wr_str {s : Bs} (h : s.length ≤ 1000000) : (wr (strN s)).length ≤ 4 + s.length := by
  have h2 := sizeB_le s.length h
  simp [wr, strN]; omega
theorem wr_ent {e : Ent} (h : u64B e.1) (hs : e.2.length ≤ 1000000) : (wr (entN e)).length ≤ 20 + e.2.length := by
  have h1 := wr_num (toNat64 h).1
  have h2 := wr_str hs
  have h3 := sizeB_le 2 (by decide)
  have e3 : (sizeB 2).length = 1 := by rw [sizeB_small (by decide)]; rfl
  rw [entN, wr, if_neg (by decide), if_neg (by decide), wrs, wrs, wrs]
  simp [e3]; omega
def entsLen (l : List Ent) : Nat := (l.map fun e => 20 + e.2.length).sum
theorem wrs_ents : ∀ {l : List Ent}, (∀ e ∈ l, u64B e.1 ∧ e.2.length ≤ 1000000) → (wrs (l.map entN)).length ≤ entsLen l
  | [], _ => by simp [wrs, entsLen]
  | e :: l, h => by
    have h1 := wr_ent (h e (by simp)).1 (h e (by simp)).2
    have h2 := wrs_ents (l := l) (fun e he => h e (by simp [he]))
    simp [wrs, entsLen] at h2 ⊢; omega
theorem wr_list {l : List Ent} (h : ∀ e ∈ l, u64B e.1 ∧ e.2.length ≤ 1000000) (hl : l.length ≤ 1000000) : (wr (listN l)).length ≤ 4 + entsLen l := by
  have h1 := wrs_ents h
  have h2 := sizeB_le l.length hl
  rw [listN, wr, if_neg (by decide), if_neg (by decide)]
  simp; omega
theorem Rec.len_term {t v : Int} (h : u64B t) (hv : -1 ≤ v ∧ v < 9223372036854775807) : (wr (Rec.term t v).nd).length ≤ 40 := by
  have h1 := wr_num (n := 0) (by decide)
  have h2 := wr_num (toNat64 h).1
  have h3 := wr_num (n := (v + 1).toNat) (by omega)
  have e3 : (sizeB 3).length = 1 := by rw [sizeB_small (by decide)]; rfl
  rw [Rec.nd, wr, if_neg (by decide), if_neg (by decide)]
  simp [Rec.kids, wrs, e3]; omega
theorem Rec.len_add {b : Int} {m : List Ent} (hb : 0 ≤ b ∧ b ≤ 10000000000000000) (h : ∀ e ∈ m, u64B e.1 ∧ e.2.length ≤ 1000000) (hm : m.length ≤ 100000) : (wr (Rec.add b m).nd).length ≤ 40 + entsLen m := by
  have h1 := wr_num (n := 1) (by decide)
  have h2 := wr_num (n := b.toNat) (by omega)
  have h3 := wr_list h (by omega)
  have e3 : (sizeB 3).length = 1 := by rw [sizeB_small (by decide)]; rfl
  rw [Rec.nd, wr, if_neg (by decide), if_neg (by decide)]
  simp [Rec.kids, wrs, e3]; omega
theorem Rec.len_all {g : LG} (h : g.ok) : (wr (Rec.all g).nd).length ≤ 100 + g.state.length + entsLen g.all := by
  have hb := h.base
  have hv := h.vote
  have h0 := wr_num (n := 2) (by decide)
  have h1 := wr_num (toNat64 h.term).1
  have h2 := wr_num (n := (g.vote + 1).toNat) (by omega)
  have h3 := wr_num (n := g.base.toNat) (by omega)
  have h4 := wr_num (toNat64 h.baseT).1
  have h5 := wr_str h.state
  have h6 := wr_list h.all (by have := h.alln; omega)
  have e3 : (sizeB 7).length = 1 := by rw [sizeB_small (by decide)]; rfl
  rw [Rec.nd, wr, if_neg (by decide), if_neg (by decide)]
  simp [Rec.kids, wrs, e3]; omega
def PTri (en : Int → PanicEntry) (P : Program) (f : FuncId) (args : List Value) (R : Hp) (L : List Asn) (res : Except Int Value) : Prop :=
  Tri P f args R L (fun u R' L' => R' = R ∧ res = .ok u ∧ L' = L) (fun ch R' L' => R' = R ∧ (∃ e, res = .error e ∧ ch = [en e]) ∧ L' = L)
section
variable {en : Int → PanicEntry} {P : Program} {f : FuncId} {args : List Value} {R : Hp} {L : List Asn} {res : Except Int Value} {v : Value}
theorem PTri.of (h : Tri P f args R L (fun u _ L' => res = .ok u ∧ L' = L) (fun ch _ L' => (∃ e, res = .error e ∧ ch = [en e]) ∧ L' = L)) : PTri en P f args R L res :=
  fun σ F w hs => (h σ F w hs).mono fun e w' ⟨R', L', hR, hw, hp⟩ => by
    cases e with
    | returned u => exact ⟨R, L', Hp.le_refl R, hw.shrink hR, rfl, hp.1, hp.2⟩
    | panicked ch => exact ⟨R, L', Hp.le_refl R, hw.shrink hR, rfl, hp.1, hp.2⟩
    | outgrown => exact hp.elim
theorem PTri.q (h : PTri en P f args R L (.ok v)) : QTri P f args R L v :=
  fun σ F w hs => (h σ F w hs).mono fun e w' ⟨R', L', hR, hw, hp⟩ => by
    cases e with
    | returned u => obtain ⟨rfl, h1, rfl⟩ := hp; cases h1; exact ⟨rfl, hw⟩
    | panicked ch => obtain ⟨_, ⟨e, h1, _⟩, _⟩ := hp; cases h1
    | outgrown => exact hp.elim
end
section
variable {en : Int → PanicEntry} {c : Cx} {ops : Array Oper} {Q : Exit → Act → World → Prop} {E : Env} {R : Hp} {L : List Asn} {rest : List Oper} {ty : TypeId} {p : String} {af : Array Edge} {g : Option (Nat × Bool)}
theorem rj_panic {x : Operand} {t : TypeId} {u : Value} (hw : Wn c ops E ⟨none, .panic x, ty, p, af, g⟩ true) (e1 : ev E x = some (.iface t u))
    (h : EJ c (Q (.panic [⟨.iface t u, false, false⟩])) E R L) : RJ c ops Q (⟨none, .panic x, ty, p, af, g⟩ :: rest) E R L := by
  intro a w hf hs
  unfold wpList
  rw [if_pos (hw a hf)]
  refine .inl ?_
  have r : (execOp a.eval ⟨none, .panic x, ty, p, af, g⟩).run c.P w = .halt (.panic (.iface t u)) w := by
    simp [execOp, hf.ev e1, Instr.panic, goPanic]
  unfold Oper.wp
  rw [r]
  exact h a w hf hs
theorem y_makeInterface {d : Option Tmp} {x : Operand} {t : TypeId} {fs : Array Field} {u : Value} (hT : c.P.underlying t = some (.struct fs)) (e1 : ev E x = some u) : Yld c E R L ⟨d, .makeInterface t x, ty, p, af, g⟩ (.iface t u) := fun a w hf hs => by
  have r : (Instr.makeInterface t u).run c.P w = .ok (.iface t u) w := by
    unfold Instr.makeInterface
    simp [run_underlying hT]
  simp [execOp, hf.ev e1, r, Oper.quietUpon]
end
def under (D : List Deferred) (a : Act) : Act := { a with defers := a.defers ++ D }
theorem put_under (D : List Deferred) (a : Act) (d : Option Tmp) (v : Value) : (under D a).put d v = under D (a.put d v) := by cases d <;> rfl
theorem upon_under {P : Program} {D : List Deferred} {o : Oper} {a : Act} {K K' : Act → World → Prop} {Q Q' : Exit → Act → World → Prop} {r : Result Next}
    (hK : ∀ a w, K a w → K' (under D a) w) (hQ : ∀ e a w, Q e a w → Q' e (under D a) w) (h : o.upon P a K Q r) : o.upon P (under D a) K' Q' r := by
  unfold Oper.upon at *
  split <;> simp_all
  · rw [put_under]; exact hK _ _ h
  · rw [put_under]; exact hK _ _ h
  · rename_i d w'
    have e : ({ tmps := (under D a).tmps, defers := d :: (under D a).defers } : Act) = under D { tmps := a.tmps, defers := d :: a.defers } := rfl
    rw [e, put_under]; exact hK _ _ h
  · refine Calls.mono h fun e w' he => ?_
    cases e with
    | returned v => show K' _ _; rw [put_under]; exact hK _ _ he
    | panicked ch => exact hQ _ _ _ he
    | outgrown => obtain ⟨a1, w1, h1⟩ := he; exact ⟨_, _, hQ _ _ _ h1⟩
  · exact Rows.mono h fun v w' h => by rw [put_under]; exact hK _ _ h
theorem wpList_under {P : Program} {D : List Deferred} {ops : Array Oper} {Q Q' : Exit → Act → World → Prop} (hQ : ∀ e a w, Q e a w → Q' e (under D a) w) : ∀ (l : List Oper) (a : Act) (w : World),
    wpList P ops Q l a w → wpList P ops Q' l (under D a) w
  | [], a, w, h => hQ _ _ _ h
  | o :: l, a, w, h => by
    unfold wpList at h ⊢
    have ht : (under D a).tmps = a.tmps := rfl
    rw [ht]
    split
    · rename_i hw
      rw [if_pos hw] at h
      rcases h with h | ⟨h1, a1, w1, h2⟩
      · exact .inl (upon_under (fun a w h => wpList_under hQ l a w h) hQ h)
      · exact .inr ⟨h1, _, _, hQ _ _ _ h2⟩
    · rename_i hw
      rw [if_neg hw] at h
      rw [put_under]; exact wpList_under hQ l _ w h
def EndR (σ : World) (R0 : Hp) (F : List Asn) (post : Value → Hp → List Asn → Prop) (pan : List PanicEntry → Hp → List Asn → Prop) : Ending → World → Prop :=
  fun e w' => ∃ R' L', R0.le R' ∧ Sat σ R' (L' ++ F) w' ∧
    match e with
    | .returned v => post v R' L'
    | .panicked ch => pan ch R' L'
    | .outgrown => False
def EndsD (P : Program) (fn : Func) (σ : World) (R0 : Hp) (F : List Asn) (post : Value → Hp → List Asn → Prop) (pan : List PanicEntry → Hp → List Asn → Prop) : Exit → Act → World → Prop :=
  bodyPostD P fn (EndR σ R0 F post pan)
theorem ends_d {P : Program} {fn : Func} {RR : Ending → World → Prop} {e : Exit} {a : Act} {w : World} (h : bodyPost P fn RR e a w) : bodyPostD P fn RR e a w := by
  cases e with
  | normal => obtain ⟨h1, v, h2, h3⟩ := h; show Leaves _ _ _ _ a.defers _ _; rw [h1]; exact ⟨v, h2, h3⟩
  | ret => obtain ⟨h1, v, h2, h3⟩ := h; show Leaves _ _ _ _ a.defers _ _; rw [h1]; exact ⟨v, h2, h3⟩
  | panic ch => obtain ⟨h1, h2⟩ := h; show Leaves _ _ _ _ a.defers _ _; rw [h1]; exact h2
  | outgrown => exact h
  | exit id => exact h
  | goto l => exact h
theorem tri_of_d {P : Program} {f n : Nat} {fn : Func} {body : Code} {args : List Value} {R : Hp} {L : List Asn} {post : Value → Hp → List Asn → Prop} {pan : List PanicEntry → Hp → List Asn → Prop}
    (hf : P.funcs[f]? = some fn) (hb : fn.body = some body) (hn : fn.ntmps = n) (ha : Nat.ble args.length n = true)
    (h : ∀ σ F (Q : Exit → Act → World → Prop), (∀ E R1 L1, EJ ⟨P, n, σ⟩ (Ends P fn σ R F post pan .ret) E R1 L1 → EJ ⟨P, n, σ⟩ (Q .ret) E R1 L1) → (∀ E R1 L1, EJ ⟨P, n, σ⟩ (Ends P fn σ R F post pan .normal) E R1 L1 → EJ ⟨P, n, σ⟩ (Q .normal) E R1 L1) →
      (∀ ch E R1 L1, EJ ⟨P, n, σ⟩ (Ends P fn σ R F post pan (.panic ch)) E R1 L1 → EJ ⟨P, n, σ⟩ (Q (.panic ch)) E R1 L1) → (∀ e a w, EndsD P fn σ R F post pan e a w → Q e a w) → CJ ⟨P, n, σ⟩ body Q (envOf 0 args) R (L ++ F)) : Tri P f args R L post pan :=
  fun σ F w hs => calls_of_wp_defers hf hb (by rw [hn]; exact h σ F (EndsD P fn σ R F post pan) (fun _ _ _ k a w hf hs => ends_d (k a w hf hs)) (fun _ _ _ k a w hf hs => ends_d (k a w hf hs)) (fun _ _ _ _ k a w hf hs => ends_d (k a w hf hs)) (fun _ _ _ k => k) _ w (Fr.start ha) hs)
def tailQ (P : Program) (fn : Func) (RR : Ending → World → Prop) (d : Deferred) : Exit → Act → World → Prop
  | .normal, a, w => a.defers = [] ∧ Leaves P fn a.tmps RR [d] .returning w
  | .panic ch, a, w => a.defers = [] ∧ Leaves P fn a.tmps RR [d] (.panicking ch) w
  | _, _, _ => False
theorem leaves_ret {c : Cx} {E : Env} {R R0 : Hp} {L F : List Asn} {fn : Func} {post : Value → Hp → List Asn → Prop} {pan : List PanicEntry → Hp → List Asn → Prop} {rs : List ResultVar} {vs : List Value} {a : Act} {w : World}
    (hr : fn.results = ⟨rs⟩) (hv : RVs c E R L rs vs) (R' : Hp) (L' : List Asn) (hR : R0.le R') (hRR : R' = R) (hS : Sub L (L' ++ F)) (hp : post (tupOf vs) R' L') (hf : Fr c.n E a) (hs : Sat c.σ R L w) :
    Leaves c.P fn a.tmps (EndR c.σ R0 F post pan) [] .returning w := by
  have := ej_ret (c := c) (pan := pan) hr hv R' L' hR hRR hS hp a w hf hs
  obtain ⟨_, v, h1, h2⟩ := this
  exact ⟨v, h1, h2⟩
def recOf (cs : List Frame) : Value × List Frame := match recoverD cs with
  | some (v, cs') => (v, cs')
  | none => (.nilIface, cs)
theorem wpS_rec {P : Program} {Q : Exit → Act → List Frame → World → Prop} {a : Act} {cs cs' : List Frame} {w : World} {i d1 d2 n : Nat} {E : Env} {ty1 ty2 : TypeId} {p1 p2 : String} {af1 af2 : Array Edge} {rest : Code} {v : Value}
    (hf : Fr n E a) (hd1 : Nat.blt d1 n = true) (hd2 : Nat.blt d2 n = true) (hr : recOf cs = (v, cs')) (h : ∀ a', Fr n ((d2, v) :: (d1, v) :: E) a' → rest.wpS P Q a' cs' w) :
    (Code.seq (.region i #[⟨some d1, .call { callee := .builtin .recover, args := #[], argTypes := #[] }, ty1, p1, af1, none⟩, ⟨some d2, .assign (.tmp d1), ty2, p2, af2, none⟩] false) rest).wpS P Q a cs w := by
  obtain ⟨o1, ho1⟩ : ∃ o : Oper, o = ⟨some d1, .call { callee := .builtin .recover, args := #[], argTypes := #[] }, ty1, p1, af1, none⟩ := ⟨_, rfl⟩
  obtain ⟨o2, ho2⟩ : ∃ o : Oper, o = ⟨some d2, .assign (.tmp d1), ty2, p2, af2, none⟩ := ⟨_, rfl⟩
  rw [← ho1, ← ho2]
  have g1 : o1.guard = none := by rw [ho1]
  have g2 : o2.guard = none := by rw [ho2]
  have k1 : o1.dst = some d1 := by rw [ho1]
  have k2 : o2.dst = some d2 := by rw [ho2]
  have r1 : ∀ (a : Act) w, (execOp a.eval o1).run P w = .ok .recover w := fun a w => by rw [ho1]; simp [execOp, resolve, invoke, builtin]
  refine wpS_seq (wpS_region ?_)
  show wpOpsS P #[o1, o2] _ [0, 1] a cs w
  unfold wpOpsS
  rw [show (#[o1, o2])[0]? = some o1 from rfl]
  simp only
  rw [if_pos (by simp [Region.wanted, g1]), r1]
  simp only
  have key : ∀ cs', recOf cs = (v, cs') → ∀ a', Fr n ((d1, v) :: E) a' → (∀ a'', Fr n ((d2, v) :: (d1, v) :: E) a'' → rest.wpS P Q a'' cs' w) → wpOpsS P #[o1, o2] (Exit.thenS (rest.wpS P Q) Q) [1] a' cs' w := by
    intro cs' _ a' hf' h
    unfold wpOpsS
    rw [show (#[o1, o2])[1]? = some o2 from rfl]
    simp only
    have r2 : (execOp a'.eval o2).run P w = .ok (.value v) w := by
      rw [ho2]; simp [execOp, hf'.ev (x := .tmp d1) (v := v) (by simp [ev, lk])]
    rw [if_pos (by simp [Region.wanted, g2]), r2]
    simp only [Oper.upon]
    unfold wpOpsS
    refine h _ ?_
    rw [k2]; exact hf'.put hd2 v
  unfold recOf at hr
  rw [k1]
  split at hr
  · rename_i v1 cs1 hr1
    cases hr
    rw [hr1]
    exact key _ (by unfold recOf; rw [hr1]) _ (hf.put hd1 v) h
  · rename_i hr1
    cases hr
    rw [hr1]
    exact key _ (by unfold recOf; rw [hr1]) _ (hf.put hd1 _) h
def segP (ops : Array Oper) (fl : List Nat) : Option Nat → List Nat → Bool
  | _, [] => true
  | r, i :: l => (match r with | none => true | some k => ancB ops ops.size i k) &&
      (l.all fun j => !(fl.contains i || fl.contains j) || (!looksB ops i j && !sameDst ops i j && !sameDst ops j i && (!looksB ops j i || ancB ops ops.size j i))) &&
      segP ops fl (if fl.contains i then r else some i) l
def segB (ops : Array Oper) (fl l : List Nat) : Bool :=
  lowB ops && ((List.range ops.size).all fun i => l.contains i) && l.Nodup && (l.all fun i => Nat.blt i ops.size && noSel ops i) && (fl.all fun i => !looksB ops i i) && segP ops fl none l
section
variable {c : Cx} {ops : Array Oper} {Q : Exit → Act → World → Prop} {R : Hp} {L : List Asn}
def SJ (c : Cx) (ops : Array Oper) (L : List Asn) (Q : Exit → Act → World → Prop) (fl : List Nat) : List Nat → Env → Hp → List Asn → Prop
  | [], E, R, G => EJ c (Q .normal) E R (L ++ G)
  | i :: is, E, R, G => (i ∈ fl ∧ ∃ v E', FSpec c ops R L i E v E' ∧ SJ c ops L Q fl is E' R G) ∨
      (i ∉ fl ∧ ∃ o, ops[i]? = some o ∧ ∀ a w, Fr c.n E a → Sat c.σ R (L ++ G) w →
        if Region.wanted o (yielded ops a.tmps) then o.wp c.P a w (fun a' w' => ∃ u E' R' G', R.le R' ∧ a' = a.put o.dst u ∧ Fr c.n E' a' ∧ Sat c.σ R' (L ++ G') w' ∧ SJ c ops L Q fl is E' R' G') (fun _ _ _ => False)
        else ∃ E' R' G', R.le R' ∧ Fr c.n E' (a.put o.dst undef) ∧ Sat c.σ R' (L ++ G') w ∧ SJ c ops L Q fl is E' R' G')
theorem QK.mono {x : Nat × Value} {a : Act} {R' : Hp} (hR : R.le R') (q : QK c ops R L x a) : QK c ops R' L x a := by
  obtain ⟨o, ho, hs, hq⟩ := q
  exact ⟨o, ho, hs, fun R2 hR2 G w hw => hq R2 (Hp.le_trans hR hR2) G w hw⟩
theorem QK.spec {i : Nat} {E E' : Env} {v : Value} {a : Act} (hs : noSel ops i = true) (h : FSpec c ops R L i E v E') (hf : Fr c.n E a) : QK c ops R L (i, v) a ∧ Fr c.n E' (a.put (dstAt ops i) v) := by
  obtain ⟨o, d, ho, hd, hn, rfl, hspec⟩ := h
  have hda : dstAt ops i = some d := by simp [dstAt, ho, hd]
  refine ⟨⟨o, ho, noSel_spec ho hs, fun R' hR G w hw => ?_⟩, by rw [hda]; exact hf.put hn v⟩
  rcases hspec with ⟨hw1, hy⟩ | ⟨hw1, hy⟩
  · exact .inl ⟨hw1 a hf, hy R' hR G a w hf hw⟩
  · exact .inr ⟨hw1 a hf, hy⟩
def apart (ops : Array Oper) (i j : Nat) : Prop := looksB ops i j = false ∧ sameDst ops i j = false ∧ sameDst ops j i = false ∧ (looksB ops j i = false ∨ ancB ops ops.size j i = true)
theorem segP_cons {fl : List Nat} {r : Option Nat} {i : Nat} {l : List Nat} (h : segP ops fl r (i :: l) = true) :
    (∀ k, r = some k → ancB ops ops.size i k = true) ∧ (∀ j ∈ l, i ∈ fl ∨ j ∈ fl → apart ops i j) ∧ segP ops fl (if i ∈ fl then r else some i) l = true := by
  unfold segP at h
  simp only [Bool.and_eq_true, List.all_eq_true, Bool.or_eq_true, Bool.not_eq_true'] at h
  obtain ⟨⟨h1, h2⟩, h3⟩ := h
  refine ⟨fun k hk => by subst hk; exact h1, fun j hj hij => ?_, ?_⟩
  · rcases h2 j hj with h | h
    · simp only [Bool.or_eq_false_iff] at h
      rcases hij with hx | hx
      · have := h.1; rw [show fl.contains i = true from by simpa using hx] at this; cases this
      · have := h.2; rw [show fl.contains j = true from by simpa using hx] at this; cases this
    · exact ⟨h.1.1.1, h.1.1.2, h.1.2, h.2⟩
  · by_cases hi : i ∈ fl
    · rw [if_pos hi]; rw [if_pos (by simpa using hi)] at h3; exact h3
    · rw [if_neg hi]; rw [if_neg (by simpa using hi)] at h3; exact h3
theorem segP_row {fl : List Nat} : ∀ {l : List Nat} {k i : Nat}, segP ops fl (some k) l = true → i ∈ l → ∃ j, (j = k ∨ j ∈ l) ∧ ancB ops ops.size i j = true
  | [], _, _, _, h => by cases h
  | m :: l, k, i, h, hi => by
    obtain ⟨h1, _, h3⟩ := segP_cons h
    rcases List.mem_cons.1 hi with rfl | hi'
    · exact ⟨k, .inl rfl, h1 k rfl⟩
    · by_cases hm : m ∈ fl
      · rw [if_pos hm] at h3
        obtain ⟨j, hj, ha⟩ := segP_row h3 hi'
        exact ⟨j, hj.imp id (fun h => by simp [h]), ha⟩
      · rw [if_neg hm] at h3
        obtain ⟨j, hj, ha⟩ := segP_row h3 hi'
        rcases hj with rfl | hj
        · exact ⟨j, .inr (by simp), ha⟩
        · exact ⟨j, .inr (by simp [hj]), ha⟩
structure SegI (c : Cx) (ops : Array Oper) (Q : Exit → Act → World → Prop) (L : List Asn) (fl : List Nat) (listed : Array Bool) (a : Act) (w : World) (pend : List (Nat × Value)) (l : List Nat) (r : Option Nat) (E : Env) (R : Hp) (G : List Asn) : Prop where
  pf : ∀ x ∈ pend, x.1 ∈ fl ∧ x.1 < ops.size ∧ noSel ops x.1 = true ∧ looksB ops x.1 x.1 = false
  pp : ∀ x ∈ pend, ∀ y ∈ pend, x.1 ≠ y.1 → (looksB ops x.1 y.1 = false ∨ ancB ops ops.size x.1 y.1 = true) ∧ sameDst ops x.1 y.1 = false
  pl : ∀ x ∈ pend, ∀ j ∈ l, apart ops x.1 j
  nd : (pend.map (·.1) ++ l).Nodup
  lb : ∀ j ∈ l, j < ops.size ∧ noSel ops j = true ∧ (j ∈ fl → looksB ops j j = false)
  sp : segP ops fl r l = true
  sj : SJ c ops L Q fl l E R G
  fr : Fr c.n E (virt ops a pend)
  sat : Sat c.σ R (L ++ G) w
  qk : ∀ x ∈ pend, QK c ops R L x (virt ops a pend)
  un : ∀ j, j < ops.size → (listed.getD j false = false ↔ j ∈ pend.map (·.1) ∨ j ∈ l)
theorem SegI.float {fl : List Nat} {listed : Array Bool} {a : Act} {w : World} {pend : List (Nat × Value)} {i : Nat} {l : List Nat} {r : Option Nat} {E : Env} {R : Hp} {G : List Asn} (h : SegI c ops Q L fl listed a w pend (i :: l) r E R G) (hi : i ∈ fl) :
    ∃ v E', SegI c ops Q L fl listed a w ((i, v) :: pend) l r E' R G := by
  obtain ⟨h1, h2, h3⟩ := segP_cons h.sp
  rw [if_pos hi] at h3
  rcases h.sj with ⟨_, v, E', hsp, hsj⟩ | ⟨hn, _⟩
  · obtain ⟨hlt, hns, hself⟩ := h.lb i (by simp)
    obtain ⟨q0, hf'⟩ := QK.spec hns hsp h.fr
    have hnd := h.nd
    have hne : ∀ x ∈ pend, x.1 ≠ i := fun x hx he => by
      rw [List.nodup_append] at hnd
      exact hnd.2.2 x.1 (List.mem_map.2 ⟨x, hx, rfl⟩) i (by simp) he
    have hvirt : virt ops a ((i, v) :: pend) = (virt ops a pend).put (dstAt ops i) v := rfl
    refine ⟨v, E', ?_, ?_, ?_, ?_, fun j hj => h.lb j (by simp [hj]), h3, hsj, hf', h.sat, ?_, fun j hj => ?_⟩
    · intro x hx
      rcases List.mem_cons.1 hx with rfl | hx
      · exact ⟨hi, hlt, hns, hself hi⟩
      · exact h.pf x hx
    · intro x hx y hy hxy
      rcases List.mem_cons.1 hx with rfl | hx
      · rcases List.mem_cons.1 hy with rfl | hy
        · exact absurd rfl hxy
        · have := h.pl y hy i (by simp)
          exact ⟨this.2.2.2, this.2.2.1⟩
      · rcases List.mem_cons.1 hy with rfl | hy
        · have := h.pl x hx i (by simp)
          exact ⟨.inl this.1, this.2.1⟩
        · exact h.pp x hx y hy hxy
    · intro x hx j hj
      rcases List.mem_cons.1 hx with rfl | hx
      · exact h2 j hj (.inl hi)
      · exact h.pl x hx j (by simp [hj])
    · rw [List.map_cons, List.cons_append]
      rw [List.nodup_append] at hnd
      obtain ⟨n1, n2, n3⟩ := hnd
      obtain ⟨n4, n5⟩ := List.nodup_cons.1 n2
      refine List.nodup_cons.2 ⟨fun hm => ?_, List.nodup_append.2 ⟨n1, n5, fun u hu v hv => n3 u hu v (by simp [hv])⟩⟩
      rcases List.mem_append.1 hm with hm | hm
      · obtain ⟨x, hx, he⟩ := List.mem_map.1 hm; exact hne x hx he
      · exact n4 hm
    · intro x hx
      rw [hvirt]
      rcases List.mem_cons.1 hx with rfl | hx
      · exact QK.put (hself hi) q0
      · exact QK.put (h.pl x hx i (by simp)).1 (h.qk x hx)
    · rw [h.un j hj]
      simp only [List.map_cons, List.mem_cons]
      constructor
      · rintro (h | h | h) <;> simp [h]
      · rintro ((h | h) | h) <;> simp [h]
  · exact absurd hi hn
theorem SegI.sated {fl : List Nat} {listed : Array Bool} {a : Act} {w : World} {R : Hp} {G : List Asn} : ∀ {l : List Nat} {pend : List (Nat × Value)} {r : Option Nat} {E : Env}, SegI c ops Q L fl listed a w pend l r E R G →
    ∃ pend' l' r' E', SegI c ops Q L fl listed a w pend' l' r' E' R G ∧ (l' = [] ∨ ∃ k t, l' = k :: t ∧ k ∉ fl) ∧ pend'.length + l'.length = pend.length + l.length
  | [], pend, r, E, h => ⟨pend, [], r, E, h, .inl rfl, rfl⟩
  | i :: l, pend, r, E, h => by
    by_cases hi : i ∈ fl
    · obtain ⟨v, E', h'⟩ := h.float hi
      obtain ⟨p2, l2, r2, E2, h2, h3, h4⟩ := SegI.sated h'
      exact ⟨p2, l2, r2, E2, h2, h3, by rw [h4]; simp; omega⟩
    · exact ⟨pend, i :: l, r, E, h, .inr ⟨i, l, rfl, hi⟩, rfl⟩
end
section
variable {c : Cx} {l : List Oper} {Q : Exit → Act → World → Prop} {E : Env} {R : Hp} {L : List Asn}
variable {fl is : List Nat} {G : List Asn}
end
end V
end Go.Proofs.YtenfjpigffjgmaaGreat
set_option linter.unusedSimpArgs false
set_option linter.unusedVariables false
set_option maxRecDepth 100000
namespace Go.Proofs.YtenfjpigffjgmaaGreat
open Go.RowKit
namespace V
set_option maxHeartbeats 4000000
def lgC (d : Option Addr) (v : Value) (g : LG) : List Value := [.pointer d, .bool g.down, .int .u64 g.term, .int .i64 g.vote, .int .u64 g.base, .int .u64 g.baseT, .string (str g.state), v]
@[reducible] def lgB (b : Nat) (d : Option Addr) (v : Value) (g : LG) : Asn := blk b (lgC d v g) 111
theorem lgDown_q {R : Hp} (b bd : Nat) (v u : Value) (g : LG) (D : DK) : QTri Tryz.prog 59 [.pointer (some ⟨b, 0, none⟩)] R [lgB b (some ⟨bd, 0, none⟩) v g, dkB bd u D] (.bool (g.down || D.down)) := by
  refine Tri.q ?_
  unfold lgB lgC
  refine tri_of Tryz.func59 rfl Tryz.ntmps59 rfl (fun σ F Q hret hend hpan => ?_)
  try simp only [cA, nA]
  refine cj_seq fun K1 hK1 => cj_region ?_
  refine Ps ?_
  refine rj_nil (hK1 _ _ _ (cj_seq fun K2 hK2 => cj_region ?_))
  refine Pm ?_
  refine Pa (y_peql Tryz.underlying55 rfl rfl) ?_
  refine Pm ?_
  refine Pb (y_move rfl) ?_
  refine Pb (y_nilCheck rfl) ?_
  refine Pb (Ga Tryz.underlying111 Tryz.sizeOf4) ?_
  first | refine Pb (La o4) ?_ | refine Pb (Ls o4) ?_
  refine Pa (y_pick_f rfl rfl) ?_
  refine Pm ?_
  refine rj_part 11 rfl (fun hg11 => ?_) (fun hg11 => ?_)
  try simp only [dT, dF, nT, nF, tF, fT] at hg11
  refine Pk ?_
  refine Pk ?_
  refine Pk ?_
  refine Pk ?_
  refine Pk ?_
  refine Pa (y_pick_t rfl rfl) ?_
  refine Ps ?_
  refine rj_nil (hK2 _ _ _ (cj_ret (hret _ _ _ ?_)))
  refine Ea Tryz.results59 (.cons (rv_tmp rfl) .nil) [lgB b (some ⟨bd, 0, none⟩) v g, dkB bd u D] le_ ?_
  refine ⟨?_, rfl, rfl⟩; simp_all [tupOf]
  try simp only [dT, dF, nT, nF, tF, fT] at hg11
  refine Pb (y_move rfl) ?_
  refine Pb (y_nilCheck rfl) ?_
  refine Pb (Ga Tryz.underlying111 Tryz.sizeOf83) ?_
  first | refine Pb (La o83) ?_ | refine Pb (Ls o83) ?_
  refine Pb (Ca Tryz.call85 (down_q bd u D)) ?_
  refine Pa (y_pick_f rfl rfl) ?_
  refine Ps ?_
  refine rj_nil (hK2 _ _ _ ?_)
  refine cj_env (eL 2 rfl eN) ?_
  refine cj_ret (hret _ _ _ ?_)
  refine Ea Tryz.results59 (.cons (rv_tmp rfl) .nil) [lgB b (some ⟨bd, 0, none⟩) v g, dkB bd u D] le_ ?_
  refine ⟨?_, rfl, rfl⟩; simp_all [tupOf]
theorem lgTerm_q {R : Hp} (b : Nat) (d : Option Addr) (v : Value) (g : LG) : QTri Tryz.prog 24 [.pointer (some ⟨b, 0, none⟩)] R [lgB b d v g] (.int .u64 g.term) := by
  refine Tri.q ?_
  unfold lgB lgC
  refine tri_of Tryz.func24 rfl Tryz.ntmps24 rfl (fun σ F Q hret hend hpan => ?_)
  try simp only [cA, nA]
  refine cj_seq fun K1 hK1 => cj_region ?_
  refine Ps ?_
  refine rj_nil (hK1 _ _ _ (cj_seq fun K2 hK2 => cj_seq fun K3 hK3 => cj_region ?_))
  refine Pm ?_
  refine Pa (y_peql Tryz.underlying55 rfl rfl) ?_
  refine rj_nil (hK3 _ _ _ (cj_cond_f rfl (cj_skip (hK2 _ _ _ (cj_seq fun K4 hK4 => cj_region ?_)))))
  refine Pm ?_
  refine Pa (y_nilCheck rfl) ?_
  refine Pa (Ga Tryz.underlying111 Tryz.sizeOf36) ?_
  first | refine Pa (La o36) ?_ | refine Pa (Ls o36) ?_
  refine Ps ?_
  refine rj_nil (hK4 _ _ _ (cj_ret (hret _ _ _ ?_)))
  refine Ea Tryz.results24 (.cons (rv_tmp rfl) .nil) [lgB b d v g] le_ ?_
  exact ⟨rfl, rfl, rfl⟩
theorem lgVote_q {R : Hp} (b : Nat) (d : Option Addr) (v : Value) (g : LG) : QTri Tryz.prog 96 [.pointer (some ⟨b, 0, none⟩)] R [lgB b d v g] (.int .i64 g.vote) := by
  refine Tri.q ?_
  unfold lgB lgC
  refine tri_of Tryz.func96 rfl Tryz.ntmps96 rfl (fun σ F Q hret hend hpan => ?_)
  try simp only [cA, nA]
  refine cj_seq fun K1 hK1 => cj_region ?_
  refine Ps ?_
  refine rj_nil (hK1 _ _ _ (cj_seq fun K2 hK2 => cj_seq fun K3 hK3 => cj_region ?_))
  refine Pm ?_
  refine Pa (y_peql Tryz.underlying55 rfl rfl) ?_
  refine rj_nil (hK3 _ _ _ (cj_cond_f rfl (cj_skip (hK2 _ _ _ (cj_seq fun K4 hK4 => cj_region ?_)))))
  refine Pm ?_
  refine Pa (y_nilCheck rfl) ?_
  refine Pa (Ga Tryz.underlying111 Tryz.sizeOf3) ?_
  first | refine Pa (La o3) ?_ | refine Pa (Ls o3) ?_
  refine Ps ?_
  refine rj_nil (hK4 _ _ _ (cj_ret (hret _ _ _ ?_)))
  refine Ea Tryz.results96 (.cons (rv_tmp rfl) .nil) [lgB b d v g] le_ ?_
  exact ⟨rfl, rfl, rfl⟩
theorem lgBase_q {R : Hp} (b : Nat) (d : Option Addr) (v : Value) (g : LG) : QTri Tryz.prog 25 [.pointer (some ⟨b, 0, none⟩)] R [lgB b d v g] (tupOf [.int .u64 g.base, .int .u64 g.baseT, .string (str g.state)]) := by
  refine Tri.q ?_
  unfold lgB lgC
  refine tri_of Tryz.func25 rfl Tryz.ntmps25 rfl (fun σ F Q hret hend hpan => ?_)
  try simp only [cA, nA]
  refine cj_seq fun K1 hK1 => cj_region ?_
  refine Ps ?_
  refine Ps ?_
  refine Ps ?_
  refine rj_nil (hK1 _ _ _ (cj_seq fun K2 hK2 => cj_seq fun K3 hK3 => cj_region ?_))
  refine Pm ?_
  refine Pa (y_peql Tryz.underlying55 rfl rfl) ?_
  refine rj_nil (hK3 _ _ _ (cj_cond_f rfl (cj_skip (hK2 _ _ _ (cj_seq fun K4 hK4 => ?_)))))
  refine cj_draw (by kernel_rfl) (by kernel_rfl) ?_
  refine Qa (y_move rfl) ?_
  refine Qa (y_nilCheck rfl) ?_
  refine Qa (Ga Tryz.underlying111 Tryz.sizeOf36) ?_
  first | refine Qa (La o36) ?_ | refine Qa (Ls o36) ?_
  refine Qa (y_move rfl) ?_
  refine Qa (y_nilCheck rfl) ?_
  refine Qa (Ga Tryz.underlying111 Tryz.sizeOf36) ?_
  first | refine Qa (La o36) ?_ | refine Qa (Ls o36) ?_
  refine Qa (y_move rfl) ?_
  refine Qa (y_nilCheck rfl) ?_
  refine Qa (Ga Tryz.underlying111 Tryz.sizeOf9) ?_
  first | refine Qa (La o9) ?_ | refine Qa (Ls o9) ?_
  refine Qa (y_assign rfl) ?_
  refine Qa (y_assign rfl) ?_
  refine Qa (y_assign rfl) ?_
  refine qj_nil ?_
  refine hK4 _ _ _ ?_
  refine cj_env (eL 2 rfl (eL 3 rfl (eL 4 rfl eN))) ?_
  refine cj_ret (hret _ _ _ ?_)
  refine Ea Tryz.results25 (.cons (rv_tmp rfl) (.cons (rv_tmp rfl) (.cons (rv_tmp rfl) .nil))) [lgB b d v g] le_ ?_
  exact ⟨rfl, rfl, rfl⟩
theorem lgLast_q {R : Hp} (b : Nat) (d : Option Addr) (v : Value) (g : LG) (hg : g.ok) (hv : FrX entE R g.all v) : QTri Tryz.prog 60 [.pointer (some ⟨b, 0, none⟩)] R [lgB b d v g] (.int .u64 g.last) := by
  obtain ⟨q, cap, rfl, _, _⟩ := hv.shape
  have hb := hg.base
  have hn := hg.alln
  refine Tri.q ?_
  unfold lgB lgC
  refine tri_of Tryz.func60 rfl Tryz.ntmps60 rfl (fun σ F Q hret hend hpan => ?_)
  try simp only [cA, nA]
  refine cj_seq fun K1 hK1 => cj_region ?_
  refine Ps ?_
  refine rj_nil (hK1 _ _ _ (cj_seq fun K2 hK2 => cj_seq fun K3 hK3 => cj_region ?_))
  refine Pm ?_
  refine Pa (y_peql Tryz.underlying55 rfl rfl) ?_
  refine rj_nil (hK3 _ _ _ (cj_cond_f rfl (cj_skip (hK2 _ _ _ (cj_seq fun K4 hK4 => ?_)))))
  refine cj_draw (by kernel_rfl) (by kernel_rfl) ?_
  refine Qa (y_move rfl) ?_
  refine Qa (y_nilCheck rfl) ?_
  refine Qa (Ga Tryz.underlying111 Tryz.sizeOf36) ?_
  first | refine Qa (La o36) ?_ | refine Qa (Ls o36) ?_
  refine Qa (y_move rfl) ?_
  refine Qa (y_nilCheck rfl) ?_
  refine Qa (Ga Tryz.underlying111 Tryz.sizeOf76) ?_
  first | refine Qa (La o76) ?_ | refine Qa (Ls o76) ?_
  first | refine Qa (y_len_sl Tryz.underlying76 rfl) ?_ | refine Qa (y_len_slc Tryz.underlying76 rfl fd_) ?_
  first | refine Qa (y_conv_in Tryz.underlying3 Tryz.underlying36 rfl (by (simp only [IntKind.min, IntKind.max, IntKind.signed, IntKind.bits, Bool.false_eq_true, ite_false, ite_true]; omega))) ?_ | refine Qa (y_conv Tryz.underlying3 Tryz.underlying36 rfl) ?_
  first | refine Qa (y_addu rfl rfl om_) ?_ | refine Qa (y_add rfl rfl) ?_
  refine Qa (y_assign rfl) ?_
  refine qj_nil ?_
  refine hK4 _ _ _ (cj_ret (hret _ _ _ ?_))
  refine Ea Tryz.results60 (.cons (rv_tmp rfl) .nil) [lgB b d (.slice q g.all.length cap) g] le_ ?_
  exact ⟨rfl, rfl, rfl⟩
def entV (o : Option Ent) : Value := match o with
  | some e => tupOf [.agg ⟨entC e⟩, .bool true]
  | none => tupOf [.agg ⟨entC (0, [])⟩, .bool false]
def numV (o : Option Int) : Value := match o with
  | some e => tupOf [.int .u64 e, .bool true]
  | none => tupOf [.int .u64 0, .bool false]
theorem lgAt_q {R : Hp} (b : Nat) (d : Option Addr) (v : Value) (g : LG) (hg : g.ok) (hv : FrX entE R g.all v) (i : Int) (hi : u64B i) : QTri Tryz.prog 40 [.pointer (some ⟨b, 0, none⟩), .int .u64 i] R [lgB b d v g] (entV (g.at i)) := by
  obtain ⟨q, cap, rfl, _, _⟩ := hv.shape
  have hb := hg.base
  have hn := hg.alln
  have hl := lgLast_q (R := R) b d _ g hg hv
  have hle : g.last = g.base + g.all.length := rfl
  unfold u64B at hi
  refine Tri.q2 ?_
  unfold lgB lgC at hl ⊢
  refine tri_of Tryz.func40 rfl Tryz.ntmps40 rfl (fun σ F Q hret hend hpan => ?_)
  try simp only [cA, nA]
  refine cj_seq fun K1 hK1 => cj_region ?_
  refine rj_alloc (wn0 rfl) rfl Tryz.zeroValue93 rfl (fun b4 => ?_)
  refine Ps ?_
  refine rj_nil (hK1 _ _ _ (cj_seq fun K2 hK2 => cj_seq fun K3 hK3 => cj_region ?_))
  refine Pm ?_
  refine Pa (y_peql Tryz.underlying55 rfl rfl) ?_
  refine Pm ?_
  refine Pb (y_move rfl) ?_
  refine Pb (y_move rfl) ?_
  refine Pb (y_nilCheck rfl) ?_
  refine Pb (Ga Tryz.underlying111 Tryz.sizeOf36) ?_
  first | refine Pb (La o36) ?_ | refine Pb (Ls o36) ?_
  refine Pb (y_leq rfl rfl) ?_
  refine Pa (y_pick_f rfl rfl) ?_
  refine Pm ?_
  refine rj_part 16 rfl (fun hg16 => ?_) (fun hg16 => ?_)
  have f1 : ¬ g.base < i := by (try simp at hg16); omega
  refine Pk ?_
  refine Pk ?_
  refine Pk ?_
  refine Pk ?_
  refine Pa (y_pick_t rfl rfl) ?_
  refine rj_nil (hK3 _ _ _ (cj_cond_t rfl (cj_seq fun K4 hK4 => cj_region ?_)))
  refine Pa (y_build (cells := [_, _]) [(0, 1), (1, 1)] Tryz.underlying93 Tryz.zeroValue93 (fun _ => rfl) rfl rfl) ?_
  refine Sm (vs := entC (0, [])) m93 (entE.one (R := R) (x := (0, [])) rfl) ?_
  refine Ps ?_
  refine rj_nil (hK4 _ _ _ ?_)
  refine cj_env (eL 4 rfl (eL 5 rfl eN)) ?_
  refine cj_ret (hret _ _ _ ?_)
  refine Ea Tryz.results40 (.cons (rv_cells m93 rfl fd_ rfl rfl) (.cons (rv_tmp rfl) .nil)) [lgB b d (.slice q g.all.length cap) g] le_ ?_
  rw [show g.at i = none by unfold LG.at; rw [if_neg (fun h => f1 h.1)]]; exact ⟨rfl, rfl⟩
  have f1 : g.base < i := by (try simp at hg16); omega
  refine Pb (y_move rfl) ?_
  refine Pb (y_move rfl) ?_
  refine Pb (Ca Tryz.call60 (hl)) ?_
  refine Pb (y_gtr rfl rfl) ?_
  refine Pa (y_pick_f rfl rfl) ?_
  refine rj_nil (hK3 _ _ _ ?_)
  refine cj_cond rfl (fun hc21 => ?_) (fun hc21 => ?_)
  have f2 : ¬ i ≤ g.last := by (try simp at hc21); omega
  refine cj_seq fun K6 hK6 => cj_region ?_
  refine Pa (y_build (cells := [_, _]) [(0, 1), (1, 1)] Tryz.underlying93 Tryz.zeroValue93 (fun _ => rfl) rfl rfl) ?_
  refine Sm (vs := entC (0, [])) m93 (entE.one (R := R) (x := (0, [])) rfl) ?_
  refine Ps ?_
  refine rj_nil (hK6 _ _ _ (cj_ret (hret _ _ _ ?_)))
  refine Ea Tryz.results40 (.cons (rv_cells m93 rfl fd_ rfl rfl) (.cons (rv_tmp rfl) .nil)) [lgB b d (.slice q g.all.length cap) g] le_ ?_
  rw [show g.at i = none by unfold LG.at; rw [if_neg (fun h => f2 h.2)]]; exact ⟨rfl, rfl⟩
  have f2 : i ≤ g.last := by (try simp at hc21); omega
  refine cj_skip (hK2 _ _ _ (cj_seq fun K7 hK7 => ?_))
  have hat : g.at i = g.all[(i - g.base - 1).toNat]? := by unfold LG.at; rw [if_pos ⟨f1, f2⟩]
  obtain ⟨e, he⟩ : ∃ e, g.all[(i - g.base - 1).toNat]? = some e := ⟨_, List.getElem?_eq_getElem (by omega)⟩
  obtain ⟨be, oe, ce, cse, hee, rfl, _, hcell⟩ := hv.at he
  obtain ⟨rfl, rfl⟩ : q = some ⟨be, oe, none⟩ ∧ cap = ce := by cases hee; exact ⟨rfl, rfl⟩
  refine cj_mixg (L := [blk b [.pointer d, .bool g.down, .int .u64 g.term, .int .i64 g.vote, .int .u64 g.base, .int .u64 g.baseT, .string (str g.state), .slice (some ⟨be, oe, none⟩) g.all.length cap] 111]) [0, 1, 2, 3, 4, 5, 6, 7, 8, 9, 10, 11, 12] [] [13, 14] _ sb_ (by kernel_rfl) (by kernel_rfl) (by kernel_rfl) rfl ?_
  refine Wa rfl (fun R1 hR1 G => (y_move rfl)) ?_
  refine Wa rfl (fun R1 hR1 G => (y_nilCheck rfl)) ?_
  refine Wa rfl (fun R1 hR1 G => (Ga Tryz.underlying111 Tryz.sizeOf76)) ?_
  first | refine Wa rfl (fun R1 hR1 G => (La o76)) ?_ | refine Wa rfl (fun R1 hR1 G => (Ls o76)) ?_
  refine Wa rfl (fun R1 hR1 G => (y_move rfl)) ?_
  refine Wa rfl (fun R1 hR1 G => (y_move rfl)) ?_
  refine Wa rfl (fun R1 hR1 G => (y_nilCheck rfl)) ?_
  refine Wa rfl (fun R1 hR1 G => (Ga Tryz.underlying111 Tryz.sizeOf36)) ?_
  first | refine Wa rfl (fun R1 hR1 G => (La o36)) ?_ | refine Wa rfl (fun R1 hR1 G => (Ls o36)) ?_
  refine Wa rfl (fun R1 hR1 G => (y_subu rfl rfl (by omega))) ?_
  refine Wa rfl (fun R1 hR1 G => (y_subu rfl rfl (by omega))) ?_
  first | refine Wa rfl (fun R1 hR1 G => (y_indexAddr Tryz.underlying76 Tryz.sizeOf93 rfl rfl om_)) ?_ | refine Wa rfl (fun R1 hR1 G => (y_index_slc Tryz.underlying76 Tryz.sizeOf93 rfl rfl fd_ om_)) ?_
  refine Wa rfl (fun R1 hR1 G => (y_loads_ro m93 (vs := entC e) rfl rfl (fun j u hj => cell_mono hR1 (hcell j u hj)))) ?_
  refine fj_nil ?_
  refine xj_nil ?_
  try simp only [cA, nA, List.append_nil]
  refine Sm (vs := entC e) m93 (entE.one (R := R) (x := e) rfl) ?_
  refine Ps ?_
  refine rj_nil (hK7 _ _ _ ?_)
  refine cj_env (eL 4 rfl (eL 5 rfl eN)) ?_
  refine cj_ret (hret _ _ _ ?_)
  refine Ea Tryz.results40 (.cons (rv_cells m93 rfl fd_ rfl rfl) (.cons (rv_tmp rfl) .nil)) [lgB b d (.slice (some ⟨be, oe, none⟩) g.all.length cap) g] le_ ?_
  rw [hat, he]; exact ⟨rfl, rfl⟩
theorem lgTermAt_q {R : Hp} (b : Nat) (d : Option Addr) (v : Value) (g : LG) (hg : g.ok) (hv : FrX entE R g.all v) (i : Int) (hi : u64B i) : QTri Tryz.prog 100 [.pointer (some ⟨b, 0, none⟩), .int .u64 i] R [lgB b d v g] (numV (g.termAt i)) := by
  have ha := lgAt_q (R := R) b d v g hg hv i hi
  have hvo := hv.one
  refine Tri.q2 ?_
  unfold lgB lgC at ha ⊢
  refine tri_of Tryz.func100 rfl Tryz.ntmps100 rfl (fun σ F Q hret hend hpan => ?_)
  try simp only [cA, nA]
  refine cj_seq fun K1 hK1 => cj_region ?_
  refine Ps ?_
  refine Ps ?_
  refine rj_nil (hK1 _ _ _ (cj_seq fun K2 hK2 => cj_seq fun K3 hK3 => cj_region ?_))
  refine Pm ?_
  refine Pa (y_pneq Tryz.underlying55 rfl rfl) ?_
  refine Pm ?_
  refine Pb (y_move rfl) ?_
  refine Pb (y_move rfl) ?_
  refine Pb (y_nilCheck rfl) ?_
  refine Pb (Ga Tryz.underlying111 Tryz.sizeOf36) ?_
  first | refine Pb (La o36) ?_ | refine Pb (Ls o36) ?_
  refine Pb (y_eql rfl rfl) ?_
  refine Pa (y_pick_t rfl rfl) ?_
  refine rj_nil (hK3 _ _ _ ?_)
  refine cj_cond rfl (fun hc17 => ?_) (fun hc17 => ?_)
  have f1 : i = g.base := by simpa using hc17
  refine cj_seq fun K5 hK5 => cj_region ?_
  refine Pm ?_
  refine Pa (y_nilCheck rfl) ?_
  refine Pa (Ga Tryz.underlying111 Tryz.sizeOf36) ?_
  first | refine Pa (La o36) ?_ | refine Pa (Ls o36) ?_
  refine Ps ?_
  refine Ps ?_
  refine rj_nil (hK5 _ _ _ ?_)
  refine cj_env (eL 4 rfl (eL 5 rfl eN)) ?_
  refine cj_ret (hret _ _ _ ?_)
  refine Ea Tryz.results100 (.cons (rv_tmp rfl) (.cons (rv_tmp rfl) .nil)) [lgB b d v g] le_ ?_
  unfold LG.termAt; rw [if_pos f1]; exact ⟨rfl, rfl⟩
  have f1 : ¬ i = g.base := by simpa using hc17
  refine cj_skip (hK2 _ _ _ (cj_seq fun K6 hK6 => cj_region ?_))
  refine Pm ?_
  refine Pm ?_
  refine Pa (Ca Tryz.call40 (ha)) ?_
  obtain ⟨e, ok, hev, htm⟩ : ∃ (e : Ent) (ok : Bool), entV (g.at i) = tupOf [.agg ⟨entC e⟩, .bool ok] ∧ numV (g.termAt i) = tupOf [.int .u64 e.1, .bool ok] := by unfold LG.termAt; rw [if_neg f1]; cases g.at i with | none => exact ⟨(0, []), false, rfl, rfl⟩ | some e => exact ⟨e, true, rfl, rfl⟩
  refine rj_eq 25 rfl (v' := tupOf [.agg ⟨entC e⟩, .bool ok]) hev ?_
  refine Pm ?_
  refine Pa (y_extract rfl rfl) ?_
  refine Pa (y_extract rfl rfl) ?_
  refine rj_alloc (wn0 rfl) rfl Tryz.zeroValue93 rfl (fun b6 => ?_)
  refine Sm (vs := entC e) m93 (entE.one (R := R) (x := e) rfl) ?_
  refine Ps ?_
  refine rj_nil (hK6 _ _ _ (cj_seq fun K7 hK7 => cj_region ?_))
  refine Pa (Ga Tryz.underlying93 Tryz.sizeOf36) ?_
  first | refine Pa (La o36) ?_ | refine Pa (Ls o36) ?_
  refine Pm ?_
  refine Ps ?_
  refine Ps ?_
  refine rj_nil (hK7 _ _ _ (cj_ret (hret _ _ _ ?_)))
  refine Ea Tryz.results100 (.cons (rv_tmp rfl) (.cons (rv_tmp rfl) .nil)) [lgB b d v g] le_ ?_
  rw [htm]; exact ⟨rfl, rfl⟩
def intsV (l : List Int) : List Value := l.map (Value.int .i64 ·)
def intE : Elt Int where
  P := fun _ n cs => cs = [.int .i64 n]
  sz := 1
  mono := fun _ h => h
  len := fun h => by subst h; rfl
  one := fun h u hu => by subst h; simp at hu; subst hu; rfl
theorem intsV_flat (l : List Int) : intsV l = (l.map fun n => [Value.int .i64 n]).flatten := by
  induction l with
  | nil => rfl
  | cons a l ih => simp [intsV] at ih ⊢; exact ih
theorem intsFr {R : Hp} {l : List Int} {v : Value} (h : FrozenS R v l.length (intsV l)) : FrX intE R l v := by
  rw [intsV_flat] at h
  refine FrozenS.frx h ⟨by simp, fun i x cs h1 h2 => ?_⟩
  rw [List.getElem?_map, h1] at h2
  simpa [intE] using h2.symm
theorem shape1_q {R : Hp} {x : Nd} {cs : List Value} (hx : RepN R x cs) (k : Int) : QTri Tryz.prog 118 [.agg ⟨cs⟩, .int .i64 k] R [] (.bool (decide (x.kind = k))) := by
  obtain ⟨kk, n, s, l, q, cap, rfl, rfl, hs, hl⟩ := hx.inv
  refine Tri.q2 ?_
  refine tri_of Tryz.func118 rfl Tryz.ntmps118 rfl (fun σ F Q hret hend hpan => ?_)
  try simp only [cA, nA]
  refine cj_seq fun K1 hK1 => cj_region ?_
  refine rj_box (wn0 rfl) rfl rfl rfl (fun b2 => ?_)
  refine Ps ?_
  refine rj_nil (hK1 _ _ _ (cj_seq fun K2 hK2 => cj_region ?_))
  refine Pa (Ga Tryz.underlying150 Tryz.sizeOf3) ?_
  first | refine Pa (La o3) ?_ | refine Pa (Ls o3) ?_
  refine Pm ?_
  refine Pa (y_eql rfl rfl) ?_
  refine Ps ?_
  refine rj_nil (hK2 _ _ _ (cj_ret (hret _ _ _ ?_)))
  refine Ea Tryz.results118 (.cons (rv_tmp rfl) .nil) [] le_ ?_
  exact ⟨rfl, rfl⟩
theorem take_map_succ {l : List Nd} {ks : List Int} {i : Nat} {x : Nd} {k : Int} (h : (l.take i).map Nd.kind = ks.take i) (hx : l[i]? = some x) (hk : ks[i]? = some k) (e : x.kind = k) : (l.take (i + 1)).map Nd.kind = ks.take (i + 1) := by
  rw [List.take_add_one, List.take_add_one, hx, hk]; simp [h, e]
theorem eqFunc_q {R : Hp} (l : List Nd) (q : Option Addr) (cap : Nat) (hl : RepL R l q cap) (ks : List Int) (v : Value) (hk : FrX intE R ks v) :
    QTri Tryz.prog 117 [.slice q l.length cap, v, .func (.func 118) ⟨[]⟩ ⟨[]⟩] R [] (.bool (decide (l.map Nd.kind = ks))) := by
  obtain ⟨qk, capk, rfl, hck, hcm⟩ := hk.shape
  have hlb : ks.length ≤ maxLen := Nat.le_trans hck hcm
  have hll : l.length ≤ big := by obtain ⟨_, h, _⟩ := hl; exact h
  unfold maxLen at hlb
  unfold big at hll
  refine Tri.q2 ?_
  refine tri_of Tryz.func117 rfl Tryz.ntmps117 rfl (fun σ F Q hret hend hpan => ?_)
  try simp only [cA, nA]
  refine cj_seq fun K1 hK1 => cj_region ?_
  refine Ps ?_
  refine rj_nil (hK1 _ _ _ (cj_seq fun K2 hK2 => cj_seq fun K3 hK3 => cj_region ?_))
  refine Pm ?_
  first | refine Pa (y_len_sl Tryz.underlying148 rfl) ?_ | refine Pa (y_len_slc Tryz.underlying148 rfl fd_) ?_
  refine Pm ?_
  first | refine Pa (y_len_sl Tryz.underlying187 rfl) ?_ | refine Pa (y_len_slc Tryz.underlying187 rfl fd_) ?_
  refine Pa (y_neq rfl rfl) ?_
  refine rj_nil (hK3 _ _ _ ?_)
  refine cj_cond rfl (fun hc14 => ?_) (fun hc14 => ?_)
  have hne : ¬ l.map Nd.kind = ks := fun h => by have := congrArg List.length h; simp at this; (try simp at hc14); omega
  refine cj_seq fun K5 hK5 => cj_region ?_
  refine Ps ?_
  refine rj_nil (hK5 _ _ _ (cj_ret (hret _ _ _ ?_)))
  refine Ea Tryz.results117 (.cons (rv_tmp rfl) .nil) [] le_ ?_
  rw [decide_eq_false hne]; exact ⟨rfl, rfl⟩
  have hll2 : l.length = ks.length := by (try simp at hc14); omega
  refine cj_skip (hK2 _ _ _ (cj_seq fun K6 hK6 => cj_seq fun K7 hK7 => cj_region ?_))
  refine Pm ?_
  first | refine Pa (y_len_sl Tryz.underlying148 rfl) ?_ | refine Pa (y_len_slc Tryz.underlying148 rfl fd_) ?_
  refine Pm ?_
  refine rj_nil (hK7 _ _ _ (cj_block ?_))
  refine cj_env (E' := (fun (x : Nat) => [(1, .slice qk ks.length capk), (2, .func (.func 118) ⟨[]⟩ ⟨[]⟩), (15, .slice q l.length cap), (16, .int .i64 (l.length : Int)), (17, .int .i64 (x : Int))]) 0) (eC rfl (eC rfl (eC rfl (eC rfl (eC rfl eN))))) ?_
  refine cj_sub (M := (fun (x : Nat) => F) 0) sb_ ?_
  refine cj_loop (fun (x : Nat) => [(1, .slice qk ks.length capk), (2, .func (.func 118) ⟨[]⟩ ⟨[]⟩), (15, .slice q l.length cap), (16, .int .i64 (l.length : Int)), (17, .int .i64 (x : Int))]) (fun (x : Nat) => R) (fun (x : Nat) => F) (fun (x : Nat) => x ≤ l.length ∧ (l.take x).map Nd.kind = ks.take x) (fun (x : Nat) => l.length - x) 0 (⟨by simp, by simp⟩) ?_
  rintro i ⟨hi, hal⟩
  try dsimp only
  refine cj_seq fun K8 hK8 => cj_region ?_
  refine Pa (y_lss rfl rfl) ?_
  refine rj_nil (hK8 _ _ _ (cj_seq fun K9 hK9 => ?_))
  refine cj_cond rfl (fun hc18 => ?_) (fun hc18 => ?_)
  try simp only [dT, dF, nT, nF, tF, fT] at hc18
  refine cj_skip (hK9 _ _ _ (cj_seq fun K11 hK11 => cj_block (cj_seq fun K12 hK12 => cj_region ?_)))
  have hi2 : i < l.length := by (try simp at hc18); omega
  obtain ⟨x, hx⟩ : ∃ x, l[i]? = some x := ⟨_, List.getElem?_eq_getElem hi2⟩
  obtain ⟨k, hkx⟩ : ∃ x, ks[i]? = some x := ⟨_, List.getElem?_eq_getElem (by omega)⟩
  obtain ⟨bx, ox, cx, rfl, hcl, hrep, hcell⟩ := hl.at hx
  obtain ⟨bk, ok, ck, ck0, hek, rfl, _, hcellk⟩ := hk.at hkx
  obtain ⟨rfl, rfl⟩ : qk = some ⟨bk, ok, none⟩ ∧ capk = ck := by cases hek; exact ⟨rfl, rfl⟩
  refine Pm ?_
  first | refine Pa (y_indexAddr Tryz.underlying148 Tryz.sizeOf150 rfl rfl om_) ?_ | refine Pa (y_index_slc Tryz.underlying148 Tryz.sizeOf150 rfl rfl fd_ om_) ?_
  refine Pa ((y_loads_ro m150 (vs := cx) hcl rfl (fun j u hj => hcell j u hj))) ?_
  refine rj_alloc (wn0 rfl) rfl Tryz.zeroValue150 rfl (fun b8 => ?_)
  refine Ps ?_
  refine rj_stores_all (vs := cx) m150 hcl (wn0 rfl) rfl rfl (rep_one hrep) fd_ rfl ?_
  refine rj_nil (hK12 _ _ _ (cj_seq fun K13 hK13 => cj_region ?_))
  refine Pm ?_
  refine Pm ?_
  first | refine Pa (y_indexAddr Tryz.underlying187 Tryz.sizeOf3 rfl rfl om_) ?_ | refine Pa (y_index_slc Tryz.underlying187 Tryz.sizeOf3 rfl rfl fd_ om_) ?_
  refine Pa ((y_load_ro o3 rfl (hcellk 0 (.int .i64 k) rfl))) ?_
  refine Ps ?_
  refine rj_nil (hK13 _ _ _ ?_)
  refine cj_env (eL 1 rfl (eL 2 rfl (eL 8 rfl (eL 9 rfl (eL 15 rfl (eL 16 rfl (eL 17 rfl eN))))))) ?_
  refine cj_seq fun K14 hK14 => cj_region ?_
  refine Pm ?_
  refine Pa ((y_loads_all (vs := cx) m150 hcl rfl fd_)) ?_
  refine Pm ?_
  refine Pa (y_callv rfl Tryz.call118 rfl (shape1_q hrep k) sp_) ?_
  refine Pa (y_not rfl) ?_
  refine rj_nil (hK14 _ _ _ ?_)
  refine cj_cond rfl (fun hc30 => ?_) (fun hc30 => ?_)
  have hne : ¬ l.map Nd.kind = ks := fun h => by have h1 := congrArg (fun z => z[i]?) h; simp only [List.getElem?_map, hx, hkx] at h1; simp at h1; simp [h1] at hc30
  refine cj_seq fun K16 hK16 => cj_region ?_
  refine Ps ?_
  refine rj_nil (hK16 _ _ _ (cj_ret (hret _ _ _ ?_)))
  refine Ea Tryz.results117 (.cons (rv_tmp rfl) .nil) [] le_ ?_
  rw [decide_eq_false hne]; exact ⟨rfl, rfl⟩
  try simp only [dT, dF, nT, nF, tF, fT] at hc30
  refine cj_skip (hK11 _ _ _ (cj_region ?_))
  first | refine Pa (y_add64 rfl rfl om_) ?_ | refine Pa (y_add rfl rfl) ?_
  refine Pm ?_
  refine rj_nil ?_
  refine ej_on (q' := roundK _ _ _ _ _ _ _) rfl ?_
  refine ej_round (i + 1) (⟨by omega, take_map_succ hal hx hkx (by simpa using hc30)⟩) (by omega) (eC rfl (eC rfl (eC rfl (eC rfl (eC rfl eN))))) rfl sb_
  try simp only [dT, dF, nT, nF, tF, fT] at hc18
  refine cj_exit (hK6 _ _ _ ?_)
  refine cj_env eN ?_
  refine cj_seq fun K17 hK17 => cj_region ?_
  obtain rfl : i = l.length := by (try simp at hc18); omega
  rw [List.take_length, List.take_of_length_le (by omega)] at hal
  refine Ps ?_
  refine rj_nil (hK17 _ _ _ (cj_ret (hret _ _ _ ?_)))
  refine Ea Tryz.results117 (.cons (rv_tmp rfl) .nil) [] le_ ?_
  rw [decide_eq_true hal]; exact ⟨rfl, rfl⟩
theorem shape_q {R : Hp} (l : List Nd) (q : Option Addr) (cap : Nat) (hl : RepL R l q cap) (ks : List Int) (v : Value) (hk : FrX intE R ks v) :
    QTri Tryz.prog 104 [.slice q l.length cap, v] R [] (.bool (decide (l.map Nd.kind = ks))) := by
  have hvo := hk.one
  refine Tri.q2 ?_
  refine tri_of Tryz.func104 rfl Tryz.ntmps104 rfl (fun σ F Q hret hend hpan => ?_)
  try simp only [cA, nA]
  refine cj_seq fun K1 hK1 => cj_region ?_
  refine Ps ?_
  refine rj_nil (hK1 _ _ _ (cj_seq fun K2 hK2 => cj_region ?_))
  refine Pm ?_
  refine Pm ?_
  refine Pa (Ca Tryz.call117 (eqFunc_q l q cap hl ks v hk)) ?_
  refine Ps ?_
  refine rj_nil (hK2 _ _ _ (cj_ret (hret _ _ _ ?_)))
  refine Ea Tryz.results104 (.cons (rv_tmp rfl) .nil) [] le_ ?_
  exact ⟨rfl, rfl⟩
end V
end Go.Proofs.YtenfjpigffjgmaaGreat
set_option linter.unusedSimpArgs false
set_option linter.unusedVariables false
set_option maxRecDepth 100000
namespace Go.Proofs.YtenfjpigffjgmaaGreat
open Go.RowKit
namespace V
set_option maxHeartbeats 4000000
theorem rep_num {R : Hp} {n : Int} (h : u64B n) : RepN R (numN n.toNat) [.int .i64 0, .int .u64 n, .string (str []), .slice none 0 0] := by
  have := RepL.node (R := R) (k := 0) (n := n.toNat) (s := []) (by simp [big]) (RepL.nil R)
  rw [(toNat64 h).2] at this
  exact this
theorem rep_str {R : Hp} {s : Bs} (h : s.length ≤ big) : RepN R (strN s) [.int .i64 1, .int .u64 0, .string (str s), .slice none 0 0] :=
  RepL.node (R := R) (k := 1) (n := 0) (s := s) h (RepL.nil R)
theorem kids2 {R : Hp} {x y : Nd} {cx cy : List Value} (hx : RepN R x cx) (hy : RepN R y cy) : Kids R [x, y] [cx, cy] := ⟨rfl, fun i z cs h1 h2 => by
  match i with
  | 0 => cases h1; cases h2; exact hx
  | 1 => cases h1; cases h2; exact hy
  | i + 2 => simp at h1⟩
theorem kids3 {R : Hp} {x y z : Nd} {cx cy cz : List Value} (hx : RepN R x cx) (hy : RepN R y cy) (hz : RepN R z cz) : Kids R [x, y, z] [cx, cy, cz] := ⟨rfl, fun i w cs h1 h2 => by
  match i with
  | 0 => cases h1; cases h2; exact hx
  | 1 => cases h1; cases h2; exact hy
  | 2 => cases h1; cases h2; exact hz
  | i + 3 => simp at h1⟩
theorem clone0_q {R : Hp} : QTri Tryz.prog 123 [.slice none 0 0] R [] (.slice none 0 0) := by
  refine Tri.q2 ?_
  refine tri_of Tryz.func123 rfl Tryz.ntmps123 rfl (fun σ F Q hret hend hpan => ?_)
  try simp only [cA, nA]
  refine cj_seq fun K1 hK1 => cj_region ?_
  refine Ps ?_
  refine rj_nil (hK1 _ _ _ (cj_seq fun K2 hK2 => cj_seq fun K3 hK3 => cj_region ?_))
  refine Pm ?_
  refine Pa ((y_sleql Tryz.underlying148 rfl rfl)) ?_
  refine rj_nil (hK3 _ _ _ (cj_cond_t rfl (cj_seq fun K4 hK4 => cj_region ?_)))
  refine Ps ?_
  refine rj_nil (hK4 _ _ _ (cj_ret (hret _ _ _ ?_)))
  refine Ea Tryz.results123 (.cons (rv_tmp rfl) .nil) [] le_ ?_
  exact ⟨rfl, rfl⟩
theorem mkL0_q {R : Hp} : QTri Tryz.prog 119 [.slice none 0 0] R [] (.agg ⟨[.int .i64 2, .int .u64 0, .string (str []), .slice none 0 0]⟩) := by
  refine Tri.q2 ?_
  refine tri_of Tryz.func119 rfl Tryz.ntmps119 rfl (fun σ F Q hret hend hpan => ?_)
  try simp only [cA, nA]
  refine cj_seq fun K1 hK1 => cj_region ?_
  refine rj_alloc (wn0 rfl) rfl Tryz.zeroValue150 rfl (fun b2 => ?_)
  refine rj_nil (hK1 _ _ _ (cj_seq fun K2 hK2 => cj_region ?_))
  refine Pm ?_
  refine Pa (Ca Tryz.call123 (clone0_q)) ?_
  refine Pa (y_build (cells := [_, _, _, _]) [(0, 1), (1, 1), (2, 1), (3, 1)] Tryz.underlying150 Tryz.zeroValue150 (fun _ => rfl) rfl rfl) ?_
  refine rj_stores m150 rfl (wn0 rfl) rfl rfl (by (first | (simp [Value.oneCell']; done) | (intro u hu; simp only [List.mem_cons, List.not_mem_nil, or_false] at hu; rcases hu with rfl | rfl | rfl | rfl <;> first | rfl | assumption))) fd_ (by (simp)) rfl ?_
  refine rj_nil (hK2 _ _ _ (cj_ret (hret _ _ _ ?_)))
  refine Ea Tryz.results119 (.cons (rv_cells m150 rfl fd_ rfl rfl) .nil) [] le_ ?_
  exact ⟨rfl, rfl⟩
theorem map_snoc {α β : Type} {f : α → β} {l : List α} {i : Nat} {x : α} (h : l[i]? = some x) : (l.take (i + 1)).map f = (l.take i).map f ++ [f x] := by
  rw [List.take_add_one, h]; simp
theorem list_t {R : Hp} (l : List Ent) (v : Value) (hl : FrX entE R l v) (hb : ∀ e ∈ l, u64B e.1 ∧ e.2.length ≤ 1000000) (hn : l.length ≤ 100000) : Tri Tryz.prog 108 [v] R [] (fun r R' L' => (∃ cy, r = .agg ⟨cy⟩ ∧ RepN R' (listN l) cy) ∧ L' = []) := by
  obtain ⟨q, cap, rfl, hcap, hcm⟩ := hl.shape
  refine tri_of Tryz.func108 rfl Tryz.ntmps108 rfl (fun σ F Q hret hend hpan => ?_)
  try simp only [cA, nA]
  refine cj_seq fun K1 hK1 => cj_region ?_
  refine rj_alloc (wn0 rfl) rfl Tryz.zeroValue150 rfl (fun b2 => ?_)
  refine rj_nil (hK1 _ _ _ (cj_seq fun K2 hK2 => cj_region ?_))
  refine Pa (Ca Tryz.call119 (mkL0_q)) ?_
  refine rj_alloc (wn0 rfl) rfl Tryz.zeroValue150 rfl (fun b3 => ?_)
  refine rj_stores m150 rfl (wn0 rfl) rfl rfl (by (first | (simp [Value.oneCell']; done) | (intro u hu; simp only [List.mem_cons, List.not_mem_nil, or_false] at hu; rcases hu with rfl | rfl | rfl | rfl <;> first | rfl | assumption))) fd_ (by (simp)) rfl ?_
  refine rj_add (A := slc 150 4 (.slice none 0 0) 0 ([] : List (List Value)).flatten) (slc_nil _ _) ?_
  refine rj_nil (hK2 _ _ _ (cj_seq fun K3 hK3 => cj_seq fun K4 hK4 => cj_region ?_))
  refine Pm ?_
  first | refine Pa (y_len_sl Tryz.underlying76 rfl) ?_ | refine Pa (y_len_slc Tryz.underlying76 rfl fd_) ?_
  refine Pm ?_
  refine rj_nil (hK4 _ _ _ (cj_block ?_))
  refine cj_env (E' := (fun (x1 : Nat × Value × Hp × List (List Value)) => [(2, .pointer (some ⟨b2, 0, none⟩)), (3, .pointer (some ⟨b3, 0, none⟩)), (7, .slice q l.length cap), (8, .int .i64 (l.length : Int)), (9, .int .i64 (x1.1 : Int))]) (0, .slice none 0 0, R, [])) (eC rfl (eC rfl (eC rfl (eC rfl (eC rfl eN))))) ?_
  refine cj_sub (M := (fun (x1 : Nat × Value × Hp × List (List Value)) => slc 150 4 x1.2.1 x1.2.2.2.length x1.2.2.2.flatten :: blk b3 [.int .i64 2, .int .u64 0, .string (str []), x1.2.1] 150 :: blk b2 [.int .i64 0, .int .u64 0, .string (str []), .slice none 0 0] 150 :: F) (0, .slice none 0 0, R, [])) sb_ ?_
  refine cj_loop (fun (x1 : Nat × Value × Hp × List (List Value)) => [(2, .pointer (some ⟨b2, 0, none⟩)), (3, .pointer (some ⟨b3, 0, none⟩)), (7, .slice q l.length cap), (8, .int .i64 (l.length : Int)), (9, .int .i64 (x1.1 : Int))]) (fun (x1 : Nat × Value × Hp × List (List Value)) => x1.2.2.1) (fun (x1 : Nat × Value × Hp × List (List Value)) => slc 150 4 x1.2.1 x1.2.2.2.length x1.2.2.2.flatten :: blk b3 [.int .i64 2, .int .u64 0, .string (str []), x1.2.1] 150 :: blk b2 [.int .i64 0, .int .u64 0, .string (str []), .slice none 0 0] 150 :: F) (fun (x1 : Nat × Value × Hp × List (List Value)) => x1.1 ≤ l.length ∧ x1.2.1.oneCell' = true ∧ R.le x1.2.2.1 ∧ Kids x1.2.2.1 ((l.take x1.1).map entN) x1.2.2.2) (fun (x1 : Nat × Value × Hp × List (List Value)) => l.length - x1.1) (0, .slice none 0 0, R, []) (⟨by simp, rfl, Hp.le_refl _, rfl, fun i x cs h => by simp at h⟩) ?_
  rintro ⟨i, vl, R3, css⟩ ⟨hi, hvl, hR3, hk⟩
  try dsimp only
  dsimp only at hi hvl hR3 hk
  refine cj_seq fun K5 hK5 => cj_region ?_
  refine Pa (y_lss rfl rfl) ?_
  refine rj_nil (hK5 _ _ _ (cj_seq fun K6 hK6 => ?_))
  refine cj_cond rfl (fun hc10 => ?_) (fun hc10 => ?_)
  try simp only [dT, dF, nT, nF, tF, fT] at hc10
  refine cj_skip (hK6 _ _ _ (cj_seq fun K8 hK8 => cj_block (cj_seq fun K9 hK9 => cj_region ?_)))
  have hi2 : i < l.length := by (try simp at hc10); omega
  obtain ⟨e, hx⟩ : ∃ x, l[i]? = some x := ⟨_, List.getElem?_eq_getElem hi2⟩
  obtain ⟨be, oe, ce, cse, hee, rfl, _, hcell⟩ := (hl.mono hR3).at hx
  obtain ⟨rfl, rfl⟩ : q = some ⟨be, oe, none⟩ ∧ cap = ce := by cases hee; exact ⟨rfl, rfl⟩
  obtain ⟨hb1, hb2⟩ := hb e (List.mem_of_getElem? hx)
  have hcssl : css.length = i := by have := hk.1; simp at this; omega
  first | refine Pa (y_indexAddr Tryz.underlying76 Tryz.sizeOf93 rfl rfl om_) ?_ | refine Pa (y_index_slc Tryz.underlying76 Tryz.sizeOf93 rfl rfl fd_ om_) ?_
  refine Pa ((y_loads_ro m93 (vs := entC e) rfl rfl (fun j u hj => hcell j u hj))) ?_
  refine rj_alloc (wn0 rfl) rfl Tryz.zeroValue93 rfl (fun b5 => ?_)
  refine Sm (vs := entC e) m93 (entE.one (R := R3) (x := e) rfl) ?_
  refine rj_nil (hK9 _ _ _ ?_)
  refine cj_mixg (L := [blk b5 (entC e) 93, blk b3 [.int .i64 2, .int .u64 0, .string (str []), vl] 150]) [0, 1, 2, 3, 4, 5, 6, 7] [8, 9, 10] [11, 12, 13] _ sb_ (by kernel_rfl) (by kernel_rfl) (by kernel_rfl) rfl ?_
  refine Wa rfl (fun R1 hR1 G => (Ga Tryz.underlying150 Tryz.sizeOf148)) ?_
  first | refine Wa rfl (fun R1 hR1 G => (La o148)) ?_ | refine Wa rfl (fun R1 hR1 G => (Ls o148)) ?_
  refine Wa rfl (fun R1 hR1 G => (Ga Tryz.underlying93 Tryz.sizeOf36)) ?_
  refine Wa rfl (fun R1 hR1 G => (La o36)) ?_
  refine Wa rfl (fun R1 hR1 G => (Ca Tryz.call95 (numN_q _))) ?_
  refine Wa rfl (fun R1 hR1 G => (Ga Tryz.underlying93 Tryz.sizeOf9)) ?_
  refine Wa rfl (fun R1 hR1 G => (La o9)) ?_
  refine Wa rfl (fun R1 hR1 G => (Ca Tryz.call114 (numS_q _))) ?_
  refine fj_nil ?_
  refine xj_rj rfl ?_
  try simp only [cA, nA, List.append_nil]
  refine rj_buildSlice (sz := 4) (wn0 rfl) rfl Tryz.underlying148 Tryz.sizeOf150 Tryz.zeroValue150 rfl rfl rfl (by decide) (by decide) (fun b21 => ?_)
  refine rj_xk le_ sb_ ?_
  refine xj_rj rfl ?_
  try simp only [cA, nA, List.append_nil]
  refine Ra Tryz.call119 (mkL_t (.slice (some ⟨b21, 0, none⟩) 2 2) [numN e.1.toNat, strN e.2] [[.int .i64 0, .int .u64 e.1, .string (str []), .slice none 0 0], [.int .i64 1, .int .u64 0, .string (str e.2), .slice none 0 0]] (kids2 (rep_num hb1) (rep_str (by unfold big; omega))) (by simp)) ?_
  rintro r R4 L' hR4 ⟨⟨cy, rfl, hrep⟩, rfl⟩
  obtain ⟨k0, n0, s0, l0, q0, cap0, _, rfl, _, _⟩ := hrep.inv
  replace hrep : RepN R4 (entN e) _ := hrep
  try simp only [cA, nA]
  refine rj_xk le_ sb_ ?_
  refine xj_rj rfl ?_
  try simp only [cA, nA, List.append_nil]
  refine rj_buildSlice (sz := 4) (wn0 rfl) rfl Tryz.underlying148 Tryz.sizeOf150 Tryz.zeroValue150 rfl rfl rfl (by decide) (by decide) (fun b23 => ?_)
  refine rj_xk le_ sb_ ?_
  refine xj_nil ?_
  try simp only [cA, nA, List.append_nil]
  refine rj_append (sz := 4) (by_ := 56) ⟨Tryz.underlying148, _, _, rfl, rfl, rfl, rfl, rfl⟩ (wn0 rfl) rfl rfl rfl fd_ (src_slc (xs := [.int .i64 k0, .int .u64 n0, .string (str s0), .slice q0 l0.length cap0]) Tryz.underlying148 fd_ (rep_one hrep)) rfl om_ (by simp only [maxLen]; omega) (fun v24 ho24 hh24 => ?_)
  rw [flat_snoc, show css.length + 1 = (css ++ [[Value.int .i64 k0, .int .u64 n0, .string (str s0), .slice q0 l0.length cap0]]).length by simp]
  refine Pa (Ga Tryz.underlying150 Tryz.sizeOf148) ?_
  refine Sa o148 ?_
  refine rj_nil (hK8 _ _ _ (cj_region ?_))
  first | refine Pa (y_add64 rfl rfl om_) ?_ | refine Pa (y_add rfl rfl) ?_
  refine Pm ?_
  refine rj_nil ?_
  refine ej_on (q' := roundK _ _ _ _ _ _ _) rfl ?_
  refine ej_round ((i + 1, v24, R4, css ++ [[.int .i64 k0, .int .u64 n0, .string (str s0), .slice q0 l0.length cap0]])) (⟨by dsimp only; omega, by assumption, Hp.le_trans hR3 hR4, by dsimp only; rw [map_snoc hx]; exact (hk.mono hR4).snoc hrep⟩) (by dsimp only; omega) (eC rfl (eC rfl (eC rfl (eC rfl (eC rfl eN))))) rfl sb_
  try simp only [dT, dF, nT, nF, tF, fT] at hc10
  refine cj_exit (hK3 _ _ _ ?_)
  refine cj_env (eL 2 rfl (eL 3 rfl eN)) ?_
  refine cj_seq fun K10 hK10 => cj_region ?_
  obtain rfl : i = l.length := by (try simp at hc10); omega
  rw [List.take_length] at hk
  refine rj_freeze (e := 150) (sz := 4) (n := css.length) (xs := css.flatten) fd_ (fun R4 hR4 hfr4 hxl4 => ?_)
  have hln : css.length = (l.map entN).length := hk.1
  rw [hln] at hfr4
  obtain ⟨q2, cap2, rfl, hrl⟩ := (hk.mono hR4).repL hfr4 (by unfold big; simp; omega)
  have hnode := hrl.node (k := 2) (n := 0) (s := []) (by simp [big])
  refine Pa ((Lm (vs := [.int .i64 2, .int .u64 0, .string (str []), .slice q2 (l.map entN).length cap2]) m150)) ?_
  refine Sm (vs := [.int .i64 2, .int .u64 0, .string (str []), .slice q2 (l.map entN).length cap2]) m150 (rep_one hnode) ?_
  refine rj_nil (hK10 _ _ _ (cj_ret (hret _ _ _ ?_)))
  refine Ea Tryz.results108 (.cons (rv_cells m150 rfl fd_ rfl rfl) .nil) [] (by exact Hp.le_trans hR3 hR4) ?_
  exact ⟨⟨_, rfl, hnode⟩, rfl⟩
theorem bytes_be4 (n : Nat) (h : n ≤ 16777216) (x : Int) (hx : x = (n : Int)) : IntKind.u8.wrap (x.fdiv (2 ^ min (24 : Int).toNat IntKind.i64.bits)) = ((UInt8.ofNat (n / 16777216 % 256)).toNat : Int) ∧
    IntKind.u8.wrap (x.fdiv (2 ^ min (16 : Int).toNat IntKind.i64.bits)) = ((UInt8.ofNat (n / 65536 % 256)).toNat : Int) ∧
    IntKind.u8.wrap (x.fdiv (2 ^ min (8 : Int).toNat IntKind.i64.bits)) = ((UInt8.ofNat (n / 256 % 256)).toNat : Int) ∧ IntKind.u8.wrap x = ((UInt8.ofNat (n % 256)).toNat : Int) := by
  subst hx
  refine ⟨?_, ?_, ?_, wrap8 n⟩
  · rw [shr_nat n 24 24 rfl (by decide), wrap8]
  · rw [shr_nat n 16 16 rfl (by decide), wrap8]
  · rw [shr_nat n 8 8 rfl (by decide), wrap8]
theorem record_t {R : Hp} (v : Value) (ks : List Nd) (css : List (List Value)) (hk : Kids R ks css) (hn : ks.length ≤ 1000000) (hok : OkN (.mk 2 0 [] ks)) (hw : writeM (.mk 2 0 [] ks) = (wr (.mk 2 0 [] ks), true)) (hl : (wr (.mk 2 0 [] ks)).length ≤ 16777216) :
    Tri Tryz.prog 111 [v] R [slc 150 4 v ks.length css.flatten] (fun r R' L' => r = tupOf [.string (str (be4 (wr (.mk 2 0 [] ks)).length ++ wr (.mk 2 0 [] ks))), .bool true] ∧ L' = []) := by
  obtain ⟨s, hs⟩ : ∃ s, s = wr (.mk 2 0 [] ks) := ⟨_, rfl⟩
  obtain ⟨g1, g2, g3, g4⟩ := bytes_be4 s.length (by rw [hs]; exact hl) s.length rfl
  rw [← hs] at hl hw ⊢
  refine tri_of Tryz.func111 rfl Tryz.ntmps111 rfl (fun σ F Q hret hend hpan => ?_)
  try simp only [cA, nA]
  refine cj_seq fun K1 hK1 => cj_region ?_
  refine Ps ?_
  refine Ps ?_
  refine rj_nil (hK1 _ _ _ (cj_seq fun K2 hK2 => cj_region ?_))
  refine Pm ?_
  refine Ra Tryz.call119 (mkL_t v ks css hk hn) ?_
  rintro r R2 L' hR2 ⟨⟨cy, rfl, hrep⟩, rfl⟩
  try simp only [cA, nA]
  refine Pa (Ca Tryz.call122 ((write_t _ cy hrep hok))) ?_
  refine rj_eq 10 rfl (v' := .tuple #[.string (str s), .bool true]) (by rw [hw]) ?_
  refine Pm ?_
  refine Pa (y_extract rfl rfl) ?_
  refine Pa (y_extract rfl rfl) ?_
  refine Ps ?_
  refine Ps ?_
  refine rj_nil (hK2 _ _ _ (cj_seq fun K3 hK3 => cj_region ?_))
  refine Pm ?_
  refine Pa (y_slen Tryz.underlying9 rfl) ?_
  refine Ps ?_
  refine rj_nil (hK3 _ _ _ (cj_seq fun K4 hK4 => cj_region ?_))
  refine Pm ?_
  refine Pa ((y_shr rfl rfl (by decide))) ?_
  refine Pa ((Yld.to (y_conv Tryz.underlying3 Tryz.underlying5 rfl) (congrArg (Value.int .u8) g1))) ?_
  refine Pm ?_
  refine Pa ((y_shr rfl rfl (by decide))) ?_
  refine Pa ((Yld.to (y_conv Tryz.underlying3 Tryz.underlying5 rfl) (congrArg (Value.int .u8) g2))) ?_
  refine Pm ?_
  refine Pa ((y_shr rfl rfl (by decide))) ?_
  refine Pa ((Yld.to (y_conv Tryz.underlying3 Tryz.underlying5 rfl) (congrArg (Value.int .u8) g3))) ?_
  refine Pm ?_
  refine Pa ((Yld.to (y_conv Tryz.underlying3 Tryz.underlying5 rfl) (congrArg (Value.int .u8) g4))) ?_
  refine rj_buildSlice (sz := 1) (wn0 rfl) rfl Tryz.underlying123 Tryz.sizeOf5 Tryz.zeroValue5 rfl rfl rfl (by decide) (by decide) (fun b26 => ?_)
  refine rj_turn (A := slc 5 1 (.slice (some ⟨b26, 0, none⟩) 4 4) 4 _) (B := slc 5 1 (.slice (some ⟨b26, 0, none⟩) 4 4) (be4 s.length).length (bytesV (be4 s.length))) fd_ (fun h hh => hh) ?_
  refine Pa (y_str_slc Tryz.underlying123 Tryz.underlying5 Tryz.underlying9 rfl fd_) ?_
  refine Pm ?_
  refine Pa ((y_sadd rfl rfl (by rw [be4_len]; omega))) ?_
  refine Pm ?_
  refine Ps ?_
  refine Ps ?_
  refine rj_nil (hK4 _ _ _ ?_)
  refine cj_env (eL 2 rfl (eL 3 rfl eN)) ?_
  refine cj_ret (hret _ _ _ ?_)
  apply ej_ret Tryz.results111 (.cons (rv_tmp rfl) (.cons (rv_tmp rfl) .nil)) _ [] hR2 rfl
  case hp => exact ⟨rfl, rfl⟩
  case hS => exact sb_
def DK.put (D : DK) (s : Bs) : Int × DK := if (D.append s).1 = 0 then (D.append s).2.sync else D.append s
theorem DK.append_ok {D : DK} {m : Nat} (h : D.ok m) (s : Bs) : (D.append s).2.ok (m + s.length) := by
  have h1 := DK.step_ok h
  unfold DK.append
  split
  · obtain ⟨a, b, c⟩ := h1
    exact ⟨by simp; omega, by simp; omega, c⟩
  · obtain ⟨a, b, c⟩ := h1
    exact ⟨a, Nat.le_trans b (by omega), c⟩
theorem DK.sync_ok {D : DK} {m : Nat} (h : D.ok m) : D.sync.2.ok m := by
  have h1 := DK.step_ok h
  unfold DK.sync
  split
  · obtain ⟨a, b, c⟩ := h1
    exact ⟨Nat.le_refl _, b, c⟩
  · exact h1
theorem DK.put_ok {D : DK} {m : Nat} (h : D.ok m) (s : Bs) : (D.put s).2.ok (m + s.length) := by
  unfold DK.put
  split
  · exact DK.sync_ok (DK.append_ok h s)
  · exact DK.append_ok h s
theorem lgWrite_t {R : Hp} (b bd : Nat) (v u : Value) (g : LG) (D : DK) (m : Nat) (r : Rec) (vk : Value) (css : List (List Value)) (hk : Kids R r.kids css) (hg : g.ok) (hr : r.may g) (hl : (wr r.nd).length ≤ 16777216) (hD : D.ok m) (hm : m ≤ 900000000) :
    Tri Tryz.prog 94 [.pointer (some ⟨b, 0, none⟩), vk] R [lgB b (some ⟨bd, 0, none⟩) v g, dkB bd u D, dkS u D, slc 150 4 vk r.kids.length css.flatten]
      (fun x R' L' => x = .int .i64 (D.put r.bytes).1 ∧ ∃ u', L' = [lgB b (some ⟨bd, 0, none⟩) v { g with down := g.down || !decide ((D.put r.bytes).1 = 0) }, dkB bd u' (D.put r.bytes).2, dkS u' (D.put r.bytes).2]) := by
  have hbl : r.bytes.length ≤ 16777220 := by unfold Rec.bytes; simp [be4_len]; omega
  have hap := DK.append_ok hD r.bytes
  have hkl : r.kids.length ≤ 1000000 := by cases r <;> simp [Rec.kids]
  unfold lgB lgC
  refine tri_of Tryz.func94 rfl Tryz.ntmps94 rfl (fun σ F Q hret hend hpan => ?_)
  try simp only [cA, nA]
  refine cj_seq fun K1 hK1 => cj_region ?_
  refine Ps ?_
  refine rj_nil (hK1 _ _ _ (cj_seq fun K2 hK2 => cj_region ?_))
  refine Pm ?_
  refine Ra Tryz.call111 (record_t vk r.kids css hk hkl (Rec.okN hr hg) (Rec.write r hl) hl) ?_
  rintro x R2 L' hR2 ⟨rfl, rfl⟩
  rw [show be4 (wr (Nd.mk 2 0 [] r.kids)).length ++ wr (Nd.mk 2 0 [] r.kids) = r.bytes from rfl]
  try simp only [cA, nA]
  refine Pm ?_
  refine Pa (y_extract rfl rfl) ?_
  refine Pa (y_extract rfl rfl) ?_
  refine Ps ?_
  refine Ps ?_
  refine rj_nil (hK2 _ _ _ (cj_seq fun K3 hK3 => cj_seq fun K4 hK4 => cj_region ?_))
  refine Pm ?_
  refine Pa (y_not rfl) ?_
  refine rj_nil (hK4 _ _ _ (cj_cond_f rfl (cj_skip (hK3 _ _ _ (cj_seq fun K5 hK5 => cj_region ?_)))))
  refine Pm ?_
  refine Pa (y_nilCheck rfl) ?_
  refine Pa (Ga Tryz.underlying111 Tryz.sizeOf83) ?_
  first | refine Pa (La o83) ?_ | refine Pa (Ls o83) ?_
  refine Pm ?_
  refine Ra Tryz.call112 (append_t bd u D m hD r.bytes (by omega)) ?_
  rintro x R3 L' hR3 ⟨rfl, rfl, u2, rfl⟩
  try simp only [cA, nA]
  refine Ps ?_
  refine rj_nil (hK5 _ _ _ (cj_seq fun K6 hK6 => ?_))
  have hJ7 : ∀ (x : Value × Int × DK), D.put r.bytes = x.2 → EJ ⟨Tryz.prog, 40, σ⟩ K6 [(0, .pointer (some ⟨b, 0, none⟩)), (7, .int .i64 x.2.1)] R2 (blk b [.pointer (some ⟨bd, 0, none⟩), .bool g.down, .int .u64 g.term, .int .i64 g.vote, .int .u64 g.base, .int .u64 g.baseT, .string (str g.state), v] 111 :: dkB bd x.1 x.2.2 :: dkS x.1 x.2.2 :: F) := by
    rintro ⟨u4, e4, D4⟩ hput
    try dsimp only
    dsimp only at hput
    refine hK6 _ _ _ (cj_seq fun K7 hK7 => cj_region ?_)
    refine Pm ?_
    refine Pm ?_
    refine Pa (y_nilCheck rfl) ?_
    refine Pa (Ga Tryz.underlying111 Tryz.sizeOf4) ?_
    first | refine Pa (La o4) ?_ | refine Pa (Ls o4) ?_
    refine Pm ?_
    refine rj_part 33 rfl (fun hg33 => ?_) (fun hg33 => ?_)
    have hgd : g.down = true := hg33
    refine Pk ?_
    refine Pk ?_
    refine Pa (y_pick_t rfl rfl) ?_
    refine rj_eq 36 rfl (v' := .bool (g.down || !decide (e4 = 0))) (by simp [hgd]) ?_
    refine Pa (y_nilCheck rfl) ?_
    refine Pa (Ga Tryz.underlying111 Tryz.sizeOf4) ?_
    refine Sa o4 ?_
    refine rj_nil (hK7 _ _ _ ?_)
    refine cj_env (eL 7 rfl eN) ?_
    refine cj_seq fun K8 hK8 => cj_region ?_
    refine Pm ?_
    refine Ps ?_
    refine rj_nil (hK8 _ _ _ (cj_ret (hret _ _ _ ?_)))
    apply ej_ret Tryz.results94 (.cons (rv_tmp rfl) .nil) _ [lgB b (some ⟨bd, 0, none⟩) v { g with down := or g.down (!decide (e4 = 0)) }, dkB bd u4 D4, dkS u4 D4] hR2 rfl
    case hp => rw [hput]; exact ⟨rfl, u4, rfl⟩
    case hS => exact sb_
    have hgd : g.down = false := by simpa using hg33
    refine Pb (y_move rfl) ?_
    refine Pb (y_neq rfl rfl) ?_
    refine Pa (y_pick_f rfl rfl) ?_
    refine rj_eq 36 rfl (v' := .bool (g.down || !decide (e4 = 0))) (by simp [hgd]) ?_
    refine Pa (y_nilCheck rfl) ?_
    refine Pa (Ga Tryz.underlying111 Tryz.sizeOf4) ?_
    refine Sa o4 ?_
    refine rj_nil (hK7 _ _ _ (cj_seq fun K9 hK9 => cj_region ?_))
    refine Pm ?_
    refine Ps ?_
    refine rj_nil (hK9 _ _ _ (cj_ret (hret _ _ _ ?_)))
    apply ej_ret Tryz.results94 (.cons (rv_tmp rfl) .nil) _ [lgB b (some ⟨bd, 0, none⟩) v { g with down := or g.down (!decide (e4 = 0)) }, dkB bd u4 D4, dkS u4 D4] hR2 rfl
    case hp => rw [hput]; exact ⟨rfl, u4, rfl⟩
    case hS => exact sb_
  refine cj_seq fun K10 hK10 => cj_region ?_
  refine Pm ?_
  refine Pa (y_eql rfl rfl) ?_
  refine rj_nil (hK10 _ _ _ ?_)
  refine cj_cond rfl (fun hc22 => ?_) (fun hc22 => ?_)
  have f1 : (D.append r.bytes).1 = 0 := by simpa using hc22
  have f2 : D.put r.bytes = (D.append r.bytes).2.sync := by unfold DK.put; rw [if_pos f1]
  refine cj_region ?_
  refine Pm ?_
  refine Pa (y_nilCheck rfl) ?_
  refine Pa (Ga Tryz.underlying111 Tryz.sizeOf83) ?_
  first | refine Pa (La o83) ?_ | refine Pa (Ls o83) ?_
  refine Ra Tryz.call113 (sync_t bd u2 (D.append r.bytes).2 _ hap) ?_
  rintro x R4 L' hR4 ⟨rfl, rfl, u3, rfl⟩
  try simp only [cA, nA]
  refine Ps ?_
  refine rj_nil ?_
  refine ej_join hJ7 ((u3, (D.append r.bytes).2.sync.1, (D.append r.bytes).2.sync.2)) (f2) (eC rfl (eC rfl eN)) rfl sb_
  have f1 : ¬ (D.append r.bytes).1 = 0 := by simpa using hc22
  have f2 : D.put r.bytes = D.append r.bytes := by unfold DK.put; rw [if_neg f1]
  refine cj_skip ?_
  refine ej_join hJ7 ((u2, (D.append r.bytes).1, (D.append r.bytes).2)) (f2) (eC rfl (eC rfl eN)) rfl sb_
end V
end Go.Proofs.YtenfjpigffjgmaaGreat
set_option linter.unusedSimpArgs false
set_option linter.unusedVariables false
set_option maxRecDepth 100000
namespace Go.Proofs.YtenfjpigffjgmaaGreat
open Go.RowKit
namespace V
set_option maxHeartbeats 4000000
def LG.setTermD (g : LG) (D : DK) (t v : Int) : Int × LG × DK :=
  if (g.down || D.down) = true then (3, g, D) else if t < g.term ∨ v < -1 then (1, g, D)
  else if (D.put (Rec.term t v).bytes).1 = 0 then (0, { g with term := t, vote := v }, (D.put (Rec.term t v).bytes).2) else ((D.put (Rec.term t v).bytes).1, { g with down := true }, (D.put (Rec.term t v).bytes).2)
def LG.addD (g : LG) (D : DK) (b : Int) (m : List Ent) : Int × LG × DK :=
  if (g.down || D.down) = true then (3, g, D) else if b < g.base ∨ b > g.last then (1, g, D)
  else if (D.put (Rec.add b m).bytes).1 = 0 then (0, g.play (.add b m), (D.put (Rec.add b m).bytes).2) else ((D.put (Rec.add b m).bytes).1, { g with down := true }, (D.put (Rec.add b m).bytes).2)
theorem lgSetTerm_t {R : Hp} (b bd : Nat) (va u : Value) (g : LG) (D : DK) (m : Nat) (t vt : Int) (hg : g.ok) (ht : u64B t) (hv : vt < 9223372036854775807) (hv2 : -9223372036854775808 ≤ vt) (hvo : va.oneCell' = true) (hD : D.ok m) (hm : m ≤ 900000000) :
    Tri Tryz.prog 75 [.pointer (some ⟨b, 0, none⟩), .int .u64 t, .int .i64 vt] R [lgB b (some ⟨bd, 0, none⟩) va g, dkB bd u D, dkS u D]
      (fun x R' L' => x = .int .i64 (g.setTermD D t vt).1 ∧ ∃ u', L' = [lgB b (some ⟨bd, 0, none⟩) va (g.setTermD D t vt).2.1, dkB bd u' (g.setTermD D t vt).2.2, dkS u' (g.setTermD D t vt).2.2]) := by
  have hdq := lgDown_q (R := R) b bd va u g D
  refine tri_of Tryz.func75 rfl Tryz.ntmps75 rfl (fun σ F Q hret hend hpan => ?_)
  try simp only [cA, nA]
  unfold lgB lgC at hdq ⊢
  refine cj_seq fun K1 hK1 => cj_region ?_
  refine Ps ?_
  refine rj_nil (hK1 _ _ _ (cj_seq fun K2 hK2 => cj_block (cj_seq fun K3 hK3 => cj_region ?_)))
  refine Pm ?_
  refine Pa (Ca Tryz.call59 (hdq)) ?_
  refine Ps ?_
  refine rj_nil (hK3 _ _ _ ?_)
  refine cj_cond rfl (fun hc8 => ?_) (fun hc8 => ?_)
  have f0 : (g.down || D.down) = true := hc8
  refine cj_seq fun K5 hK5 => cj_region ?_
  refine Ps ?_
  refine rj_nil (hK5 _ _ _ (cj_ret (hret _ _ _ ?_)))
  refine Ea Tryz.results75 (.cons (rv_tmp rfl) .nil) [lgB b (some ⟨bd, 0, none⟩) va g, dkB bd u D, dkS u D] (by first | exact Hp.le_refl _ | exact hR2) ?_
  rw [show g.setTermD D t vt = (3, g, D) by unfold LG.setTermD; rw [if_pos f0]]; exact ⟨rfl, u, rfl⟩
  have f0 : ¬ (g.down || D.down) = true := by simpa using hc8
  refine cj_seq fun K6 hK6 => cj_region ?_
  refine Pm ?_
  refine Pm ?_
  refine Pa (y_nilCheck rfl) ?_
  refine Pa (Ga Tryz.underlying111 Tryz.sizeOf36) ?_
  first | refine Pa (La o36) ?_ | refine Pa (Ls o36) ?_
  refine Pa (y_lss rfl rfl) ?_
  refine Pm ?_
  refine rj_part 18 rfl (fun hg18 => ?_) (fun hg18 => ?_)
  have f1 : t < g.term ∨ vt < -1 := .inl (by simpa using hg18)
  refine Pk ?_
  refine Pk ?_
  refine Pa (y_pick_t rfl rfl) ?_
  refine Ps ?_
  refine rj_nil (hK6 _ _ _ (cj_cond_t rfl (cj_seq fun K7 hK7 => cj_region ?_)))
  refine Ps ?_
  refine rj_nil (hK7 _ _ _ (cj_ret (hret _ _ _ ?_)))
  refine Ea Tryz.results75 (.cons (rv_tmp rfl) .nil) [lgB b (some ⟨bd, 0, none⟩) va g, dkB bd u D, dkS u D] (by first | exact Hp.le_refl _ | exact hR2) ?_
  rw [show g.setTermD D t vt = (1, g, D) by unfold LG.setTermD; rw [if_neg f0, if_pos f1]]; exact ⟨rfl, u, rfl⟩
  have f10 : ¬ t < g.term := by simpa using hg18
  refine Pb (y_move rfl) ?_
  refine Pb (y_lss rfl rfl) ?_
  refine Pa (y_pick_f rfl rfl) ?_
  refine Ps ?_
  refine rj_nil (hK6 _ _ _ ?_)
  refine cj_env (eL 0 rfl (eL 1 rfl (eL 2 rfl (eL 11 rfl eN)))) ?_
  refine cj_cond rfl (fun hc11 => ?_) (fun hc11 => ?_)
  first | have f1 : t < g.term ∨ vt < -1 := .inr (by simpa using hc11) | skip
  refine cj_seq fun K9 hK9 => cj_region ?_
  refine Ps ?_
  refine rj_nil (hK9 _ _ _ (cj_ret (hret _ _ _ ?_)))
  refine Ea Tryz.results75 (.cons (rv_tmp rfl) .nil) [lgB b (some ⟨bd, 0, none⟩) va g, dkB bd u D, dkS u D] (by first | exact Hp.le_refl _ | exact hR2) ?_
  rw [show g.setTermD D t vt = (1, g, D) by unfold LG.setTermD; rw [if_neg f0, if_pos f1]]; exact ⟨rfl, u, rfl⟩
  have f1 : ¬ (t < g.term ∨ vt < -1) := by (try simp at hc11); omega
  refine cj_skip (hK2 _ _ _ (cj_seq fun K10 hK10 => cj_seq fun K11 hK11 => cj_region ?_))
  have hvb : -1 ≤ vt ∧ vt < 9223372036854775807 := by omega
  have hmay : (Rec.term t vt).may g := ⟨ht, hvb.1, hvb.2⟩
  have hv1 : u64B (vt + 1) := by unfold u64B; omega
  have hu0 : u64B 0 := by unfold u64B; omega
  refine Pm ?_
  refine Pa (Ca Tryz.call95 (numN_q _)) ?_
  refine Pm ?_
  refine Pa (Ca Tryz.call95 (numN_q _)) ?_
  refine Pm ?_
  refine Pa ((y_add64 rfl rfl (by omega))) ?_
  refine Pa ((y_conv_in Tryz.underlying3 Tryz.underlying36 rfl (by (simp only [IntKind.min, IntKind.max, IntKind.signed, IntKind.bits, Bool.false_eq_true, ite_false, ite_true]; omega)))) ?_
  refine Pa (Ca Tryz.call95 (numN_q _)) ?_
  refine rj_buildSlice (sz := 4) (wn0 rfl) rfl Tryz.underlying148 Tryz.sizeOf150 Tryz.zeroValue150 rfl rfl rfl (by decide) (by decide) (fun bk => ?_)
  refine Ra Tryz.call94 (lgWrite_t b bd va u g D m (Rec.term t vt) (.slice (some ⟨bk, 0, none⟩) 3 3) [[.int .i64 0, .int .u64 0, .string (str []), .slice none 0 0], [.int .i64 0, .int .u64 t, .string (str []), .slice none 0 0], [.int .i64 0, .int .u64 (vt + 1), .string (str []), .slice none 0 0]] (kids3 (rep_num hu0) (rep_num ht) (rep_num hv1)) hg hmay (Nat.le_trans (Rec.len_term ht hvb) (by decide)) hD hm) ?_
  rintro x R2 L' hR2 ⟨rfl, u2, rfl⟩
  unfold lgB lgC
  try simp only [cA, nA]
  refine Ps ?_
  refine rj_nil (hK11 _ _ _ (cj_seq fun K12 hK12 => cj_region ?_))
  refine Pm ?_
  refine Pa (y_neq rfl rfl) ?_
  refine rj_nil (hK12 _ _ _ ?_)
  refine cj_cond rfl (fun hc33 => ?_) (fun hc33 => ?_)
  have f2 : ¬ (D.put (Rec.term t vt).bytes).1 = 0 := by simpa using hc33
  refine cj_seq fun K14 hK14 => cj_region ?_
  refine Pm ?_
  refine Ps ?_
  refine rj_nil (hK14 _ _ _ (cj_ret (hret _ _ _ ?_)))
  refine Ea Tryz.results75 (.cons (rv_tmp rfl) .nil) [lgB b (some ⟨bd, 0, none⟩) va { g with down := or g.down (!decide ((D.put (Rec.term t vt).bytes).1 = 0)) }, dkB bd u2 (D.put (Rec.term t vt).bytes).2, dkS u2 (D.put (Rec.term t vt).bytes).2] (by first | exact Hp.le_refl _ | exact hR2) ?_
  rw [show g.setTermD D t vt = ((D.put (Rec.term t vt).bytes).1, { g with down := true }, (D.put (Rec.term t vt).bytes).2) by unfold LG.setTermD; rw [if_neg f0, if_neg f1, if_neg f2]]; refine ⟨rfl, u2, ?_⟩; simp [f2]
  have f2 : (D.put (Rec.term t vt).bytes).1 = 0 := by simpa using hc33
  refine cj_skip (hK10 _ _ _ (cj_seq fun K15 hK15 => cj_region ?_))
  refine Pm ?_
  refine Pm ?_
  refine Pm ?_
  refine Pm ?_
  refine Pa (y_nilCheck rfl) ?_
  refine Pa (Ga Tryz.underlying111 Tryz.sizeOf36) ?_
  refine Sa o36 ?_
  refine Pa (y_nilCheck rfl) ?_
  refine Pa (Ga Tryz.underlying111 Tryz.sizeOf3) ?_
  refine Sa o3 ?_
  refine rj_nil (hK15 _ _ _ ?_)
  refine cj_env eN ?_
  refine cj_seq fun K16 hK16 => cj_region ?_
  refine Ps ?_
  refine rj_nil (hK16 _ _ _ (cj_ret (hret _ _ _ ?_)))
  refine Ea Tryz.results75 (.cons (rv_tmp rfl) .nil) [lgB b (some ⟨bd, 0, none⟩) va { g with term := t, vote := vt, down := or g.down (!decide ((D.put (Rec.term t vt).bytes).1 = 0)) }, dkB bd u2 (D.put (Rec.term t vt).bytes).2, dkS u2 (D.put (Rec.term t vt).bytes).2] (by first | exact Hp.le_refl _ | exact hR2) ?_
  rw [show g.setTermD D t vt = (0, { g with term := t, vote := vt }, (D.put (Rec.term t vt).bytes).2) by unfold LG.setTermD; rw [if_neg f0, if_neg f1, if_pos f2]]; refine ⟨rfl, u2, ?_⟩; simp [f2]
theorem FrX.sub {α : Type} {T : Elt α} {R : Hp} {l : List α} {q : Option Addr} {cap : Nat} (h : FrX T R l (.slice q l.length cap)) {a b : Nat} (hab : a ≤ b) (hb : b ≤ l.length) : FrX T R ((l.drop a).take (b - a)) (.slice (partAddr q a cap T.sz) (b - a) (cap - a)) := by
  obtain ⟨css, hE, q', cap', e, h1, h2, h3⟩ := h
  cases e
  have hlen : ((l.drop a).take (b - a)).length = b - a := by simp; omega
  refine ⟨(css.drop a).take (b - a), (hE.drop a).take (b - a), partAddr q a cap T.sz, cap - a, by rw [hlen], by rw [hlen]; omega, by omega, ?_⟩
  rw [hlen]
  rcases Nat.eq_zero_or_pos (b - a) with h0 | h0
  · exact .inl h0
  · rcases h3 with h3 | ⟨b0, off, rfl, hc⟩
    · omega
    · refine .inr ⟨b0, off + a * T.sz, by unfold partAddr; rw [if_neg (by omega)]; simp [add_mk], fun j u hj => ?_⟩
      rw [← ftake (n := T.sz) _ (fun c hc => hE.len c (List.mem_of_mem_drop hc)), ← fdrop (n := T.sz) _ hE.len, List.getElem?_take] at hj
      split at hj
      · rw [List.getElem?_drop] at hj
        rw [Nat.add_assoc]; exact hc _ u hj
      · cases hj
def entsC (l : List Ent) : List Value := (l.map entC).flatten
theorem ents_css {R : Hp} {l : List Ent} {css : List (List Value)} (h : Els entE R l css) : css = l.map entC := by
  apply List.ext_getElem?
  intro i
  rw [List.getElem?_map]
  by_cases hi : i < l.length
  · have h1 : l[i]? = some l[i] := List.getElem?_eq_getElem hi
    have h2 : css[i]? = some (css[i]'(by rw [h.1]; exact hi)) := List.getElem?_eq_getElem (by rw [h.1]; exact hi)
    have := h.2 i _ _ h1 h2
    rw [h1, h2]; simpa [entE] using this
  · rw [List.getElem?_eq_none (by rw [h.1]; omega), List.getElem?_eq_none (by omega)]; rfl
theorem entsEls {R : Hp} (l : List Ent) : Els entE R l (l.map entC) := ⟨by simp, fun i x cs h1 h2 => by rw [List.getElem?_map, h1] at h2; simpa [entE] using h2.symm⟩
theorem entsFr {R : Hp} {l : List Ent} {v : Value} (h : FrozenS R v l.length (entsC l)) : FrX entE R l v := FrozenS.frx h (entsEls l)
theorem entsC_app (l m : List Ent) : entsC l ++ entsC m = entsC (l ++ m) := by simp [entsC]
theorem FrX.ents {R : Hp} {l : List Ent} {v : Value} (h : FrX entE R l v) : FrS R v l.length (l.map entC).flatten := by
  obtain ⟨css, h1, h2⟩ := h
  rw [ents_css h1] at h2
  exact h2
theorem eclone_t {R : Hp} (l : List Ent) (v : Value) (hl : FrX entE R l v) (hn : l.length ≤ 1000000) : Tri Tryz.prog 101 [v] R [] (fun r R' L' => R = R' ∧ r.oneCell' = true ∧ L' = [slc 93 2 r l.length (entsC l)]) := by
  have hfs := hl.ents
  obtain ⟨q, cap, rfl, h1, h2, h3⟩ := hfs
  have hfs := hl.ents
  refine tri_of Tryz.func101 rfl Tryz.ntmps101 rfl (fun σ F Q hret hend hpan => ?_)
  try simp only [cA, nA]
  refine cj_seq fun K1 hK1 => cj_region ?_
  refine Ps ?_
  refine rj_nil (hK1 _ _ _ (cj_seq fun K2 hK2 => cj_seq fun K3 hK3 => cj_region ?_))
  refine Pm ?_
  refine Pa ((y_sleql Tryz.underlying76 rfl rfl)) ?_
  refine rj_nil (hK3 _ _ _ ?_)
  refine cj_cond rfl (fun hc4 => ?_) (fun hc4 => ?_)
  obtain rfl : q = none := by simpa using hc4
  obtain rfl : l = [] := by rcases h3 with h | ⟨b, off, h, _⟩; exact List.eq_nil_of_length_eq_zero h; cases h
  refine cj_seq fun K5 hK5 => cj_region ?_
  refine rj_add (A := slc 93 2 (.slice none 0 0) 0 []) (slc_nil _ _) ?_
  refine Ps ?_
  refine rj_nil (hK5 _ _ _ (cj_ret (hret _ _ _ ?_)))
  refine Ea Tryz.results101 (.cons (rv_tmp rfl) .nil) [slc 93 2 (.slice none 0 0) 0 []] le_ ?_
  exact ⟨rfl, rfl, rfl⟩
  try simp only [dT, dF, nT, nF, tF, fT] at hc4
  refine cj_skip (hK2 _ _ _ (cj_seq fun K6 hK6 => cj_region ?_))
  refine rj_buildSlice (sz := 2) (wn0 rfl) rfl Tryz.underlying76 Tryz.sizeOf93 Tryz.zeroValue93 rfl rfl rfl (by decide) (by decide) (fun b5 => ?_)
  refine Pm ?_
  refine rj_append (sz := 2) (by_ := 24) ⟨Tryz.underlying76, _, _, rfl, rfl, rfl, rfl, rfl⟩ (wn0 rfl) rfl rfl rfl fd_ ((FrX.src (T := entE) Tryz.underlying76 (entsEls l) hfs)) rfl om_ (by simp only [maxLen]; omega) (fun v7 ho7 hh7 => ?_)
  rw [Nat.zero_add, List.nil_append]
  refine Ps ?_
  refine rj_nil (hK6 _ _ _ (cj_ret (hret _ _ _ ?_)))
  refine Ea Tryz.results101 (.cons (rv_tmp rfl) .nil) [slc 93 2 v7 l.length (entsC l)] le_ ?_
  exact ⟨rfl, by assumption, rfl⟩
theorem lgAdd0_t {R : Hp} (b : Nat) (d : Option Addr) (va vm : Value) (g : LG) (i : Int) (m : List Ent) (hg : g.ok) (hi : g.base ≤ i ∧ i ≤ g.last) (hva : FrX entE R g.all va) (hvm : FrX entE R m vm) (hm : m.length ≤ 1000000) :
    Tri Tryz.prog 106 [.pointer (some ⟨b, 0, none⟩), .int .u64 i, vm] R [lgB b d va g]
      (fun x R' L' => ∃ va', FrX entE R' (g.play (.add i m)).all va' ∧ L' = [lgB b d va' (g.play (.add i m))]) := by
  obtain ⟨q, cap, rfl, hq1, hq2⟩ := hva.shape
  have hvs := hvm.ents
  obtain ⟨qm, capm, rfl, _, _⟩ := hvm.shape
  have hb := hg.base
  have hn := hg.alln
  have hle : g.last = g.base + g.all.length := rfl
  obtain ⟨k, hk⟩ : ∃ k : Nat, i - g.base = k := ⟨(i - g.base).toNat, by omega⟩
  have hsub := hva.sub (a := 0) (b := k) (by omega) (by omega)
  rw [List.drop_zero, Nat.sub_zero] at hsub
  have hkl : (g.all.take k).length ≤ 1000000 := by simp; omega
  have hall : (g.play (.add i m)).all = g.all.take k ++ m := by unfold LG.play; simp [hk]
  refine tri_of Tryz.func106 rfl Tryz.ntmps106 rfl (fun σ F Q hret hend hpan => ?_)
  try simp only [cA, nA]
  unfold lgB lgC
  refine cj_mixg (L := [blk b [.pointer d, .bool g.down, .int .u64 g.term, .int .i64 g.vote, .int .u64 g.base, .int .u64 g.baseT, .string (str g.state), .slice q g.all.length cap] 111]) [0, 1, 2, 3, 4, 5, 6, 7, 8, 9, 10, 11, 13] [12, 14] [15, 16, 17] _ sb_ (by kernel_rfl) (by kernel_rfl) (by kernel_rfl) rfl ?_
  refine Wa rfl (fun R1 hR1 G => (y_move rfl)) ?_
  refine Wa rfl (fun R1 hR1 G => (y_move rfl)) ?_
  refine Wa rfl (fun R1 hR1 G => (y_nilCheck rfl)) ?_
  refine Wa rfl (fun R1 hR1 G => (Ga Tryz.underlying111 Tryz.sizeOf76)) ?_
  first | refine Wa rfl (fun R1 hR1 G => (La o76)) ?_ | refine Wa rfl (fun R1 hR1 G => (Ls o76)) ?_
  refine Wa rfl (fun R1 hR1 G => (y_move rfl)) ?_
  refine Wa rfl (fun R1 hR1 G => (y_move rfl)) ?_
  refine Wa rfl (fun R1 hR1 G => (y_nilCheck rfl)) ?_
  refine Wa rfl (fun R1 hR1 G => (Ga Tryz.underlying111 Tryz.sizeOf36)) ?_
  first | refine Wa rfl (fun R1 hR1 G => (La o36)) ?_ | refine Wa rfl (fun R1 hR1 G => (Ls o36)) ?_
  refine Wa rfl (fun R1 hR1 G => (Yld.to (u := .int .u64 (k : Int)) (y_subu rfl rfl (by omega)) (by rw [hk]))) ?_
  refine Wa rfl (fun R1 hR1 G => (y_slice_sl (l := 0) (h := k) Tryz.underlying76 Tryz.sizeOf93 rfl rfl ⟨.u64, rfl⟩ (by omega))) ?_
  refine Wa rfl (fun R1 hR1 G => (y_move rfl)) ?_
  refine fj_nil ?_
  refine xj_rj rfl ?_
  try simp only [cA, nA, List.append_nil]
  refine Ra Tryz.call101 (eclone_t (g.all.take k) _ hsub hkl) ?_
  rintro r R2 L' hR2 ⟨rfl, hro, rfl⟩
  try simp only [cA, nA]
  refine rj_xk le_ sb_ ?_
  refine xj_rj rfl ?_
  try simp only [cA, nA, List.append_nil]
  refine rj_append (sz := 2) (by_ := 24) ⟨Tryz.underlying76, _, _, rfl, rfl, rfl, rfl, rfl⟩ (wn0 rfl) rfl rfl rfl fd_ ((FrX.src (T := entE) Tryz.underlying76 (entsEls m) hvs)) rfl om_ (by simp only [maxLen]; omega) (fun v20 ho20 hh20 => ?_)
  rw [show entsC (g.all.take k) ++ (m.map entC).flatten = entsC (g.all.take k ++ m) from entsC_app _ _, ← List.length_append]
  refine rj_xk le_ sb_ ?_
  refine xj_nil ?_
  try simp only [cA, nA, List.append_nil]
  refine Pa (y_nilCheck rfl) ?_
  refine Pa (Ga Tryz.underlying111 Tryz.sizeOf76) ?_
  refine Sa o76 ?_
  refine rj_freeze (e := 93) (sz := 2) (n := (g.all.take k ++ m).length) (v := v20) (xs := entsC (g.all.take k ++ m)) fd_ (fun R3 hR3 hfr hxl => ?_)
  have hfx := entsFr hfr
  refine rj_nil (hend _ _ _ ?_)
  apply ej_end Tryz.results106 .nil _ [lgB b d v20 (g.play (.add i m))] hR3 rfl
  case hp => exact ⟨v20, by rw [hall]; exact hfx, rfl⟩
  case hS => exact sb_
theorem lgAdd_t {R : Hp} (b bd : Nat) (va u vm : Value) (g : LG) (D : DK) (n : Nat) (i : Int) (m : List Ent) (hg : g.ok) (hi : u64B i) (hva : FrX entE R g.all va) (hvm : FrX entE R m vm) (hm : m.length ≤ 100000) (hmb : ∀ e ∈ m, u64B e.1 ∧ e.2.length ≤ 1000000) (hml : entsLen m ≤ 16000000) (hD : D.ok n) (hn : n ≤ 900000000) :
    Tri Tryz.prog 87 [.pointer (some ⟨b, 0, none⟩), .int .u64 i, vm] R [lgB b (some ⟨bd, 0, none⟩) va g, dkB bd u D, dkS u D]
      (fun x R' L' => x = .int .i64 (g.addD D i m).1 ∧ ∃ u' va', FrX entE R' (g.addD D i m).2.1.all va' ∧ L' = [lgB b (some ⟨bd, 0, none⟩) va' (g.addD D i m).2.1, dkB bd u' (g.addD D i m).2.2, dkS u' (g.addD D i m).2.2]) := by
  have hdq := lgDown_q (R := R) b bd va u g D
  have hlq := lgLast_q (R := R) b (some ⟨bd, 0, none⟩) va g hg hva
  have hvo := hva.one
  have hvmo := hvm.one
  have hb := hg.base
  have hle : g.last = g.base + g.all.length := rfl
  refine tri_of Tryz.func87 rfl Tryz.ntmps87 rfl (fun σ F Q hret hend hpan => ?_)
  try simp only [cA, nA]
  unfold lgB lgC at hdq hlq ⊢
  refine cj_seq fun K1 hK1 => cj_region ?_
  refine Ps ?_
  refine rj_nil (hK1 _ _ _ (cj_seq fun K2 hK2 => cj_block (cj_seq fun K3 hK3 => cj_region ?_)))
  refine Pm ?_
  refine Pa (Ca Tryz.call59 (hdq)) ?_
  refine Ps ?_
  refine rj_nil (hK3 _ _ _ ?_)
  refine cj_cond rfl (fun hc8 => ?_) (fun hc8 => ?_)
  have f0 : (g.down || D.down) = true := hc8
  refine cj_seq fun K5 hK5 => cj_region ?_
  refine Ps ?_
  refine rj_nil (hK5 _ _ _ (cj_ret (hret _ _ _ ?_)))
  refine Ea Tryz.results87 (.cons (rv_tmp rfl) .nil) [lgB b (some ⟨bd, 0, none⟩) va g, dkB bd u D, dkS u D] (by first | exact Hp.le_refl _ | exact Hp.le_trans hR2 hR3 | exact Hp.le_trans hR23 hR4) ?_
  rw [show g.addD D i m = (3, g, D) by unfold LG.addD; rw [if_pos f0]]; exact ⟨rfl, u, va, hva, rfl⟩
  have f0 : ¬ (g.down || D.down) = true := by simpa using hc8
  refine cj_seq fun K6 hK6 => cj_region ?_
  refine Pm ?_
  refine Pm ?_
  refine Pa (y_nilCheck rfl) ?_
  refine Pa (Ga Tryz.underlying111 Tryz.sizeOf36) ?_
  first | refine Pa (La o36) ?_ | refine Pa (Ls o36) ?_
  refine Pa (y_lss rfl rfl) ?_
  refine Pm ?_
  refine rj_part 18 rfl (fun hg18 => ?_) (fun hg18 => ?_)
  have f1 : i < g.base ∨ i > g.last := .inl (by simpa using hg18)
  refine Pk ?_
  refine Pk ?_
  refine Pk ?_
  refine Pk ?_
  refine Pa (y_pick_t rfl rfl) ?_
  refine Ps ?_
  refine rj_nil (hK6 _ _ _ ?_)
  refine cj_env (eL 0 rfl (eL 1 rfl (eL 2 rfl (eL 11 rfl eN)))) ?_
  refine cj_cond_t rfl (cj_seq fun K7 hK7 => cj_region ?_)
  refine Ps ?_
  refine rj_nil (hK7 _ _ _ (cj_ret (hret _ _ _ ?_)))
  refine Ea Tryz.results87 (.cons (rv_tmp rfl) .nil) [lgB b (some ⟨bd, 0, none⟩) va g, dkB bd u D, dkS u D] (by first | exact Hp.le_refl _ | exact Hp.le_trans hR2 hR3 | exact Hp.le_trans hR23 hR4) ?_
  rw [show g.addD D i m = (1, g, D) by unfold LG.addD; rw [if_neg f0, if_pos f1]]; exact ⟨rfl, u, va, hva, rfl⟩
  have f10 : ¬ i < g.base := by simpa using hg18
  refine Pb (y_move rfl) ?_
  refine Pb (y_move rfl) ?_
  refine Pb (Ca Tryz.call60 (hlq)) ?_
  refine Pb (y_gtr rfl rfl) ?_
  refine Pa (y_pick_f rfl rfl) ?_
  refine Ps ?_
  refine rj_nil (hK6 _ _ _ ?_)
  refine cj_cond rfl (fun hc11 => ?_) (fun hc11 => ?_)
  first | have f1 : i < g.base ∨ i > g.last := .inr (by simpa using hc11) | skip
  refine cj_seq fun K9 hK9 => cj_region ?_
  refine Ps ?_
  refine rj_nil (hK9 _ _ _ (cj_ret (hret _ _ _ ?_)))
  refine Ea Tryz.results87 (.cons (rv_tmp rfl) .nil) [lgB b (some ⟨bd, 0, none⟩) va g, dkB bd u D, dkS u D] (by first | exact Hp.le_refl _ | exact Hp.le_trans hR2 hR3 | exact Hp.le_trans hR23 hR4) ?_
  rw [show g.addD D i m = (1, g, D) by unfold LG.addD; rw [if_neg f0, if_pos f1]]; exact ⟨rfl, u, va, hva, rfl⟩
  have f1 : ¬ (i < g.base ∨ i > g.last) := by (try simp at hc11); omega
  refine cj_skip (hK2 _ _ _ (cj_seq fun K10 hK10 => cj_seq fun K11 hK11 => cj_region ?_))
  have hib : g.base ≤ i ∧ i ≤ g.last := by omega
  have hmay : (Rec.add i m).may g := ⟨hib, hmb, hm⟩
  have hu1 : u64B 1 := by unfold u64B; omega
  have hln := Rec.len_add (b := i) (by have := hg.alln; omega) hmb hm
  refine Pm ?_
  refine Pa (Ca Tryz.call95 (numN_q _)) ?_
  refine Pm ?_
  refine Pa (Ca Tryz.call95 (numN_q _)) ?_
  refine Pm ?_
  refine Ra Tryz.call108 (list_t m vm hvm hmb hm) ?_
  rintro r R2 L' hR2 ⟨⟨cy, rfl, hrep⟩, rfl⟩
  have hrep2 := hrep
  obtain ⟨k0, n0, s0, l0, q0, cap0, _, rfl, _, _⟩ := hrep2.inv
  try simp only [cA, nA]
  refine rj_buildSlice (sz := 4) (wn0 rfl) rfl Tryz.underlying148 Tryz.sizeOf150 Tryz.zeroValue150 rfl rfl rfl (by decide) (by decide) (fun bk => ?_)
  refine Ra Tryz.call94 (lgWrite_t b bd va u g D n (Rec.add i m) (.slice (some ⟨bk, 0, none⟩) 3 3) [[.int .i64 0, .int .u64 1, .string (str []), .slice none 0 0], [.int .i64 0, .int .u64 i, .string (str []), .slice none 0 0], [.int .i64 k0, .int .u64 n0, .string (str s0), .slice q0 l0.length cap0]] (kids3 (rep_num hu1) (rep_num hi) hrep) hg hmay (by omega) hD hn) ?_
  rintro x R3 L' hR3 ⟨rfl, u2, rfl⟩
  unfold lgB lgC
  try simp only [cA, nA]
  refine Ps ?_
  refine rj_nil (hK11 _ _ _ (cj_seq fun K12 hK12 => cj_region ?_))
  refine Pm ?_
  refine Pa (y_neq rfl rfl) ?_
  refine rj_nil (hK12 _ _ _ ?_)
  refine cj_cond rfl (fun hc33 => ?_) (fun hc33 => ?_)
  have f2 : ¬ (D.put (Rec.add i m).bytes).1 = 0 := by simpa using hc33
  refine cj_seq fun K14 hK14 => cj_region ?_
  refine Pm ?_
  refine Ps ?_
  refine rj_nil (hK14 _ _ _ ?_)
  refine cj_env (eL 6 rfl eN) ?_
  refine cj_ret (hret _ _ _ ?_)
  refine Ea Tryz.results87 (.cons (rv_tmp rfl) .nil) [lgB b (some ⟨bd, 0, none⟩) va { g with down := or g.down (!decide ((D.put (Rec.add i m).bytes).1 = 0)) }, dkB bd u2 (D.put (Rec.add i m).bytes).2, dkS u2 (D.put (Rec.add i m).bytes).2] (by first | exact Hp.le_refl _ | exact Hp.le_trans hR2 hR3 | exact Hp.le_trans hR23 hR4) ?_
  rw [show g.addD D i m = ((D.put (Rec.add i m).bytes).1, { g with down := true }, (D.put (Rec.add i m).bytes).2) by unfold LG.addD; rw [if_neg f0, if_neg f1, if_neg f2]]; refine ⟨rfl, u2, va, (hva.mono hR2).mono hR3, ?_⟩; simp [f2]
  have f2 : (D.put (Rec.add i m).bytes).1 = 0 := by simpa using hc33
  have hR23 := Hp.le_trans hR2 hR3
  obtain ⟨g2, hg2⟩ : ∃ g2 : LG, g2 = { g with down := or g.down (!decide ((D.put (Rec.add i m).bytes).1 = 0)) } := ⟨_, rfl⟩
  have hgd : g2 = g := by rw [hg2]; simp [f2]
  refine cj_skip (hK10 _ _ _ (cj_seq fun K15 hK15 => cj_region ?_))
  refine Pm ?_
  refine Pm ?_
  refine Pm ?_
  refine rj_turn (A := blk b [.pointer (some ⟨bd, 0, none⟩), .bool (or g.down (!decide ((D.put (Rec.add i m).bytes).1 = 0))), .int .u64 g.term, .int .i64 g.vote, .int .u64 g.base, .int .u64 g.baseT, .string (str g.state), va] 111) (B := lgB b (some ⟨bd, 0, none⟩) va g) fd_ (fun h hh => by simpa [f2, lgB, lgC] using hh) ?_
  refine Ra Tryz.call106 (lgAdd0_t b (some ⟨bd, 0, none⟩) va vm g i m hg hib (hva.mono hR23) (hvm.mono hR23) (by omega)) ?_
  rintro x R4 L' hR4 ⟨va2, hva2, rfl⟩
  unfold lgB lgC
  try simp only [cA, nA]
  refine rj_nil (hK15 _ _ _ ?_)
  refine cj_env eN ?_
  refine cj_seq fun K16 hK16 => cj_region ?_
  refine Ps ?_
  refine rj_nil (hK16 _ _ _ (cj_ret (hret _ _ _ ?_)))
  refine Ea Tryz.results87 (.cons (rv_tmp rfl) .nil) [lgB b (some ⟨bd, 0, none⟩) va2 (g.play (.add i m)), dkB bd u2 (D.put (Rec.add i m).bytes).2, dkS u2 (D.put (Rec.add i m).bytes).2] (by first | exact Hp.le_refl _ | exact Hp.le_trans hR2 hR3 | exact Hp.le_trans hR23 hR4) ?_
  rw [show g.addD D i m = (0, g.play (.add i m), (D.put (Rec.add i m).bytes).2) by unfold LG.addD; rw [if_neg f0, if_neg f1, if_pos f2]]; exact ⟨rfl, u2, va2, hva2, rfl⟩
end V
end Go.Proofs.YtenfjpigffjgmaaGreat
set_option linter.unusedSimpArgs false
set_option linter.unusedVariables false
set_option maxRecDepth 100000
namespace Go.Proofs.YtenfjpigffjgmaaGreat
open Go.RowKit
namespace V
set_option maxHeartbeats 4000000
theorem RepN.kids {R : Hp} {k : Int} {n : Nat} {s : Bs} {l : List Nd} {cx : List Value} (h : RepN R (.mk k n s l) cx) : ∃ q cap, cx = [.int .i64 k, .int .u64 ((n : Nat) : Int), .string (str s), .slice q l.length cap] ∧ RepL R l q cap := by
  obtain ⟨k1, n1, s1, l1, q, cap, e, rfl, _, hl⟩ := h.inv
  cases e
  exact ⟨q, cap, rfl, hl⟩
theorem RepL.mono {R R' : Hp} (hR : R.le R') {l : List Nd} {q : Option Addr} {cap : Nat} (h : RepL R l q cap) : RepL R' l q cap := by
  obtain ⟨k1, n1, s1, l1, q1, cap1, e, e2, _, hl⟩ := ((h.node (k := 0) (n := 0) (s := []) (by simp [big])).mono hR).inv
  cases e
  cases e2
  exact hl
theorem RepL.kid {R : Hp} {l : List Nd} {b off cap : Nat} (h : RepL R l (some ⟨b, off, none⟩) cap) {i : Nat} {k : Int} {n : Nat} {s : Bs} {m : List Nd} (hx : l[i]? = some (.mk k n s m)) :
    ∃ q c, RepL R m q c ∧ Hp.cell R ⟨b, off + i * 4 + 0, none⟩ = some (.int .i64 k) ∧ Hp.cell R ⟨b, off + i * 4 + 1, none⟩ = some (.int .u64 ((n : Nat) : Int)) ∧ Hp.cell R ⟨b, off + i * 4 + 2, none⟩ = some (.string (str s)) ∧ Hp.cell R ⟨b, off + i * 4 + 3, none⟩ = some (.slice q m.length c) := by
  obtain ⟨b1, o1, cs, e, _, hr, hc⟩ := h.at hx
  cases e
  obtain ⟨q, c, rfl, hm⟩ := hr.kids
  exact ⟨q, c, hm, hc 0 _ rfl, hc 1 _ rfl, hc 2 _ rfl, hc 3 _ rfl⟩
theorem entries_t {R : Hp} (l : List Ent) (cx : List Value) (hx : RepN R (listN l) cx) (hb : ∀ e ∈ l, u64B e.1) (hn : l.length ≤ 100000) : Tri Tryz.prog 105 [.agg ⟨cx⟩] R [] (fun r R' L' => (∃ v, r = tupOf [v, .bool true] ∧ FrX entE R' l v) ∧ L' = []) := by
  obtain ⟨q, cap, rfl, hl⟩ := RepN.kids (k := 2) (n := 0) (s := []) (l := l.map entN) hx
  refine tri_of Tryz.func105 rfl Tryz.ntmps105 rfl (fun σ F Q hret hend hpan => ?_)
  try simp only [cA, nA]
  refine cj_seq fun K1 hK1 => cj_region ?_
  refine rj_box (wn0 rfl) rfl rfl rfl (fun b1 => ?_)
  refine Ps ?_
  refine Ps ?_
  refine rj_nil (hK1 _ _ _ (cj_seq fun K2 hK2 => cj_region ?_))
  refine Ps ?_
  refine rj_add (A := slc 93 2 (.slice none 0 0) 0 (entsC [])) (slc_nil _ _) ?_
  refine rj_nil (hK2 _ _ _ (cj_seq fun K3 hK3 => cj_seq fun K4 hK4 => cj_region ?_))
  refine Pa (Ga Tryz.underlying150 Tryz.sizeOf148) ?_
  first | refine Pa (La o148) ?_ | refine Pa (Ls o148) ?_
  first | refine Pa (y_len_sl Tryz.underlying148 rfl) ?_ | refine Pa (y_len_slc Tryz.underlying148 rfl fd_) ?_
  refine Pm ?_
  refine rj_nil (hK4 _ _ _ (cj_block ?_))
  refine cj_env (E' := (fun (x1 : Nat × Value × Hp) => [(1, .pointer (some ⟨b1, 0, none⟩)), (4, x1.2.1), (8, .slice q (l.map entN).length cap), (9, .int .i64 ((l.map entN).length : Int)), (10, .int .i64 (x1.1 : Int))]) (0, .slice none 0 0, R)) (eC rfl (eC rfl (eC rfl (eC rfl (eC rfl eN))))) ?_
  refine cj_sub (M := (fun (x1 : Nat × Value × Hp) => slc 93 2 x1.2.1 x1.1 (entsC (l.take x1.1)) :: blk b1 [.int .i64 2, .int .u64 0, .string (str []), .slice q (l.map entN).length cap] 150 :: F) (0, .slice none 0 0, R)) sb_ ?_
  refine cj_loop (fun (x1 : Nat × Value × Hp) => [(1, .pointer (some ⟨b1, 0, none⟩)), (4, x1.2.1), (8, .slice q (l.map entN).length cap), (9, .int .i64 ((l.map entN).length : Int)), (10, .int .i64 (x1.1 : Int))]) (fun (x1 : Nat × Value × Hp) => x1.2.2) (fun (x1 : Nat × Value × Hp) => slc 93 2 x1.2.1 x1.1 (entsC (l.take x1.1)) :: blk b1 [.int .i64 2, .int .u64 0, .string (str []), .slice q (l.map entN).length cap] 150 :: F) (fun (x1 : Nat × Value × Hp) => x1.1 ≤ l.length ∧ x1.2.1.oneCell' = true ∧ R.le x1.2.2) (fun (x1 : Nat × Value × Hp) => l.length - x1.1) (0, .slice none 0 0, R) (⟨by simp, rfl, Hp.le_refl _⟩) ?_
  rintro ⟨i, vl, R3⟩ ⟨hi, hvl, hR3⟩
  try dsimp only
  dsimp only at hi hvl hR3
  refine cj_seq fun K5 hK5 => cj_region ?_
  refine Pa (y_lss rfl rfl) ?_
  refine rj_nil (hK5 _ _ _ (cj_seq fun K6 hK6 => ?_))
  refine cj_cond rfl (fun hc11 => ?_) (fun hc11 => ?_)
  try simp only [dT, dF, nT, nF, tF, fT] at hc11
  refine cj_skip (hK6 _ _ _ (cj_seq fun K8 hK8 => cj_block (cj_seq fun K9 hK9 => cj_region ?_)))
  have hi2 : i < l.length := by (try simp at hc11); omega
  obtain ⟨e, he⟩ : ∃ x, l[i]? = some x := ⟨_, List.getElem?_eq_getElem hi2⟩
  have heb := hb e (List.mem_of_getElem? he)
  obtain ⟨be, oe, ce, rfl, hcl, hrep, hcell⟩ := (hl.mono hR3).at (i := i) (x := entN e) (by rw [List.getElem?_map, he]; rfl)
  obtain ⟨q2, cap2, rfl, hl2⟩ := RepN.kids (k := 2) (n := 0) (s := []) (l := [numN e.1.toNat, strN e.2]) hrep
  obtain ⟨b2, o2, _, rfl, _⟩ := hl2.at (i := 0) rfl
  obtain ⟨_, _, _, _, hc0, _, _⟩ := hl2.kid (i := 0) rfl
  obtain ⟨_, _, _, _, _, hc1, _⟩ := hl2.kid (i := 1) rfl
  rw [(toNat64 heb).2] at hc0
  first | refine Pa (y_indexAddr Tryz.underlying148 Tryz.sizeOf150 rfl rfl om_) ?_ | refine Pa (y_index_slc Tryz.underlying148 Tryz.sizeOf150 rfl rfl fd_ om_) ?_
  refine Pa ((y_loads_ro m150 (vs := [.int .i64 2, .int .u64 0, .string (str []), .slice (some ⟨b2, o2, none⟩) 2 cap2]) hcl rfl (fun j u hj => hcell j u hj))) ?_
  refine rj_alloc (wn0 rfl) rfl Tryz.zeroValue150 rfl (fun b6 => ?_)
  refine rj_stores_all (vs := [.int .i64 2, .int .u64 0, .string (str []), .slice (some ⟨b2, o2, none⟩) 2 cap2]) m150 hcl (wn0 rfl) rfl rfl (rep_one hrep) fd_ rfl ?_
  refine rj_nil (hK9 _ _ _ (cj_seq fun K10 hK10 => cj_seq fun K11 hK11 => cj_region ?_))
  refine Pa (Ga Tryz.underlying150 Tryz.sizeOf148) ?_
  first | refine Pa (La o148) ?_ | refine Pa (Ls o148) ?_
  refine rj_buildSlice (sz := 1) (wn0 rfl) rfl Tryz.underlying187 Tryz.sizeOf3 Tryz.zeroValue3 rfl rfl rfl (by decide) (by decide) (fun b16 => ?_)
  refine rj_freeze (e := 3) (sz := 1) (n := 2) (v := .slice (some ⟨b16, 0, none⟩) 2 2) (xs := intsV [0, 1]) fd_ (fun R4 hR4 hfr hxl => ?_)
  refine Pa (Ca Tryz.call104 (shape_q _ _ _ (hl2.mono hR4) [0, 1] _ (intsFr (l := [0, 1]) hfr))) ?_
  refine rj_eq 17 rfl (v' := .bool true) (by simp [numN, strN, Nd.kind]) ?_
  refine Pa (y_not rfl) ?_
  refine rj_nil (hK11 _ _ _ (cj_cond_f rfl (cj_skip (hK10 _ _ _ ?_))))
  refine cj_mixg (L := [blk b6 [.int .i64 2, .int .u64 0, .string (str []), .slice (some ⟨b2, o2, none⟩) 2 cap2] 150]) [0, 1, 2, 3, 4, 5, 6, 7, 8, 9, 10, 11] [12] [13, 14] _ sb_ (by kernel_rfl) (by kernel_rfl) (by kernel_rfl) rfl ?_
  refine Wa rfl (fun R1 hR1 G => (y_move rfl)) ?_
  refine Wa rfl (fun R1 hR1 G => (Ga Tryz.underlying150 Tryz.sizeOf148)) ?_
  first | refine Wa rfl (fun R1 hR1 G => (La o148)) ?_ | refine Wa rfl (fun R1 hR1 G => (Ls o148)) ?_
  first | refine Wa rfl (fun R1 hR1 G => (y_indexAddr Tryz.underlying148 Tryz.sizeOf150 rfl rfl om_)) ?_ | refine Wa rfl (fun R1 hR1 G => (y_index_slc Tryz.underlying148 Tryz.sizeOf150 rfl rfl fd_ om_)) ?_
  refine Wa rfl (fun R1 hR1 G => (Ga Tryz.underlying150 Tryz.sizeOf36)) ?_
  refine Wa rfl (fun R1 hR1 G => (y_load_ro o36 rfl (cell_mono (Hp.le_trans hR4 hR1) hc0))) ?_
  refine Wa rfl (fun R1 hR1 G => (Ga Tryz.underlying150 Tryz.sizeOf148)) ?_
  first | refine Wa rfl (fun R1 hR1 G => (La o148)) ?_ | refine Wa rfl (fun R1 hR1 G => (Ls o148)) ?_
  first | refine Wa rfl (fun R1 hR1 G => (y_indexAddr Tryz.underlying148 Tryz.sizeOf150 rfl rfl om_)) ?_ | refine Wa rfl (fun R1 hR1 G => (y_index_slc Tryz.underlying148 Tryz.sizeOf150 rfl rfl fd_ om_)) ?_
  refine Wa rfl (fun R1 hR1 G => (Ga Tryz.underlying150 Tryz.sizeOf9)) ?_
  refine Wa rfl (fun R1 hR1 G => (y_load_ro o9 rfl (cell_mono (Hp.le_trans hR4 hR1) hc1))) ?_
  refine Wa rfl (fun R1 hR1 G => (y_build (cells := [_, _]) [(0, 1), (1, 1)] Tryz.underlying93 Tryz.zeroValue93 (fun _ => rfl) rfl rfl)) ?_
  refine fj_nil ?_
  refine xj_rj rfl ?_
  try simp only [cA, nA, List.append_nil]
  refine rj_buildSlice (sz := 2) (wn0 rfl) rfl Tryz.underlying76 Tryz.sizeOf93 Tryz.zeroValue93 rfl rfl rfl (by decide) (by decide) (fun b31 => ?_)
  refine rj_xk le_ sb_ ?_
  refine xj_nil ?_
  try simp only [cA, nA, List.append_nil]
  refine rj_append (sz := 2) (by_ := 24) ⟨Tryz.underlying76, _, _, rfl, rfl, rfl, rfl, rfl⟩ (wn0 rfl) rfl rfl rfl fd_ (src_slc (xs := entC e) Tryz.underlying76 fd_ (entE.one (R := R4) (x := e) rfl)) rfl om_ (by simp only [maxLen]; omega) (fun v32 ho32 hh32 => ?_)
  rw [show entsC (l.take i) ++ entC e = entsC (l.take (i + 1)) by unfold entsC; rw [map_snoc he]; simp]
  refine Ps ?_
  refine rj_nil (hK8 _ _ _ ?_)
  refine cj_env (eL 1 rfl (eL 4 rfl (eL 8 rfl (eL 9 rfl (eL 10 rfl eN))))) ?_
  refine cj_region ?_
  first | refine Pa (y_add64 rfl rfl om_) ?_ | refine Pa (y_add rfl rfl) ?_
  refine Pm ?_
  refine rj_nil ?_
  refine ej_on (q' := roundK _ _ _ _ _ _ _) rfl ?_
  refine ej_round ((i + 1, v32, R4)) (⟨by dsimp only; omega, by assumption, Hp.le_trans hR3 hR4⟩) (by dsimp only; omega) (eC rfl (eC rfl (eC rfl (eC rfl (eC rfl eN))))) rfl sb_
  try simp only [dT, dF, nT, nF, tF, fT] at hc11
  refine cj_exit (hK3 _ _ _ (cj_seq fun K12 hK12 => ?_))
  obtain rfl : i = l.length := by (try simp at hc11); omega
  rw [List.take_length]
  refine cj_freeze (e := 93) (sz := 2) (n := l.length) (v := vl) (xs := entsC l) fd_ (fun R5 hR5 hfr5 hxl5 => ?_)
  have hfx := entsFr hfr5
  obtain ⟨q5, cap5, rfl, _, _⟩ := hfx.shape
  refine cj_draw (by kernel_rfl) (by kernel_rfl) ?_
  refine Qa (y_move rfl) ?_
  refine Qa (Ga Tryz.underlying150 Tryz.sizeOf3) ?_
  first | refine Qa (La o3) ?_ | refine Qa (Ls o3) ?_
  refine Qa (y_eql rfl rfl) ?_
  refine Qa (y_assign rfl) ?_
  refine Qa (y_assign rfl) ?_
  refine qj_nil ?_
  refine hK12 _ _ _ (cj_ret (hret _ _ _ ?_))
  refine Ea Tryz.results105 (.cons (rv_tmp rfl) (.cons (rv_tmp rfl) .nil)) [] (by exact Hp.le_trans hR3 hR5) ?_
  exact ⟨⟨_, rfl, hfx⟩, rfl⟩
theorem replayTerm_t {R : Hp} (b : Nat) (d : Option Addr) (va : Value) (g : LG) (t v : Int) (hm : (Rec.term t v).may g) (cx : List Value) (hx : RepN R (Rec.term t v).nd cx) :
    Tri Tryz.prog 83 [.pointer (some ⟨b, 0, none⟩), .agg ⟨cx⟩] R [lgB b d va g] (fun x R' L' => x = .bool true ∧ L' = [lgB b d va (g.play (.term t v))]) := by
  obtain ⟨h1, h2, h3⟩ := hm
  obtain ⟨q, cap, rfl, hl⟩ := RepN.kids (k := 2) (n := 0) (s := []) (l := [numN 0, numN t.toNat, numN (v + 1).toNat]) hx
  obtain ⟨b0, o0, _, rfl, _⟩ := hl.at (i := 0) rfl
  obtain ⟨_, _, _, hk0, hn0, _, _⟩ := hl.kid (i := 0) rfl
  obtain ⟨_, _, _, _, hn1, _, _⟩ := hl.kid (i := 1) rfl
  obtain ⟨_, _, _, _, hn2, _, _⟩ := hl.kid (i := 2) rfl
  rw [(toNat64 h1).2] at hn1
  rw [show (((v + 1).toNat : Nat) : Int) = v + 1 by omega] at hn2
  refine tri_of Tryz.func83 rfl Tryz.ntmps83 rfl (fun σ F Q hret hend hpan => ?_)
  try simp only [cA, nA]
  unfold lgB lgC
  refine cj_seq fun K1 hK1 => cj_region ?_
  refine rj_box (wn0 rfl) rfl rfl rfl (fun bx => ?_)
  refine Ps ?_
  refine rj_nil (hK1 _ _ _ (cj_seq fun K2 hK2 => cj_seq fun K3 hK3 => cj_region ?_))
  refine Pa (Ga Tryz.underlying150 Tryz.sizeOf148) ?_
  first | refine Pa (La o148) ?_ | refine Pa (Ls o148) ?_
  first | refine Pa (y_len_sl Tryz.underlying148 rfl) ?_ | refine Pa (y_len_slc Tryz.underlying148 rfl fd_) ?_
  refine Pa (y_eql rfl rfl) ?_
  refine Pm ?_
  refine Pb (Ga Tryz.underlying150 Tryz.sizeOf148) ?_
  first | refine Pb (La o148) ?_ | refine Pb (Ls o148) ?_
  first | refine Pb (y_indexAddr Tryz.underlying148 Tryz.sizeOf150 rfl rfl om_) ?_ | refine Pb (y_index_slc Tryz.underlying148 Tryz.sizeOf150 rfl rfl fd_ om_) ?_
  refine Pb (Ga Tryz.underlying150 Tryz.sizeOf3) ?_
  refine Pb ((y_load_ro o3 rfl hk0)) ?_
  refine Pb (y_neq rfl rfl) ?_
  refine Pa (y_pick_f rfl rfl) ?_
  refine rj_nil (hK3 _ _ _ (cj_cond_f rfl (cj_skip (hK2 _ _ _ (cj_seq fun K4 hK4 => cj_region ?_)))))
  refine Pa (Ga Tryz.underlying150 Tryz.sizeOf148) ?_
  first | refine Pa (La o148) ?_ | refine Pa (Ls o148) ?_
  refine Ps ?_
  refine rj_nil (hK4 _ _ _ (cj_seq fun K5 hK5 => cj_block (cj_seq fun K6 hK6 => cj_region ?_)))
  refine Pm ?_
  first | refine Pa (y_indexAddr Tryz.underlying148 Tryz.sizeOf150 rfl rfl om_) ?_ | refine Pa (y_index_slc Tryz.underlying148 Tryz.sizeOf150 rfl rfl fd_ om_) ?_
  refine Pa (Ga Tryz.underlying150 Tryz.sizeOf36) ?_
  refine Pa ((y_load_ro o36 rfl hn0)) ?_
  refine Pa (y_eql rfl rfl) ?_
  refine Pm ?_
  refine Pb (y_move rfl) ?_
  refine rj_buildSlice (sz := 1) (wn1 rfl rfl rfl rfl) rfl Tryz.underlying187 Tryz.sizeOf3 Tryz.zeroValue3 rfl rfl rfl (by decide) (by decide) (fun b32 => ?_)
  refine rj_freeze (e := 3) (sz := 1) (n := 3) (v := .slice (some ⟨b32, 0, none⟩) 3 3) (xs := intsV [0, 0, 0]) fd_ (fun R4 hR4 hfr hxl => ?_)
  refine Pb (Ca Tryz.call104 (shape_q _ _ _ (hl.mono hR4) [0, 0, 0] _ (intsFr (l := [0, 0, 0]) hfr))) ?_
  refine rj_eq 33 rfl (v' := .bool true) (by simp [numN, strN, listN, Nd.kind]) ?_
  refine Pa (y_pick_t rfl rfl) ?_
  refine Ps ?_
  refine rj_nil (hK6 _ _ _ ?_)
  refine cj_env (eL 0 rfl (eL 5 rfl (eL 24 rfl eN))) ?_
  refine cj_cond_t rfl (cj_seq fun K7 hK7 => ?_)
  refine cj_mixg (L := []) [0, 1, 2, 3, 4, 5, 6, 7, 8, 9, 10, 11, 12, 13] [14] [15, 16, 17] _ sb_ (by kernel_rfl) (by kernel_rfl) (by kernel_rfl) rfl ?_
  refine Wa rfl (fun R1 hR1 G => (y_move rfl)) ?_
  refine Wa rfl (fun R1 hR1 G => (y_move rfl)) ?_
  refine Wa rfl (fun R1 hR1 G => (y_move rfl)) ?_
  first | refine Wa rfl (fun R1 hR1 G => (y_indexAddr Tryz.underlying148 Tryz.sizeOf150 rfl rfl om_)) ?_ | refine Wa rfl (fun R1 hR1 G => (y_index_slc Tryz.underlying148 Tryz.sizeOf150 rfl rfl fd_ om_)) ?_
  refine Wa rfl (fun R1 hR1 G => (Ga Tryz.underlying150 Tryz.sizeOf36)) ?_
  refine Wa rfl (fun R1 hR1 G => (y_load_ro o36 rfl (cell_mono (Hp.le_trans hR4 hR1) hn1))) ?_
  refine Wa rfl (fun R1 hR1 G => (y_move rfl)) ?_
  first | refine Wa rfl (fun R1 hR1 G => (y_indexAddr Tryz.underlying148 Tryz.sizeOf150 rfl rfl om_)) ?_ | refine Wa rfl (fun R1 hR1 G => (y_index_slc Tryz.underlying148 Tryz.sizeOf150 rfl rfl fd_ om_)) ?_
  refine Wa rfl (fun R1 hR1 G => (Ga Tryz.underlying150 Tryz.sizeOf36)) ?_
  refine Wa rfl (fun R1 hR1 G => (y_load_ro o36 rfl (cell_mono (Hp.le_trans hR4 hR1) hn2))) ?_
  refine Wa rfl (fun R1 hR1 G => (y_conv_in Tryz.underlying36 Tryz.underlying3 rfl (by (simp only [IntKind.min, IntKind.max, IntKind.signed, IntKind.bits, Bool.false_eq_true, ite_false, ite_true]; omega)))) ?_
  refine Wa rfl (fun R1 hR1 G => (Yld.to (y_sub64 rfl rfl (by omega)) (u := .int .i64 v) (by rw [show v + 1 - 1 = v by omega]))) ?_
  refine Wa rfl (fun R1 hR1 G => (y_nilCheck rfl)) ?_
  refine Wa rfl (fun R1 hR1 G => (Ga Tryz.underlying111 Tryz.sizeOf36)) ?_
  refine fj_nil ?_
  refine xj_rj rfl ?_
  try simp only [cA, nA, List.append_nil]
  refine Sa o36 ?_
  refine rj_xk le_ sb_ ?_
  refine xj_nil ?_
  try simp only [cA, nA, List.append_nil]
  refine Pa (y_nilCheck rfl) ?_
  refine Pa (Ga Tryz.underlying111 Tryz.sizeOf3) ?_
  refine Sa o3 ?_
  refine rj_nil (hK7 _ _ _ ?_)
  refine cj_env eN ?_
  refine cj_seq fun K8 hK8 => cj_region ?_
  refine Ps ?_
  refine rj_nil (hK8 _ _ _ (cj_ret (hret _ _ _ ?_)))
  refine Ea Tryz.results83 (.cons (rv_tmp rfl) .nil) [lgB b d va (g.play (.term t v))] le_ ?_
  exact ⟨rfl, rfl⟩
theorem replayAdd_t {R : Hp} (b : Nat) (d : Option Addr) (va : Value) (g : LG) (i : Int) (m : List Ent) (hg : g.ok) (hm : (Rec.add i m).may g) (hva : FrX entE R g.all va) (cx : List Value) (hx : RepN R (Rec.add i m).nd cx) :
    Tri Tryz.prog 83 [.pointer (some ⟨b, 0, none⟩), .agg ⟨cx⟩] R [lgB b d va g] (fun x R' L' => x = .bool true ∧ ∃ va', FrX entE R' (g.play (.add i m)).all va' ∧ L' = [lgB b d va' (g.play (.add i m))]) := by
  obtain ⟨⟨h1, h2⟩, h3, h4⟩ := hm
  have hb := hg.base
  obtain ⟨q, cap, rfl, hl⟩ := RepN.kids (k := 2) (n := 0) (s := []) (l := [numN 1, numN i.toNat, listN m]) hx
  obtain ⟨b0, o0, _, rfl, _⟩ := hl.at (i := 0) rfl
  obtain ⟨_, _, _, hk0, hn0, _, _⟩ := hl.kid (i := 0) rfl
  obtain ⟨_, _, _, _, hn1, _, _⟩ := hl.kid (i := 1) rfl
  obtain ⟨_, _, _, e2, _, hr2, hcell2⟩ := hl.at (i := 2) (x := listN m) rfl
  cases e2
  obtain ⟨q2, cap2, rfl, hl2⟩ := RepN.kids (k := 2) (n := 0) (s := []) (l := m.map entN) hr2
  rw [show ((i.toNat : Nat) : Int) = i by omega] at hn1
  have hlq := lgLast_q (R := R) b d va g hg hva
  refine tri_of Tryz.func83 rfl Tryz.ntmps83 rfl (fun σ F Q hret hend hpan => ?_)
  try simp only [cA, nA]
  unfold lgB lgC
  refine cj_seq fun K1 hK1 => cj_region ?_
  refine rj_box (wn0 rfl) rfl rfl rfl (fun bx => ?_)
  refine Ps ?_
  refine rj_nil (hK1 _ _ _ (cj_seq fun K2 hK2 => cj_seq fun K3 hK3 => cj_region ?_))
  refine Pa (Ga Tryz.underlying150 Tryz.sizeOf148) ?_
  first | refine Pa (La o148) ?_ | refine Pa (Ls o148) ?_
  first | refine Pa (y_len_sl Tryz.underlying148 rfl) ?_ | refine Pa (y_len_slc Tryz.underlying148 rfl fd_) ?_
  refine Pa (y_eql rfl rfl) ?_
  refine Pm ?_
  refine Pb (Ga Tryz.underlying150 Tryz.sizeOf148) ?_
  first | refine Pb (La o148) ?_ | refine Pb (Ls o148) ?_
  first | refine Pb (y_indexAddr Tryz.underlying148 Tryz.sizeOf150 rfl rfl om_) ?_ | refine Pb (y_index_slc Tryz.underlying148 Tryz.sizeOf150 rfl rfl fd_ om_) ?_
  refine Pb (Ga Tryz.underlying150 Tryz.sizeOf3) ?_
  refine Pb ((y_load_ro o3 rfl hk0)) ?_
  refine Pb (y_neq rfl rfl) ?_
  refine Pa (y_pick_f rfl rfl) ?_
  refine rj_nil (hK3 _ _ _ (cj_cond_f rfl (cj_skip (hK2 _ _ _ (cj_seq fun K4 hK4 => cj_region ?_)))))
  refine Pa (Ga Tryz.underlying150 Tryz.sizeOf148) ?_
  first | refine Pa (La o148) ?_ | refine Pa (Ls o148) ?_
  refine Ps ?_
  refine rj_nil (hK4 _ _ _ (cj_seq fun K5 hK5 => cj_block (cj_seq fun K6 hK6 => cj_region ?_)))
  refine Pm ?_
  first | refine Pa (y_indexAddr Tryz.underlying148 Tryz.sizeOf150 rfl rfl om_) ?_ | refine Pa (y_index_slc Tryz.underlying148 Tryz.sizeOf150 rfl rfl fd_ om_) ?_
  refine Pa (Ga Tryz.underlying150 Tryz.sizeOf36) ?_
  refine Pa ((y_load_ro o36 rfl hn0)) ?_
  refine Pa (y_eql rfl rfl) ?_
  refine Pm ?_
  refine Pk ?_
  refine Pk ?_
  refine Pk ?_
  refine Pa (y_pick_f rfl rfl) ?_
  refine Ps ?_
  refine rj_nil (hK6 _ _ _ ?_)
  refine cj_env (eL 0 rfl (eL 5 rfl (eL 24 rfl eN))) ?_
  refine cj_cond_f rfl (cj_seq fun K7 hK7 => cj_region ?_)
  refine Pm ?_
  first | refine Pa (y_indexAddr Tryz.underlying148 Tryz.sizeOf150 rfl rfl om_) ?_ | refine Pa (y_index_slc Tryz.underlying148 Tryz.sizeOf150 rfl rfl fd_ om_) ?_
  refine Pa (Ga Tryz.underlying150 Tryz.sizeOf36) ?_
  refine Pa ((y_load_ro o36 rfl hn0)) ?_
  refine Pa (y_eql rfl rfl) ?_
  refine Pm ?_
  refine Pb (y_move rfl) ?_
  refine rj_buildSlice (sz := 1) (wn1 rfl rfl rfl rfl) rfl Tryz.underlying187 Tryz.sizeOf3 Tryz.zeroValue3 rfl rfl rfl (by decide) (by decide) (fun b59 => ?_)
  refine rj_freeze (e := 3) (sz := 1) (n := 3) (v := .slice (some ⟨b59, 0, none⟩) 3 3) (xs := intsV [0, 0, 2]) fd_ (fun R4 hR4 hfr hxl => ?_)
  refine Pb (Ca Tryz.call104 (shape_q _ _ _ (hl.mono hR4) [0, 0, 2] _ (intsFr (l := [0, 0, 2]) hfr))) ?_
  refine rj_eq 60 rfl (v' := .bool true) (by simp [numN, strN, listN, Nd.kind]) ?_
  refine Pa (y_pick_t rfl rfl) ?_
  refine Ps ?_
  refine rj_nil (hK7 _ _ _ (cj_cond_t rfl (cj_seq fun K8 hK8 => cj_region ?_)))
  refine Pm ?_
  first | refine Pa (y_indexAddr Tryz.underlying148 Tryz.sizeOf150 rfl rfl om_) ?_ | refine Pa (y_index_slc Tryz.underlying148 Tryz.sizeOf150 rfl rfl fd_ om_) ?_
  refine Pa ((y_loads_ro m150 (vs := [.int .i64 2, .int .u64 0, .string (str []), .slice q2 (m.map entN).length cap2]) rfl rfl (fun j u hj => cell_mono hR4 (hcell2 j u hj)))) ?_
  refine Ra Tryz.call105 (entries_t m _ (hr2.mono hR4) (fun e he => (h3 e he).1) h4) ?_
  rintro r R5 L' hR5 ⟨⟨vm, rfl, hvm⟩, rfl⟩
  try simp only [cA, nA]
  refine Pm ?_
  refine Pa (y_extract rfl rfl) ?_
  refine Pa (y_extract rfl rfl) ?_
  refine Ps ?_
  refine Ps ?_
  refine rj_nil (hK8 _ _ _ ?_)
  refine cj_env (eL 0 rfl (eL 5 rfl (eL 6 rfl (eL 7 rfl eN)))) ?_
  refine cj_seq fun K9 hK9 => cj_seq fun K10 hK10 => ?_
  refine cj_draw (by kernel_rfl) (by kernel_rfl) ?_
  refine Qa (y_move rfl) ?_
  refine Qa (y_not rfl) ?_
  refine Qa (y_move rfl) ?_
  refine Qb (y_move rfl) ?_
  first | refine Qb (y_indexAddr Tryz.underlying148 Tryz.sizeOf150 rfl rfl om_) ?_ | refine Qb (y_index_slc Tryz.underlying148 Tryz.sizeOf150 rfl rfl fd_ om_) ?_
  refine Qb (Ga Tryz.underlying150 Tryz.sizeOf36) ?_
  refine Qb ((y_load_ro o36 rfl (cell_mono (Hp.le_trans hR4 hR5) hn1))) ?_
  refine Qb (y_move rfl) ?_
  refine Qb (y_nilCheck rfl) ?_
  refine Qb (Ga Tryz.underlying111 Tryz.sizeOf36) ?_
  first | refine Qb (La o36) ?_ | refine Qb (Ls o36) ?_
  refine Qb ((Yld.to (u := .bool false) (y_lss rfl rfl) (by rw [decide_eq_false (by omega)]))) ?_
  refine Qa (y_pick_f rfl rfl) ?_
  refine Qa (y_move rfl) ?_
  refine Qb (y_move rfl) ?_
  first | refine Qb (y_indexAddr Tryz.underlying148 Tryz.sizeOf150 rfl rfl om_) ?_ | refine Qb (y_index_slc Tryz.underlying148 Tryz.sizeOf150 rfl rfl fd_ om_) ?_
  refine Qb (Ga Tryz.underlying150 Tryz.sizeOf36) ?_
  refine Qb ((y_load_ro o36 rfl (cell_mono (Hp.le_trans hR4 hR5) hn1))) ?_
  refine Qb (y_move rfl) ?_
  refine Qb (Ca Tryz.call60 (lgLast_q b d va g hg (hva.mono (Hp.le_trans hR4 hR5)))) ?_
  refine Qb ((Yld.to (u := .bool false) (y_gtr rfl rfl) (by rw [decide_eq_false (by omega)]))) ?_
  refine Qa (y_pick_f rfl rfl) ?_
  refine qj_nil ?_
  refine hK10 _ _ _ ?_
  refine cj_env (eL 0 rfl (eL 5 rfl (eL 6 rfl (eL 90 rfl eN)))) ?_
  refine cj_cond_f rfl (cj_skip (hK9 _ _ _ (cj_seq fun K11 hK11 => cj_region ?_)))
  refine Pm ?_
  refine Pm ?_
  first | refine Pa (y_indexAddr Tryz.underlying148 Tryz.sizeOf150 rfl rfl om_) ?_ | refine Pa (y_index_slc Tryz.underlying148 Tryz.sizeOf150 rfl rfl fd_ om_) ?_
  refine Pa (Ga Tryz.underlying150 Tryz.sizeOf36) ?_
  refine Pa ((y_load_ro o36 rfl (cell_mono (Hp.le_trans hR4 hR5) hn1))) ?_
  refine Pm ?_
  refine Ra Tryz.call106 (lgAdd0_t b d va vm g i m hg ⟨h1, h2⟩ (hva.mono (Hp.le_trans hR4 hR5)) hvm (by omega)) ?_
  rintro r R6 L' hR6 ⟨va2, hva2, rfl⟩
  try simp only [cA, nA]
  refine rj_nil (hK11 _ _ _ ?_)
  refine cj_env eN ?_
  refine cj_seq fun K12 hK12 => cj_region ?_
  refine Ps ?_
  refine rj_nil (hK12 _ _ _ (cj_ret (hret _ _ _ ?_)))
  refine Ea Tryz.results83 (.cons (rv_tmp rfl) .nil) [lgB b d va2 (g.play (.add i m))] (by exact Hp.le_trans hR4 (Hp.le_trans hR5 hR6)) ?_
  exact ⟨rfl, va2, hva2, rfl⟩
theorem replayAll_t {R : Hp} (b : Nat) (d : Option Addr) (va : Value) (g h : LG) (hh : h.ok) (hvo : va.oneCell' = true) (cx : List Value) (hx : RepN R (Rec.all h).nd cx) :
    Tri Tryz.prog 83 [.pointer (some ⟨b, 0, none⟩), .agg ⟨cx⟩] R [lgB b d va g] (fun x R' L' => x = .bool true ∧ ∃ va', FrX entE R' (g.play (.all h)).all va' ∧ L' = [lgB b d va' (g.play (.all h))]) := by
  have hb := hh.base
  have hv := hh.vote
  obtain ⟨q, cap, rfl, hl⟩ := RepN.kids (k := 2) (n := 0) (s := []) (l := [numN 2, numN h.term.toNat, numN (h.vote + 1).toNat, numN h.base.toNat, numN h.baseT.toNat, strN h.state, listN h.all]) hx
  obtain ⟨b0, o0, _, rfl, _⟩ := hl.at (i := 0) rfl
  obtain ⟨_, _, _, hk0, hn0, _, _⟩ := hl.kid (i := 0) rfl
  obtain ⟨_, _, _, _, hn1, _, _⟩ := hl.kid (i := 1) rfl
  obtain ⟨_, _, _, _, hn2, _, _⟩ := hl.kid (i := 2) rfl
  obtain ⟨_, _, _, _, hn3, _, _⟩ := hl.kid (i := 3) rfl
  obtain ⟨_, _, _, _, hn4, _, _⟩ := hl.kid (i := 4) rfl
  obtain ⟨_, _, _, _, _, hs5, _⟩ := hl.kid (i := 5) rfl
  obtain ⟨_, _, _, e2, _, hr2, hcell2⟩ := hl.at (i := 6) (x := listN h.all) rfl
  cases e2
  obtain ⟨q2, cap2, rfl, hl2⟩ := RepN.kids (k := 2) (n := 0) (s := []) (l := h.all.map entN) hr2
  rw [(toNat64 hh.term).2] at hn1
  rw [show (((h.vote + 1).toNat : Nat) : Int) = h.vote + 1 by omega] at hn2
  rw [show ((h.base.toNat : Nat) : Int) = h.base by omega] at hn3
  rw [(toNat64 hh.baseT).2] at hn4
  refine tri_of Tryz.func83 rfl Tryz.ntmps83 rfl (fun σ F Q hret hend hpan => ?_)
  try simp only [cA, nA]
  unfold lgB lgC
  refine cj_seq fun K1 hK1 => cj_region ?_
  refine rj_box (wn0 rfl) rfl rfl rfl (fun bx => ?_)
  refine Ps ?_
  refine rj_nil (hK1 _ _ _ (cj_seq fun K2 hK2 => cj_seq fun K3 hK3 => cj_region ?_))
  refine Pa (Ga Tryz.underlying150 Tryz.sizeOf148) ?_
  first | refine Pa (La o148) ?_ | refine Pa (Ls o148) ?_
  first | refine Pa (y_len_sl Tryz.underlying148 rfl) ?_ | refine Pa (y_len_slc Tryz.underlying148 rfl fd_) ?_
  refine Pa (y_eql rfl rfl) ?_
  refine Pm ?_
  refine Pb (Ga Tryz.underlying150 Tryz.sizeOf148) ?_
  first | refine Pb (La o148) ?_ | refine Pb (Ls o148) ?_
  first | refine Pb (y_indexAddr Tryz.underlying148 Tryz.sizeOf150 rfl rfl om_) ?_ | refine Pb (y_index_slc Tryz.underlying148 Tryz.sizeOf150 rfl rfl fd_ om_) ?_
  refine Pb (Ga Tryz.underlying150 Tryz.sizeOf3) ?_
  refine Pb ((y_load_ro o3 rfl hk0)) ?_
  refine Pb (y_neq rfl rfl) ?_
  refine Pa (y_pick_f rfl rfl) ?_
  refine rj_nil (hK3 _ _ _ (cj_cond_f rfl (cj_skip (hK2 _ _ _ (cj_seq fun K4 hK4 => cj_region ?_)))))
  refine Pa (Ga Tryz.underlying150 Tryz.sizeOf148) ?_
  first | refine Pa (La o148) ?_ | refine Pa (Ls o148) ?_
  refine Ps ?_
  refine rj_nil (hK4 _ _ _ (cj_seq fun K5 hK5 => cj_block (cj_seq fun K6 hK6 => cj_region ?_)))
  refine Pm ?_
  first | refine Pa (y_indexAddr Tryz.underlying148 Tryz.sizeOf150 rfl rfl om_) ?_ | refine Pa (y_index_slc Tryz.underlying148 Tryz.sizeOf150 rfl rfl fd_ om_) ?_
  refine Pa (Ga Tryz.underlying150 Tryz.sizeOf36) ?_
  refine Pa ((y_load_ro o36 rfl hn0)) ?_
  refine Pa (y_eql rfl rfl) ?_
  refine Pm ?_
  refine Pk ?_
  refine Pk ?_
  refine Pk ?_
  refine Pa (y_pick_f rfl rfl) ?_
  refine Ps ?_
  refine rj_nil (hK6 _ _ _ ?_)
  refine cj_env (eL 0 rfl (eL 5 rfl (eL 24 rfl eN))) ?_
  refine cj_cond_f rfl (cj_seq fun K7 hK7 => cj_region ?_)
  refine Pm ?_
  first | refine Pa (y_indexAddr Tryz.underlying148 Tryz.sizeOf150 rfl rfl om_) ?_ | refine Pa (y_index_slc Tryz.underlying148 Tryz.sizeOf150 rfl rfl fd_ om_) ?_
  refine Pa (Ga Tryz.underlying150 Tryz.sizeOf36) ?_
  refine Pa ((y_load_ro o36 rfl hn0)) ?_
  refine Pa (y_eql rfl rfl) ?_
  refine Pm ?_
  refine Pk ?_
  refine Pk ?_
  refine Pk ?_
  refine Pa (y_pick_f rfl rfl) ?_
  refine Ps ?_
  refine rj_nil (hK7 _ _ _ (cj_cond_f rfl (cj_seq fun K8 hK8 => cj_region ?_)))
  refine Pm ?_
  first | refine Pa (y_indexAddr Tryz.underlying148 Tryz.sizeOf150 rfl rfl om_) ?_ | refine Pa (y_index_slc Tryz.underlying148 Tryz.sizeOf150 rfl rfl fd_ om_) ?_
  refine Pa (Ga Tryz.underlying150 Tryz.sizeOf36) ?_
  refine Pa ((y_load_ro o36 rfl hn0)) ?_
  refine Pa (y_eql rfl rfl) ?_
  refine Pm ?_
  refine Pb (y_move rfl) ?_
  refine rj_buildSlice (sz := 1) (wn1 rfl rfl rfl rfl) rfl Tryz.underlying187 Tryz.sizeOf3 Tryz.zeroValue3 rfl rfl rfl (by decide) (by decide) (fun b106 => ?_)
  refine rj_freeze (e := 3) (sz := 1) (n := 7) (v := .slice (some ⟨b106, 0, none⟩) 7 7) (xs := intsV [0, 0, 0, 0, 0, 1, 2]) fd_ (fun R4 hR4 hfr hxl => ?_)
  refine Pb (Ca Tryz.call104 (shape_q _ _ _ (hl.mono hR4) [0, 0, 0, 0, 0, 1, 2] _ (intsFr (l := [0, 0, 0, 0, 0, 1, 2]) hfr))) ?_
  refine rj_eq 107 rfl (v' := .bool true) (by simp [numN, strN, listN, Nd.kind]) ?_
  refine Pa (y_pick_t rfl rfl) ?_
  refine Ps ?_
  refine rj_nil (hK8 _ _ _ ?_)
  refine cj_env (eL 0 rfl (eL 5 rfl (eL 98 rfl eN))) ?_
  refine cj_cond_t rfl (cj_seq fun K9 hK9 => cj_region ?_)
  refine Pm ?_
  first | refine Pa (y_indexAddr Tryz.underlying148 Tryz.sizeOf150 rfl rfl om_) ?_ | refine Pa (y_index_slc Tryz.underlying148 Tryz.sizeOf150 rfl rfl fd_ om_) ?_
  refine Pa ((y_loads_ro m150 (vs := [.int .i64 2, .int .u64 0, .string (str []), .slice q2 (h.all.map entN).length cap2]) rfl rfl (fun j u hj => cell_mono hR4 (hcell2 j u hj)))) ?_
  refine Ra Tryz.call105 (entries_t h.all _ (hr2.mono hR4) (fun e he => (hh.all e he).1) hh.alln) ?_
  rintro r R5 L' hR5 ⟨⟨vm, rfl, hvm⟩, rfl⟩
  try simp only [cA, nA]
  refine Pm ?_
  refine Pa (y_extract rfl rfl) ?_
  refine Pa (y_extract rfl rfl) ?_
  refine Ps ?_
  refine Ps ?_
  refine rj_nil (hK9 _ _ _ (cj_seq fun K10 hK10 => ?_))
  have hvmo := hvm.one
  have hR45 := Hp.le_trans hR4 hR5
  refine cj_mixg (L := []) [0, 1, 2, 3, 4, 5, 6, 7, 8, 9, 10, 11, 12, 13, 14, 15, 16, 17, 18, 19, 20, 21, 22, 23, 24, 25, 26, 27, 28, 29, 30] [31, 32, 33, 34, 35, 36, 37, 38, 39, 40, 41, 42, 43] [44, 45, 46] _ sb_ (by kernel_rfl) (by kernel_rfl) (by kernel_rfl) rfl ?_
  refine Wa rfl (fun R1 hR1 G => (y_move rfl)) ?_
  refine Wa rfl (fun R1 hR1 G => (y_move rfl)) ?_
  refine Wa rfl (fun R1 hR1 G => (y_move rfl)) ?_
  refine Wa rfl (fun R1 hR1 G => (y_move rfl)) ?_
  refine Wa rfl (fun R1 hR1 G => (y_move rfl)) ?_
  refine Wa rfl (fun R1 hR1 G => (y_move rfl)) ?_
  refine Wa rfl (fun R1 hR1 G => (y_move rfl)) ?_
  first | refine Wa rfl (fun R1 hR1 G => (y_indexAddr Tryz.underlying148 Tryz.sizeOf150 rfl rfl om_)) ?_ | refine Wa rfl (fun R1 hR1 G => (y_index_slc Tryz.underlying148 Tryz.sizeOf150 rfl rfl fd_ om_)) ?_
  refine Wa rfl (fun R1 hR1 G => (Ga Tryz.underlying150 Tryz.sizeOf36)) ?_
  refine Wa rfl (fun R1 hR1 G => (y_load_ro o36 rfl (cell_mono (Hp.le_trans hR45 hR1) hn1))) ?_
  refine Wa rfl (fun R1 hR1 G => (y_move rfl)) ?_
  first | refine Wa rfl (fun R1 hR1 G => (y_indexAddr Tryz.underlying148 Tryz.sizeOf150 rfl rfl om_)) ?_ | refine Wa rfl (fun R1 hR1 G => (y_index_slc Tryz.underlying148 Tryz.sizeOf150 rfl rfl fd_ om_)) ?_
  refine Wa rfl (fun R1 hR1 G => (Ga Tryz.underlying150 Tryz.sizeOf36)) ?_
  refine Wa rfl (fun R1 hR1 G => (y_load_ro o36 rfl (cell_mono (Hp.le_trans hR45 hR1) hn2))) ?_
  refine Wa rfl (fun R1 hR1 G => (y_conv_in Tryz.underlying36 Tryz.underlying3 rfl (by (simp only [IntKind.min, IntKind.max, IntKind.signed, IntKind.bits, Bool.false_eq_true, ite_false, ite_true]; omega)))) ?_
  refine Wa rfl (fun R1 hR1 G => (Yld.to (y_sub64 rfl rfl (by omega)) (u := .int .i64 h.vote) (by rw [show h.vote + 1 - 1 = h.vote by omega]))) ?_
  refine Wa rfl (fun R1 hR1 G => (y_move rfl)) ?_
  first | refine Wa rfl (fun R1 hR1 G => (y_indexAddr Tryz.underlying148 Tryz.sizeOf150 rfl rfl om_)) ?_ | refine Wa rfl (fun R1 hR1 G => (y_index_slc Tryz.underlying148 Tryz.sizeOf150 rfl rfl fd_ om_)) ?_
  refine Wa rfl (fun R1 hR1 G => (Ga Tryz.underlying150 Tryz.sizeOf36)) ?_
  refine Wa rfl (fun R1 hR1 G => (y_load_ro o36 rfl (cell_mono (Hp.le_trans hR45 hR1) hn3))) ?_
  refine Wa rfl (fun R1 hR1 G => (y_move rfl)) ?_
  first | refine Wa rfl (fun R1 hR1 G => (y_indexAddr Tryz.underlying148 Tryz.sizeOf150 rfl rfl om_)) ?_ | refine Wa rfl (fun R1 hR1 G => (y_index_slc Tryz.underlying148 Tryz.sizeOf150 rfl rfl fd_ om_)) ?_
  refine Wa rfl (fun R1 hR1 G => (Ga Tryz.underlying150 Tryz.sizeOf36)) ?_
  refine Wa rfl (fun R1 hR1 G => (y_load_ro o36 rfl (cell_mono (Hp.le_trans hR45 hR1) hn4))) ?_
  refine Wa rfl (fun R1 hR1 G => (y_move rfl)) ?_
  first | refine Wa rfl (fun R1 hR1 G => (y_indexAddr Tryz.underlying148 Tryz.sizeOf150 rfl rfl om_)) ?_ | refine Wa rfl (fun R1 hR1 G => (y_index_slc Tryz.underlying148 Tryz.sizeOf150 rfl rfl fd_ om_)) ?_
  refine Wa rfl (fun R1 hR1 G => (Ga Tryz.underlying150 Tryz.sizeOf9)) ?_
  refine Wa rfl (fun R1 hR1 G => (y_load_ro o9 rfl (cell_mono (Hp.le_trans hR45 hR1) hs5))) ?_
  refine Wa rfl (fun R1 hR1 G => (y_move rfl)) ?_
  refine Wa rfl (fun R1 hR1 G => (y_nilCheck rfl)) ?_
  refine Wa rfl (fun R1 hR1 G => (Ga Tryz.underlying111 Tryz.sizeOf36)) ?_
  refine fj_nil ?_
  refine xj_rj rfl ?_
  try simp only [cA, nA, List.append_nil]
  refine Sa o36 ?_
  refine rj_xk le_ sb_ ?_
  refine xj_rj rfl ?_
  try simp only [cA, nA, List.append_nil]
  refine Pa (y_nilCheck rfl) ?_
  refine rj_xk le_ sb_ ?_
  refine xj_rj rfl ?_
  try simp only [cA, nA, List.append_nil]
  refine Pa (Ga Tryz.underlying111 Tryz.sizeOf3) ?_
  refine rj_xk le_ sb_ ?_
  refine xj_rj rfl ?_
  try simp only [cA, nA, List.append_nil]
  refine Sa o3 ?_
  refine rj_xk le_ sb_ ?_
  refine xj_rj rfl ?_
  try simp only [cA, nA, List.append_nil]
  refine Pa (y_nilCheck rfl) ?_
  refine rj_xk le_ sb_ ?_
  refine xj_rj rfl ?_
  try simp only [cA, nA, List.append_nil]
  refine Pa (Ga Tryz.underlying111 Tryz.sizeOf36) ?_
  refine rj_xk le_ sb_ ?_
  refine xj_rj rfl ?_
  try simp only [cA, nA, List.append_nil]
  refine Sa o36 ?_
  refine rj_xk le_ sb_ ?_
  refine xj_rj rfl ?_
  try simp only [cA, nA, List.append_nil]
  refine Pa (y_nilCheck rfl) ?_
  refine rj_xk le_ sb_ ?_
  refine xj_rj rfl ?_
  try simp only [cA, nA, List.append_nil]
  refine Pa (Ga Tryz.underlying111 Tryz.sizeOf36) ?_
  refine rj_xk le_ sb_ ?_
  refine xj_rj rfl ?_
  try simp only [cA, nA, List.append_nil]
  refine Sa o36 ?_
  refine rj_xk le_ sb_ ?_
  refine xj_rj rfl ?_
  try simp only [cA, nA, List.append_nil]
  refine Pa (y_nilCheck rfl) ?_
  refine rj_xk le_ sb_ ?_
  refine xj_rj rfl ?_
  try simp only [cA, nA, List.append_nil]
  refine Pa (Ga Tryz.underlying111 Tryz.sizeOf9) ?_
  refine rj_xk le_ sb_ ?_
  refine xj_rj rfl ?_
  try simp only [cA, nA, List.append_nil]
  refine Sa o9 ?_
  refine rj_xk le_ sb_ ?_
  refine xj_nil ?_
  try simp only [cA, nA, List.append_nil]
  refine Pa (y_nilCheck rfl) ?_
  refine Pa (Ga Tryz.underlying111 Tryz.sizeOf76) ?_
  refine Sa o76 ?_
  refine rj_nil (hK10 _ _ _ ?_)
  refine cj_env (eL 9 rfl eN) ?_
  refine cj_seq fun K11 hK11 => cj_region ?_
  refine Pm ?_
  refine Ps ?_
  refine rj_nil (hK11 _ _ _ (cj_ret (hret _ _ _ ?_)))
  refine Ea Tryz.results83 (.cons (rv_tmp rfl) .nil) [lgB b d vm (g.play (.all h))] (by exact Hp.le_trans hR4 hR5) ?_
  exact ⟨rfl, vm, hvm, rfl⟩
theorem replay_t {R : Hp} (b : Nat) (d : Option Addr) (va : Value) (g : LG) (r : Rec) (hg : g.ok) (hm : r.may g) (hva : FrX entE R g.all va) (cx : List Value) (hx : RepN R r.nd cx) :
    Tri Tryz.prog 83 [.pointer (some ⟨b, 0, none⟩), .agg ⟨cx⟩] R [lgB b d va g] (fun x R' L' => x = .bool true ∧ ∃ va', FrX entE R' (g.play r).all va' ∧ L' = [lgB b d va' (g.play r)]) := by
  cases r with
  | term t v => exact Tri.mono (replayTerm_t b d va g t v hm cx hx) (fun _ _ _ hR h => ⟨h.1, va, hva.mono hR, h.2⟩) (fun _ _ _ _ h => h)
  | add i m => exact replayAdd_t b d va g i m hg hm hva cx hx
  | all h => exact replayAll_t b d va g h hm hva.one cx hx
end V
end Go.Proofs.YtenfjpigffjgmaaGreat
