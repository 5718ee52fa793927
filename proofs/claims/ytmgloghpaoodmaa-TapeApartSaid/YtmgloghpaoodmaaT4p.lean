/- Plain facts on tapes: no program in sight. -/
import Derived.Test.YtmgloghpaoodmaaV5
set_option linter.unusedSimpArgs false
set_option linter.unusedVariables false
namespace Go.Proofs.Ytmgloghpaoodmaa
open Go.RowKit
namespace V
/-- what Take does -/
def takeM (s : List UInt8) (k n : Int) : List UInt8 × Int × Int :=
  if n < 0 then ([], 1, k) else if s.length - k < n then ([], 2, k) else ((s.drop k.toNat).take n.toNat, 0, k + n)
/-- a number out of bytes -/
def wordOf (l : List UInt8) : Int := l.foldl (fun (x : Int) b => x * 256 + (b.toNat : Int)) 0
/-- what Below does -/
def belowM (s : List UInt8) (k m : Int) : Int × Int × Int :=
  if m < 1 ∨ 2147483648 < m then (0, 1, k) else
  if (takeM s k 8).2.1 = 0 then ((wordOf (takeM s k 8).1) % m, 0, (takeM s k 8).2.2) else (0, (takeM s k 8).2.1, (takeM s k 8).2.2)
theorem wordOf_snoc (l : List UInt8) (b : UInt8) : wordOf (l ++ [b]) = wordOf l * 256 + (b.toNat : Int) := by simp [wordOf]
theorem take_succ_getD (l : List UInt8) (i : Nat) (h : i < l.length) : l.take (i + 1) = l.take i ++ [l.getD i 0] := by
  rw [List.take_succ_eq_append_getElem h, List.getD_eq_getElem?_getD, List.getElem?_eq_getElem h]; rfl
theorem wordOf_bd (l : List UInt8) : 0 ≤ wordOf l ∧ wordOf l < 256 ^ l.length := by
  suffices h : ∀ (l : List UInt8) (x : Int) (n : Nat), 0 ≤ x → x < 256 ^ n → 0 ≤ l.foldl (fun (x : Int) b => x * 256 + (b.toNat : Int)) x ∧ l.foldl (fun (x : Int) b => x * 256 + (b.toNat : Int)) x < 256 ^ (n + l.length) by
    have := h l 0 0 (by omega) (by decide)
    simpa [wordOf] using this
  intro l
  induction l with
  | nil => intro x n h0 h1; exact ⟨h0, h1⟩
  | cons b l ih =>
    intro x n h0 h1
    have hb := b.toNat_lt
    have := ih (x * 256 + (b.toNat : Int)) (n + 1) (by omega) (by rw [Int.pow_succ]; omega)
    rw [List.length_cons, show n + (l.length + 1) = n + 1 + l.length by omega]
    exact this
theorem or_word (x b : Int) (h0 : 0 ≤ x) (h1 : x < 72057594037927936) (hb : 0 ≤ b ∧ b < 256) : bitOr .u64 (IntKind.u64.wrap (x * 2 ^ min (8 : Int).toNat IntKind.u64.bits)) b = x * 256 + b := by
  obtain ⟨m, rfl⟩ := Int.eq_ofNat_of_zero_le h0
  obtain ⟨n, rfl⟩ := Int.eq_ofNat_of_zero_le hb.1
  have e : ((m : Int) * 2 ^ min (8 : Int).toNat IntKind.u64.bits) = ((m * 256 : Nat) : Int) := by
    have : min (8 : Int).toNat IntKind.u64.bits = 8 := by decide
    rw [this]; simp
  rw [e, wrap_u64_in (by omega)]
  have h : (BitVec.ofInt 64 ((m * 256 : Nat) : Int) ||| BitVec.ofInt 64 (n : Int)).toNat = m * 256 + n := by
    simp only [BitVec.ofInt_natCast, BitVec.toNat_or, BitVec.toNat_ofNat]
    rw [Nat.mod_eq_of_lt (by omega), Nat.mod_eq_of_lt (by omega)]
    have := Nat.two_pow_add_eq_or_of_lt (i := 8) (b := n) (by omega) m
    rw [Nat.mul_comm m 256]
    simpa using this.symm
  have h' : bitOr .u64 ((m * 256 : Nat) : Int) (n : Int) = IntKind.u64.wrap ((m * 256 + n : Nat) : Int) := by rw [← h]; rfl
  rw [h', wrap_u64_in (by omega)]
  simp
theorem takeM_len {s : List UInt8} {k n : Int} (h : (takeM s k n).2.1 = 0) (hk : 0 ≤ k) : (takeM s k n).1.length = n.toNat := by
  unfold takeM at *
  split at h
  · cases h
  · rw [if_neg ‹_›]
    split at h
    · cases h
    · rw [if_neg ‹_›]; simp; omega
theorem wordOf_step (q : List UInt8) (i : Nat) (hq : q.length = 8) (h : i < 8) :
    wordOf (q.take (i + 1)) = bitOr .u64 (IntKind.u64.wrap (wordOf (q.take i) * 2 ^ min (8 : Int).toNat IntKind.u64.bits)) (byteAt q i) := by
  rw [take_succ_getD q i (by omega), wordOf_snoc]
  have hb := wordOf_bd (q.take i)
  have hl : (q.take i).length ≤ 7 := by simp; omega
  have hp : (256 : Int) ^ (q.take i).length ≤ ((256 ^ 7 : Nat) : Int) := by
    have := Nat.pow_le_pow_right (n := 256) (by decide) hl
    rw [show ((256 : Int) ^ (q.take i).length) = ((256 ^ (q.take i).length : Nat) : Int) from (Int.natCast_pow 256 _).symm]
    exact Int.ofNat_le.2 this
  rw [or_word _ _ hb.1 (by have e7 : (256 ^ 7 : Nat) = 72057594037927936 := by decide
                           rw [e7] at hp; omega) (byteAt_bd q i)]
  rfl
theorem modw_step (q : List UInt8) (i : Nat) (m : Int) (hq : q.length = 8) (h : i < 8) (hm : 1 ≤ m) :
    wordOf (q.take (i + 1)) % m = (wordOf (q.take i) % m * 256 + byteAt q i).tmod m := by
  have r0 := Int.emod_nonneg (wordOf (q.take i)) (b := m) (by omega)
  have r2 := byteAt_bd q i
  rw [Int.tmod_eq_emod_of_nonneg (by omega), take_succ_getD q i (by omega), wordOf_snoc]
  show (_ + byteAt q i) % m = _
  rw [Int.add_emod, Int.mul_emod]
  conv => rhs; rw [Int.add_emod, Int.mul_emod, Int.emod_emod_of_dvd _ (Int.dvd_refl m)]
end V
end Go.Proofs.Ytmgloghpaoodmaa
