/- The laws of layer 4 walked: what they find true. -/
import Derived.Test.YtmgloghpaoodmaaT4a
import Derived.Test.YtmgloghpaoodmaaR0
set_option linter.unusedSimpArgs false
set_option linter.unusedVariables false
namespace Go.Proofs.Ytmgloghpaoodmaa
open Go.RowKit
namespace V
set_option maxHeartbeats 1000000
theorem takeM_k {s : List UInt8} {k n : Int} (h : 0 ≤ k ∧ k ≤ s.length) : 0 ≤ (takeM s k n).2.2 ∧ (takeM s k n).2.2 ≤ s.length := by
  unfold takeM; split
  · exact h
  · split
    · exact h
    · exact ⟨by simp only; omega, by simp only; omega⟩
theorem takeM_ok {s : List UInt8} {k n : Int} (h : (takeM s k n).2.1 = 0) : 0 ≤ n ∧ (takeM s k n).1 = (s.drop k.toNat).take n.toNat ∧ k + n ≤ s.length ∧ (takeM s k n).2.2 = k + n := by
  unfold takeM at *
  split at h
  · cases h
  · rw [if_neg ‹_›]
    split at h
    · cases h
    · rw [if_neg ‹_›]; exact ⟨by omega, rfl, by omega, rfl⟩
theorem takeM_two {s : List UInt8} {k n : Int} (h : (takeM s k n).2.1 = 2) : s.length - k < n ∧ (takeM s k n).1 = [] ∧ takeM s k n = ([], 2, k) := by
  unfold takeM at *
  split at h
  · cases h
  · rw [if_neg ‹_›]
    split at h
    · rw [if_pos ‹_›]; exact ⟨by omega, rfl, rfl⟩
    · cases h
theorem takeM_in {s : List UInt8} {k n : Int} (h : 0 ≤ n ∧ n ≤ s.length - k) : takeM s k n = ((s.drop k.toNat).take n.toNat, 0, k + n) := by
  unfold takeM; rw [if_neg (by omega), if_neg (by omega)]
theorem takeM_zero {s : List UInt8} {k n : Int} (h : ¬ (takeM s k n).2.1 = 2) (hn : 0 ≤ n) : (takeM s k n).2.1 = 0 := by
  unfold takeM at *; rw [if_neg (by omega)] at *
  split
  · rw [if_pos ‹_›] at h; exact absurd rfl h
  · rfl
theorem take_all (s : List UInt8) {k n : Int} (hk : 0 ≤ k) (h : 0 ≤ n ∧ (takeM s k n).1 = (s.drop k.toNat).take n.toNat ∧ k + n ≤ s.length ∧ (takeM s k n).2.2 = k + n) :
    s.take k.toNat ++ (takeM s k n).1 = s.take (takeM s k n).2.2.toNat := by
  rw [h.2.1, h.2.2.2, show (k + n).toNat = k.toNat + n.toNat by omega, List.take_add]
theorem eight {R : Hp} {cs : List Value} {bs : List Int} (h : arrR 8 1 (intR .u8) R cs bs) : ∃ x0 x1 x2 x3 x4 x5 x6 x7 : UInt8, bs = [(x0.toNat : Int), (x1.toNat : Int), (x2.toNat : Int), (x3.toNat : Int), (x4.toNat : Int), (x5.toNat : Int), (x6.toNat : Int), (x7.toNat : Int)] ∧
    cs = [.int .u8 (x0.toNat : Int), .int .u8 (x1.toNat : Int), .int .u8 (x2.toNat : Int), .int .u8 (x3.toNat : Int), .int .u8 (x4.toNat : Int), .int .u8 (x5.toNat : Int), .int .u8 (x6.toNat : Int), .int .u8 (x7.toNat : Int)] := by
  obtain ⟨hc, hb, h⟩ := h
  match cs, hc with
  | [c0, c1, c2, c3, c4, c5, c6, c7], _ =>
    match bs, hb with
    | [b0, b1, b2, b3, b4, b5, b6, b7], _ =>
      have key : ∀ (c : Value) (b : Int), [c] = [Value.int .u8 b] ∧ IntKind.u8.min ≤ b ∧ b ≤ IntKind.u8.max → ∃ x : UInt8, b = (x.toNat : Int) ∧ c = .int .u8 (x.toNat : Int) := by
        intro c b ⟨e, h1, h2⟩
        have h1' : 0 ≤ b := h1
        have h2' : b ≤ 255 := h2
        refine ⟨UInt8.ofNat b.toNat, ?_, ?_⟩
        · simp; omega
        · simp only [List.cons.injEq, and_true] at e
          rw [e]; congr 1; simp; omega
      obtain ⟨x0, e0, f0⟩ := key c0 b0 (h 0 (by simp))
      obtain ⟨x1, e1, f1⟩ := key c1 b1 (h 1 (by simp))
      obtain ⟨x2, e2, f2⟩ := key c2 b2 (h 2 (by simp))
      obtain ⟨x3, e3, f3⟩ := key c3 b3 (h 3 (by simp))
      obtain ⟨x4, e4, f4⟩ := key c4 b4 (h 4 (by simp))
      obtain ⟨x5, e5, f5⟩ := key c5 b5 (h 5 (by simp))
      obtain ⟨x6, e6, f6⟩ := key c6 b6 (h 6 (by simp))
      obtain ⟨x7, e7, f7⟩ := key c7 b7 (h 7 (by simp))
      subst e0 f0 e1 f1 e2 f2 e3 f3 e4 f4 e5 f5 e6 f6 e7 f7
      exact ⟨x0, x1, x2, x3, x4, x5, x6, x7, rfl, rfl⟩
theorem eight_cell {x0 x1 x2 x3 x4 x5 x6 x7 u : UInt8} {j : Nat} (h : [x0, x1, x2, x3, x4, x5, x6, x7][j]? = some u) :
    [Value.int .u8 (x0.toNat : Int), .int .u8 (x1.toNat : Int), .int .u8 (x2.toNat : Int), .int .u8 (x3.toNat : Int), .int .u8 (x4.toNat : Int), .int .u8 (x5.toNat : Int), .int .u8 (x6.toNat : Int), .int .u8 (x7.toNat : Int)][j]? = some (.int .u8 (u.toNat : Int)) := by
  have e : ([x0, x1, x2, x3, x4, x5, x6, x7].map fun x => Value.int .u8 (x.toNat : Int))[j]? = some (.int .u8 (u.toNat : Int)) := by rw [List.getElem?_map, h]; rfl
  exact e
theorem shl_one (m : Int) (h : 0 ≤ m ∧ m ≤ 31) : IntKind.i64.wrap (1 * 2 ^ min m.toNat IntKind.i64.bits) = 2 ^ m.toNat := by
  obtain ⟨k, rfl⟩ := Int.eq_ofNat_of_zero_le h.1
  have hk : k ≤ 31 := by omega
  have : min (Int.toNat (k : Int)) IntKind.i64.bits = k := by simp only [IntKind.bits]; omega
  rw [this, Int.one_mul, Int.toNat_natCast]
  have hp : (2 : Nat) ^ k ≤ 2 ^ 31 := Nat.pow_le_pow_right (by decide) hk
  have e : ((2 : Int) ^ k) = ((2 ^ k : Nat) : Int) := (Int.natCast_pow 2 k).symm
  rw [e]
  have e31 : (2 : Nat) ^ 31 = 2147483648 := by decide
  have hp1 : 1 ≤ (2 : Nat) ^ k := Nat.one_le_two_pow
  exact wrap_i64_in (n := ((2 ^ k : Nat) : Int)) ⟨by omega, by omega⟩
theorem below_pow (bs : List UInt8) (m : Int) (hb : bs.length = 8) (h : 0 ≤ m ∧ m ≤ 31) : belowM bs 0 (2 ^ m.toNat) = (wordOf bs % 2 ^ m.toNat, 0, 8) := by
  obtain ⟨k, rfl⟩ := Int.eq_ofNat_of_zero_le h.1
  have hk : k ≤ 31 := by omega
  simp only [Int.toNat_natCast]
  have hp : (2 : Nat) ^ k ≤ 2 ^ 31 := Nat.pow_le_pow_right (by decide) hk
  have hp1 : 1 ≤ (2 : Nat) ^ k := Nat.one_le_two_pow
  have e : ((2 : Int) ^ k) = ((2 ^ k : Nat) : Int) := (Int.natCast_pow 2 k).symm
  have e31 : (2 : Nat) ^ 31 = 2147483648 := by decide
  have ht : takeM bs 0 8 = (bs, 0, 8) := by
    rw [takeM_in ⟨by omega, by omega⟩]
    simp [List.take_of_length_le, hb]
  unfold belowM
  rw [if_neg (by rw [e]; omega), ht]
  rfl
theorem shl_b (x : UInt8) (s : Nat) (z : Int) (hz : z = s) (hs : s ≤ 24) (hz0 : s < 64) : IntKind.i64.wrap ((x.toNat : Int) * 2 ^ min z.toNat IntKind.i64.bits) = ((x.toNat * 2 ^ s : Nat) : Int) := by
  subst hz
  have hx := x.toNat_lt
  have : min (s : Int).toNat IntKind.i64.bits = s := by simp only [IntKind.bits, Int.toNat_natCast]; omega
  rw [this]
  have hp : (2 : Nat) ^ s ≤ 2 ^ 24 := Nat.pow_le_pow_right (by decide) hs
  have e24 : (2 : Nat) ^ 24 = 16777216 := by decide
  have hm : x.toNat * 2 ^ s ≤ 255 * 16777216 := Nat.mul_le_mul (by omega) (by omega)
  have e : ((x.toNat : Int) * 2 ^ s) = ((x.toNat * 2 ^ s : Nat) : Int) := by rw [Int.natCast_mul, Int.natCast_pow]; rfl
  rw [e]
  exact wrap_i64_in ⟨by omega, by omega⟩
theorem or_step (A B s : Nat) (hA : A < 2 ^ s) (h : A + B * 2 ^ s < 9223372036854775808) : bitOr .i64 ((A : Nat) : Int) ((B * 2 ^ s : Nat) : Int) = ((A + B * 2 ^ s : Nat) : Int) := by
  have h2 : (BitVec.ofInt 64 (A : Int) ||| BitVec.ofInt 64 ((B * 2 ^ s : Nat) : Int)).toNat = A + B * 2 ^ s := by
    simp only [BitVec.ofInt_natCast, BitVec.toNat_or, BitVec.toNat_ofNat]
    rw [Nat.mod_eq_of_lt (by omega), Nat.mod_eq_of_lt (by omega)]
    have := Nat.two_pow_add_eq_or_of_lt (i := s) (b := A) hA B
    rw [Nat.mul_comm B, Nat.or_comm, ← this]; omega
  have h3 : bitOr .i64 ((A : Nat) : Int) ((B * 2 ^ s : Nat) : Int) = IntKind.i64.wrap ((A + B * 2 ^ s : Nat) : Int) := by rw [← h2]; rfl
  rw [h3]
  exact wrap_i64_in ⟨by omega, by omega⟩
theorem pow_bd (m : Int) (h : 0 ≤ m ∧ m ≤ 31) : 1 ≤ (2 : Int) ^ m.toNat ∧ (2 : Int) ^ m.toNat ≤ 2147483648 := by
  obtain ⟨k, rfl⟩ := Int.eq_ofNat_of_zero_le h.1
  have hp : (2 : Nat) ^ k ≤ 2 ^ 31 := Nat.pow_le_pow_right (by decide) (by omega)
  have hp1 : 1 ≤ (2 : Nat) ^ k := Nat.one_le_two_pow
  have e31 : (2 : Nat) ^ 31 = 2147483648 := by decide
  have e : ((2 : Int) ^ k) = ((2 ^ k : Nat) : Int) := (Int.natCast_pow 2 k).symm
  simp only [Int.toNat_natCast]
  rw [e]; omega
theorem and_low (A k : Nat) (hA : A < 4294967296) (hk : k ≤ 31) : bitAnd .i64 (A : Int) ((2 : Int) ^ k - 1) = ((A % 2 ^ k : Nat) : Int) := by
  have hp : (2 : Nat) ^ k ≤ 2 ^ 31 := Nat.pow_le_pow_right (by decide) hk
  have hp1 : 1 ≤ (2 : Nat) ^ k := Nat.one_le_two_pow
  have e31 : (2 : Nat) ^ 31 = 2147483648 := by decide
  have e : ((2 : Int) ^ k - 1) = ((2 ^ k - 1 : Nat) : Int) := by rw [Int.natCast_sub hp1, Int.natCast_pow]; rfl
  rw [e]
  have h2 : (BitVec.ofInt 64 (A : Int) &&& BitVec.ofInt 64 ((2 ^ k - 1 : Nat) : Int)).toNat = A % 2 ^ k := by
    simp only [BitVec.ofInt_natCast, BitVec.toNat_and, BitVec.toNat_ofNat]
    rw [Nat.mod_eq_of_lt (by omega), Nat.mod_eq_of_lt (by omega), Nat.and_two_pow_sub_one_eq_mod]
  have hlt : A % 2 ^ k < 2 ^ k := Nat.mod_lt _ (by omega)
  have h3 : bitAnd .i64 (A : Int) ((2 ^ k - 1 : Nat) : Int) = IntKind.i64.wrap ((A % 2 ^ k : Nat) : Int) := by rw [← h2]; rfl
  rw [h3]
  exact wrap_i64_in ⟨by omega, by omega⟩
theorem even_eq (x0 x1 x2 x3 x4 x5 x6 x7 : UInt8) (m : Int) (h : 0 ≤ m ∧ m ≤ 31) :
    bitAnd .i64 ((x7.toNat + x6.toNat * 2 ^ 8 + x5.toNat * 2 ^ 16 + x4.toNat * 2 ^ 24 : Nat) : Int) (2 ^ m.toNat - 1) = wordOf [x0, x1, x2, x3, x4, x5, x6, x7] % 2 ^ m.toNat := by
  obtain ⟨k, rfl⟩ := Int.eq_ofNat_of_zero_le h.1
  simp only [Int.toNat_natCast]
  have h4 := x4.toNat_lt; have h5 := x5.toNat_lt; have h6 := x6.toNat_lt; have h7 := x7.toNat_lt
  rw [and_low _ k (by omega) (by omega)]
  have e : wordOf [x0, x1, x2, x3, x4, x5, x6, x7] = (((x7.toNat + x6.toNat * 2 ^ 8 + x5.toNat * 2 ^ 16 + x4.toNat * 2 ^ 24) + 2 ^ 32 * (x3.toNat + 256 * x2.toNat + 65536 * x1.toNat + 16777216 * x0.toNat) : Nat) : Int) := by
    simp only [wordOf, List.foldl_cons, List.foldl_nil]; omega
  have ep : ((2 : Int) ^ k) = ((2 ^ k : Nat) : Int) := (Int.natCast_pow 2 k).symm
  rw [e, ep, ← Int.natCast_emod]
  congr 1
  obtain ⟨j, hj⟩ : ∃ j, 2 ^ 32 = 2 ^ k * j := ⟨2 ^ (32 - k), by rw [← Nat.pow_add]; congr 1; omega⟩
  rw [hj, Nat.mul_assoc, Nat.add_mul_mod_self_left]
theorem belowM_k {s : List UInt8} {k n : Int} (h : 0 ≤ k ∧ k ≤ s.length) : 0 ≤ (belowM s k n).2.2 ∧ (belowM s k n).2.2 ≤ s.length := by
  unfold belowM; split
  · exact h
  · split <;> exact takeM_k h
theorem awake_t {R : Hp} : Tri Try.prog 7 [] R [] (fun v R' L' => v = .bool true ∧ R = R' ∧ ∃ b, L' = [tapeA b [97, 98, 99] 3]) := by
  refine tri_of Try.func7 rfl Try.ntmps7 rfl (fun σ F Q hret hend hpan => ?_)
  try simp only [List.cons_append, List.nil_append]
  refine cj_env (Env.le_nil _) ?_
  refine cj_seq (fun K1 hK1 => ?_)
  refine cj_region ?_
  refine rj_val (wn0 rfl) rfl rfl (y_assign rfl) ?_
  refine rj_nil ?_
  refine hK1 _ _ _ ?_
  refine cj_seq (fun K2 hK2 => ?_)
  refine cj_region ?_
  refine rj_call (wn0 rfl) rfl Try.call8 rfl (new_t [97, 98, 99]) (by (repeat (first | exact Split.nil _ | (apply Split.cons; focus (repeat (first | exact Find.head _ | apply Find.tail)))))) (fun _ _ _ _ h => h.elim) ?_
  rintro v R' L' hR ⟨rfl, b, rfl, rfl⟩
  try simp only [List.cons_append, List.nil_append]
  refine rj_val (wn0 rfl) rfl rfl (y_assign rfl) ?_
  refine rj_nil ?_
  refine hK2 _ _ _ ?_
  refine cj_seq (fun K3 hK3 => ?_)
  refine cj_region ?_
  refine rj_val (wn0 rfl) rfl rfl (y_move rfl) ?_
  refine rj_call (wn0 rfl) rfl Try.call10 rfl (take_t b [97, 98, 99] 0 2 (by decide)) (by (repeat (first | exact Split.nil _ | (apply Split.cons; focus (repeat (first | exact Find.head _ | apply Find.tail)))))) (fun _ _ _ _ h => h.elim) ?_
  rintro v R' L' hR ⟨rfl, rfl, rfl⟩
  rw [show takeM [97, 98, 99] 0 2 = ([97, 98], 0, 2) from by decide]
  try simp only [List.cons_append, List.nil_append]
  refine rj_val (wn0 rfl) rfl rfl (y_move rfl) ?_
  refine rj_val (wn0 rfl) rfl rfl (y_extract rfl rfl) ?_
  refine rj_val (wn0 rfl) rfl rfl (y_extract rfl rfl) ?_
  refine rj_val (wn0 rfl) rfl rfl (y_assign rfl) ?_
  refine rj_val (wn0 rfl) rfl rfl (y_assign rfl) ?_
  refine rj_nil ?_
  refine hK3 _ _ _ ?_
  refine cj_env (Env.le_cons (t := 1) rfl (Env.le_cons (t := 2) rfl (Env.le_cons (t := 3) rfl (Env.le_nil _)))) ?_
  refine cj_seq (fun K4 hK4 => ?_)
  refine cj_region ?_
  refine rj_val (wn0 rfl) rfl rfl (y_move rfl) ?_
  refine rj_call (wn0 rfl) rfl Try.call10 rfl (take_t b [97, 98, 99] 2 2 (by decide)) (by (repeat (first | exact Split.nil _ | (apply Split.cons; focus (repeat (first | exact Find.head _ | apply Find.tail)))))) (fun _ _ _ _ h => h.elim) ?_
  rintro v R' L' hR ⟨rfl, rfl, rfl⟩
  rw [show takeM [97, 98, 99] 2 2 = ([], 2, 2) from by decide]
  try simp only [List.cons_append, List.nil_append]
  refine rj_val (wn0 rfl) rfl rfl (y_move rfl) ?_
  refine rj_val (wn0 rfl) rfl rfl (y_extract rfl rfl) ?_
  refine rj_val (wn0 rfl) rfl rfl (y_extract rfl rfl) ?_
  refine rj_val (wn0 rfl) rfl rfl (y_assign rfl) ?_
  refine rj_val (wn0 rfl) rfl rfl (y_assign rfl) ?_
  refine rj_nil ?_
  refine hK4 _ _ _ ?_
  refine cj_env (Env.le_cons (t := 1) rfl (Env.le_cons (t := 2) rfl (Env.le_cons (t := 3) rfl (Env.le_cons (t := 4) rfl (Env.le_cons (t := 5) rfl (Env.le_nil _)))))) ?_
  refine cj_seq (fun K5 hK5 => ?_)
  refine cj_region ?_
  refine rj_val (wn0 rfl) rfl rfl (y_move rfl) ?_
  refine rj_call (wn0 rfl) rfl Try.call10 rfl (take_t b [97, 98, 99] 2 1 (by decide)) (by (repeat (first | exact Split.nil _ | (apply Split.cons; focus (repeat (first | exact Find.head _ | apply Find.tail)))))) (fun _ _ _ _ h => h.elim) ?_
  rintro v R' L' hR ⟨rfl, rfl, rfl⟩
  rw [show takeM [97, 98, 99] 2 1 = ([99], 0, 3) from by decide]
  try simp only [List.cons_append, List.nil_append]
  refine rj_val (wn0 rfl) rfl rfl (y_move rfl) ?_
  refine rj_val (wn0 rfl) rfl rfl (y_extract rfl rfl) ?_
  refine rj_val (wn0 rfl) rfl rfl (y_extract rfl rfl) ?_
  refine rj_val (wn0 rfl) rfl rfl (y_assign rfl) ?_
  refine rj_val (wn0 rfl) rfl rfl (y_assign rfl) ?_
  refine rj_nil ?_
  refine hK5 _ _ _ ?_
  refine cj_env (Env.le_cons (t := 1) rfl (Env.le_cons (t := 2) rfl (Env.le_cons (t := 3) rfl (Env.le_cons (t := 4) rfl (Env.le_cons (t := 5) rfl (Env.le_cons (t := 6) rfl (Env.le_cons (t := 7) rfl (Env.le_nil _)))))))) ?_
  refine cj_seq (fun K6 hK6 => ?_)
  refine cj_region ?_
  refine rj_val (wn0 rfl) rfl rfl (y_move rfl) ?_
  refine rj_val (wn0 rfl) rfl rfl (y_eql rfl rfl) ?_
  refine rj_val (wn0 rfl) rfl rfl (y_move rfl) ?_
  refine rj_val (wn1 rfl rfl rfl rfl) rfl rfl (y_move rfl) ?_
  refine rj_val (wn1 rfl rfl rfl rfl) rfl rfl (y_eql rfl rfl) ?_
  refine rj_val (wn0 rfl) rfl rfl (y_pick_t rfl rfl) ?_
  refine rj_val (wn0 rfl) rfl rfl (y_move rfl) ?_
  refine rj_val (wn1 rfl rfl rfl rfl) rfl rfl (y_move rfl) ?_
  refine rj_val (wn1 rfl rfl rfl rfl) rfl rfl (y_eql rfl rfl) ?_
  refine rj_val (wn0 rfl) rfl rfl (y_pick_t rfl rfl) ?_
  refine rj_val (wn0 rfl) rfl rfl (y_move rfl) ?_
  refine rj_val (wn1 rfl rfl rfl rfl) rfl rfl (y_move rfl) ?_
  refine rj_val (wn1 rfl rfl rfl rfl) rfl rfl (y_seql rfl rfl) ?_
  refine rj_val (wn0 rfl) rfl rfl (y_pick_t rfl rfl) ?_
  refine rj_val (wn0 rfl) rfl rfl (y_move rfl) ?_
  refine rj_val (wn1 rfl rfl rfl rfl) rfl rfl (y_move rfl) ?_
  refine rj_val (wn1 rfl rfl rfl rfl) rfl rfl (y_seql rfl rfl) ?_
  refine rj_val (wn0 rfl) rfl rfl (y_pick_t rfl rfl) ?_
  refine rj_val (wn0 rfl) rfl rfl (y_move rfl) ?_
  refine rj_val (wn1 rfl rfl rfl rfl) rfl rfl (y_move rfl) ?_
  refine rj_val (wn1 rfl rfl rfl rfl) rfl rfl (y_seql rfl rfl) ?_
  refine rj_val (wn0 rfl) rfl rfl (y_pick_t rfl rfl) ?_
  refine rj_val (wn0 rfl) rfl rfl (y_move rfl) ?_
  refine rj_val (wn1 rfl rfl rfl rfl) rfl rfl (y_move rfl) ?_
  refine rj_val (wn1 rfl rfl rfl rfl) rfl rfl (y_call Try.call11 rfl (taken_q b [97, 98, 99] 3) (by (repeat (first | exact Split.nil _ | (apply Split.cons; focus (repeat (first | exact Find.head _ | apply Find.tail))))))) ?_
  refine rj_val (wn1 rfl rfl rfl rfl) rfl rfl (y_eql rfl rfl) ?_
  refine rj_val (wn0 rfl) rfl rfl (y_pick_t rfl rfl) ?_
  refine rj_val (wn0 rfl) rfl rfl (y_assign rfl) ?_
  refine rj_nil ?_
  refine hK6 _ _ _ ?_
  refine cj_env (Env.le_cons (t := 0) rfl (Env.le_nil _)) ?_
  refine cj_ret ?_
  refine hret _ _ _ ?_
  apply ej_ret Try.results7 (.cons (rv_tmp rfl) .nil) _ _ (Hp.le_refl _) rfl
  case hp => exact ⟨rfl, rfl, b, rfl⟩
  case hS => (repeat (first | exact Sub.refl _ | (apply Sub.pick; focus (repeat (first | exact Find.head _ | apply Find.tail))) | apply Sub.drop))
theorem runs_t {R : Hp} (s : List UInt8) (hs : s.length ≤ maxLen) (v1 : Value) (acts : List (Int × Int)) (ha : slcR 2 (pairR 1 (intR .i64) (intR .i64)) R [v1] acts) :
    Tri Try.prog 6 [.string (str s), v1] R [] (fun v _ _ => v = .bool true) := by
  obtain ⟨q, cap, e, hlc, hcm, hz⟩ := ha
  obtain rfl : v1 = .slice q acts.length cap := by simpa using e
  clear e
  unfold maxLen at hs hcm
  refine tri_of Try.func6 rfl Try.ntmps6 rfl (fun σ F Q hret hend hpan => ?_)
  try simp only [List.cons_append, List.nil_append]
  refine cj_env (Env.le_cons (t := 0) rfl (Env.le_cons (t := 1) rfl (Env.le_nil _))) ?_
  refine cj_seq (fun K1 hK1 => ?_)
  refine cj_region ?_
  refine rj_val (wn0 rfl) rfl rfl (y_assign rfl) ?_
  refine rj_nil ?_
  refine hK1 _ _ _ ?_
  refine cj_seq (fun K2 hK2 => ?_)
  refine cj_seq (fun K3 hK3 => ?_)
  refine cj_region ?_
  refine rj_call (wn0 rfl) rfl Try.call7 rfl (awake_t) (by (repeat (first | exact Split.nil _ | (apply Split.cons; focus (repeat (first | exact Find.head _ | apply Find.tail)))))) (fun _ _ _ _ h => h.elim) ?_
  rintro v R' L' hR ⟨rfl, rfl, b0, rfl⟩
  try simp only [List.cons_append, List.nil_append]
  refine rj_val (wn0 rfl) rfl rfl (y_not rfl) ?_
  refine rj_nil ?_
  refine hK3 _ _ _ ?_
  refine cj_cond_f rfl ?_
  refine cj_skip ?_
  refine hK2 _ _ _ ?_
  refine cj_env (Env.le_cons (t := 0) rfl (Env.le_cons (t := 1) rfl (Env.le_nil _))) ?_
  refine cj_seq (fun K4 hK4 => ?_)
  refine cj_seq (fun K5 hK5 => ?_)
  refine cj_region ?_
  refine rj_val (wn0 rfl) rfl rfl (y_move rfl) ?_
  refine rj_val (wn0 rfl) rfl rfl (y_slen Try.underlying9 rfl) ?_
  refine rj_val (wn0 rfl) rfl rfl (y_gtr rfl rfl) ?_
  refine rj_val (wn0 rfl) rfl rfl (y_move rfl) ?_
  refine rj_part 22 rfl (fun hg22 => ?_) (fun hg22 => ?_)
  · try simp only [decide_eq_true_eq, decide_eq_false_iff_not, Bool.not_eq_true', Bool.not_eq_false', Bool.true_eq_false, Bool.false_eq_true] at hg22
    refine rj_skip (wn2 rfl rfl rfl rfl rfl) rfl rfl ?_
    refine rj_skip (wn2 rfl rfl rfl rfl rfl) rfl rfl ?_
    refine rj_skip (wn2 rfl rfl rfl rfl rfl) rfl rfl ?_
    refine rj_val (wn0 rfl) rfl rfl (y_pick_t rfl rfl) ?_
    refine rj_nil ?_
    refine hK5 _ _ _ ?_
    refine cj_env (Env.le_cons (t := 0) rfl (Env.le_cons (t := 1) rfl (Env.le_cons (t := 26) rfl (Env.le_nil _)))) ?_
    refine cj_cond_t rfl ?_
    refine cj_seq (fun K6 hK6 => ?_)
    refine cj_region ?_
    refine rj_val (wn0 rfl) rfl rfl (y_assign rfl) ?_
    refine rj_nil ?_
    refine hK6 _ _ _ ?_
    refine cj_env (Env.le_cons (t := 4) rfl (Env.le_nil _)) ?_
    refine cj_ret ?_
    refine hret _ _ _ ?_
    apply ej_ret Try.results6 (.cons (rv_tmp rfl) .nil) _ [] (Hp.le_refl _) rfl
    case hp => rfl
    case hS => (repeat (first | exact Sub.refl _ | (apply Sub.pick; focus (repeat (first | exact Find.head _ | apply Find.tail))) | apply Sub.drop))
  · try simp only [decide_eq_true_eq, decide_eq_false_iff_not, Bool.not_eq_true', Bool.not_eq_false', Bool.true_eq_false, Bool.false_eq_true] at hg22
    refine rj_val (wn1 rfl rfl rfl rfl) rfl rfl (y_move rfl) ?_
    refine rj_val (wn1 rfl rfl rfl rfl) rfl rfl (y_len_sl Try.underlying36 rfl) ?_
    refine rj_val (wn1 rfl rfl rfl rfl) rfl rfl (y_gtr rfl rfl) ?_
    refine rj_val (wn0 rfl) rfl rfl (y_pick_f rfl rfl) ?_
    refine rj_nil ?_
    refine hK5 _ _ _ ?_
    refine cj_env (Env.le_cons (t := 0) rfl (Env.le_cons (t := 1) rfl (Env.le_cons (t := 26) rfl (Env.le_nil _)))) ?_
    refine cj_cond rfl (fun hc26 => ?_) (fun hc26 => ?_)
    · try simp only [decide_eq_true_eq, decide_eq_false_iff_not, Bool.not_eq_true', Bool.not_eq_false', Bool.true_eq_false, Bool.false_eq_true] at hc26
      refine cj_seq (fun K8 hK8 => ?_)
      refine cj_region ?_
      refine rj_val (wn0 rfl) rfl rfl (y_assign rfl) ?_
      refine rj_nil ?_
      refine hK8 _ _ _ ?_
      refine cj_env (Env.le_cons (t := 4) rfl (Env.le_nil _)) ?_
      refine cj_ret ?_
      refine hret _ _ _ ?_
      apply ej_ret Try.results6 (.cons (rv_tmp rfl) .nil) _ [] (Hp.le_refl _) rfl
      case hp => rfl
      case hS => (repeat (first | exact Sub.refl _ | (apply Sub.pick; focus (repeat (first | exact Find.head _ | apply Find.tail))) | apply Sub.drop))
    · try simp only [decide_eq_true_eq, decide_eq_false_iff_not, Bool.not_eq_true', Bool.not_eq_false', Bool.true_eq_false, Bool.false_eq_true] at hc26
      refine cj_skip ?_
      refine hK4 _ _ _ ?_
      refine cj_seq (fun K9 hK9 => ?_)
      refine cj_region ?_
      refine rj_val (wn0 rfl) rfl rfl (y_move rfl) ?_
      refine rj_call (wn0 rfl) rfl Try.call8 rfl (new_t s) (by (repeat (first | exact Split.nil _ | (apply Split.cons; focus (repeat (first | exact Find.head _ | apply Find.tail)))))) (fun _ _ _ _ h => h.elim) ?_
      rintro v R' L' hR ⟨rfl, bt, rfl, rfl⟩
      try simp only [List.cons_append, List.nil_append]
      refine rj_val (wn0 rfl) rfl rfl (y_move rfl) ?_
      refine rj_val (wn0 rfl) rfl rfl (y_build (cells := [_, _]) [(0, 1), (1, 1)] Try.underlying39 Try.zeroValue39 (fun _ => rfl) rfl rfl) ?_
      refine rj_box (wn0 rfl) rfl rfl rfl (fun br => ?_)
      refine rj_val (wn0 rfl) rfl rfl (y_assign rfl) ?_
      refine rj_val (wn0 rfl) rfl rfl (y_assign rfl) ?_
      refine rj_nil ?_
      refine hK9 _ _ _ ?_
      refine cj_env (Env.le_cons (t := 0) rfl (Env.le_cons (t := 1) rfl (Env.le_cons (t := 5) rfl (Env.le_cons (t := 6) rfl (Env.le_nil _))))) ?_
      refine cj_seq (fun K10 hK10 => ?_)
      refine cj_seq (fun K11 hK11 => ?_)
      refine cj_region ?_
      refine rj_val (wn0 rfl) rfl rfl (y_move rfl) ?_
      refine rj_val (wn0 rfl) rfl rfl (y_len_sl Try.underlying36 rfl) ?_
      refine rj_val (wn0 rfl) rfl rfl (y_move rfl) ?_
      refine rj_nil ?_
      refine hK11 _ _ _ ?_
      refine cj_block ?_
      refine cj_env (E' := (fun (x : Nat × Int) => [(0, .string (str s)), (5, .pointer (some ⟨bt, 0, none⟩)), (6, .pointer (some ⟨br, 0, none⟩)), (32, .slice q acts.length cap), (33, .int .i64 (acts.length : Int)), (34, .int .i64 (x.1 : Int))]) (0, 0)) (Env.le_cons rfl (Env.le_cons rfl (Env.le_cons rfl (Env.le_cons rfl (Env.le_cons rfl (Env.le_cons rfl (Env.le_nil _))))))) ?_
      refine cj_sub (M := (fun (x : Nat × Int) => tapeA bt s x.2 :: refA br s x.2 :: F) (0, 0)) (by (repeat (first | exact Sub.refl _ | (apply Sub.pick; focus (repeat (first | exact Find.head _ | apply Find.tail))) | apply Sub.drop))) ?_
      refine cj_loop (fun (x : Nat × Int) => [(0, .string (str s)), (5, .pointer (some ⟨bt, 0, none⟩)), (6, .pointer (some ⟨br, 0, none⟩)), (32, .slice q acts.length cap), (33, .int .i64 (acts.length : Int)), (34, .int .i64 (x.1 : Int))]) (fun (x : Nat × Int) => R) (fun (x : Nat × Int) => tapeA bt s x.2 :: refA br s x.2 :: F) (fun (x : Nat × Int) => x.1 ≤ acts.length ∧ 0 ≤ x.2 ∧ x.2 ≤ s.length) (fun (x : Nat × Int) => acts.length - x.1) (0, 0) (⟨by simp, by simp, by simp⟩) ?_
      rintro ⟨i, k⟩ ⟨hi, hk0, hk1⟩
      try dsimp only
      dsimp only at hi hk0 hk1
      refine cj_seq (fun K12 hK12 => ?_)
      refine cj_region ?_
      refine rj_val (wn0 rfl) rfl rfl (y_lss rfl rfl) ?_
      refine rj_nil ?_
      refine hK12 _ _ _ ?_
      refine cj_seq (fun K13 hK13 => ?_)
      refine cj_cond rfl (fun hc35 => ?_) (fun hc35 => ?_)
      · try simp only [decide_eq_true_eq, decide_eq_false_iff_not, Bool.not_eq_true', Bool.not_eq_false', Bool.true_eq_false, Bool.false_eq_true] at hc35
        refine cj_skip ?_
        refine hK13 _ _ _ ?_
        refine cj_seq (fun K15 hK15 => ?_)
        refine cj_block ?_
        refine cj_seq (fun K16 hK16 => ?_)
        refine cj_region ?_
        obtain ⟨b, off, rfl, hz2⟩ := hz.resolve_left (by rintro rfl; simp at hc35; omega)
        obtain ⟨c, hcl, hcc, ⟨e1, bd1⟩, ⟨e2, bd2⟩⟩ := hz2 i (by omega)
        obtain ⟨ai, hai⟩ : ∃ a, a = acts[i]'(by omega) := ⟨_, rfl⟩
        rw [← hai] at e1 bd1 e2 bd2
        obtain rfl : c = [.int .i64 ai.1, .int .i64 ai.2] := by rw [← List.take_append_drop 1 c, e1, e2]; rfl
        simp only [IntKind.min, IntKind.max, IntKind.signed, IntKind.bits] at bd1 bd2
        have ht := takeM_k (s := s) (k := k) (n := ai.2) ⟨hk0, hk1⟩
        have hb := belowM_k (s := s) (k := k) (n := ai.2) ⟨hk0, hk1⟩
        refine rj_val (wn0 rfl) rfl rfl (y_indexAddr Try.underlying36 Try.sizeOf41 rfl rfl (by omega)) ?_
        refine rj_val (wn0 rfl) rfl rfl (y_loads_ro ⟨Try.isAgg41, Try.sizeOf41⟩ (vs := [.int .i64 ai.1, .int .i64 ai.2]) rfl rfl (fun j v hj => by simpa using hcc j v hj)) ?_
        refine rj_alloc (wn0 rfl) rfl Try.zeroValue41 rfl (fun b8 => ?_)
        refine rj_stores ⟨Try.isAgg41, Try.sizeOf41⟩ rfl (wn0 rfl) rfl rfl (by (simp [Value.oneCell'])) (by (repeat (first | exact Find.head _ | apply Find.tail))) (by (simp)) rfl ?_
        refine rj_nil ?_
        refine hK16 _ _ _ ?_
        refine cj_env (Env.le_cons (t := 0) rfl (Env.le_cons (t := 5) rfl (Env.le_cons (t := 6) rfl (Env.le_cons (t := 8) rfl (Env.le_cons (t := 32) rfl (Env.le_cons (t := 33) rfl (Env.le_cons (t := 34) rfl (Env.le_nil _)))))))) ?_
        refine cj_seq (fun K17 hK17 => ?_)
        refine cj_seq (fun K18 hK18 => ?_)
        refine cj_region ?_
        refine rj_val (wn0 rfl) rfl rfl (y_fieldAddr Try.underlying41 rfl (n := 1) (by decide) Try.sizeOf3 rfl) ?_
        refine rj_val (wn0 rfl) rfl rfl (y_load ⟨Try.isAgg3, Try.sizeOf3⟩ rfl (by (repeat (first | exact Find.head _ | apply Find.tail))) rfl) ?_
        refine rj_nil ?_
        refine hK18 _ _ _ ?_
        refine cj_block ?_
        refine cj_seq (fun K19 hK19 => ?_)
        refine cj_region ?_
        refine rj_val (wn0 rfl) rfl rfl (y_eql rfl rfl) ?_
        refine rj_val (wn0 rfl) rfl rfl (y_assign rfl) ?_
        refine rj_nil ?_
        refine hK19 _ _ _ ?_
        refine cj_cond rfl (fun hc40 => ?_) (fun hc40 => ?_)
        · try simp only [decide_eq_true_eq, decide_eq_false_iff_not, Bool.not_eq_true', Bool.not_eq_false', Bool.true_eq_false, Bool.false_eq_true] at hc40
          obtain ⟨k', hk'⟩ : ∃ k', k' = (takeM s k ai.2).2.2 := ⟨_, rfl⟩
          refine cj_seq (fun K21 hK21 => ?_)
          refine cj_region ?_
          refine rj_val (wn0 rfl) rfl rfl (y_move rfl) ?_
          refine rj_val (wn0 rfl) rfl rfl (y_fieldAddr Try.underlying41 rfl (n := 1) (by decide) Try.sizeOf3 rfl) ?_
          refine rj_val (wn0 rfl) rfl rfl (y_load ⟨Try.isAgg3, Try.sizeOf3⟩ rfl (by (repeat (first | exact Find.head _ | apply Find.tail))) rfl) ?_
          refine rj_call (wn0 rfl) rfl Try.call10 rfl (take_t bt s k ai.2 ⟨hk0, hk1, by omega⟩) (by (repeat (first | exact Split.nil _ | (apply Split.cons; focus (repeat (first | exact Find.head _ | apply Find.tail)))))) (fun _ _ _ _ h => h.elim) ?_
          rintro v R' L' hR ⟨rfl, rfl, rfl⟩
          rw [← hk'] at ht ⊢
          try simp only [List.cons_append, List.nil_append]
          refine rj_val (wn0 rfl) rfl rfl (y_move rfl) ?_
          refine rj_val (wn0 rfl) rfl rfl (y_extract rfl rfl) ?_
          refine rj_val (wn0 rfl) rfl rfl (y_extract rfl rfl) ?_
          refine rj_val (wn0 rfl) rfl rfl (y_assign rfl) ?_
          refine rj_val (wn0 rfl) rfl rfl (y_assign rfl) ?_
          refine rj_nil ?_
          refine hK21 _ _ _ ?_
          refine cj_env (Env.le_cons (t := 0) rfl (Env.le_cons (t := 5) rfl (Env.le_cons (t := 6) rfl (Env.le_cons (t := 8) rfl (Env.le_cons (t := 9) rfl (Env.le_cons (t := 10) rfl (Env.le_cons (t := 32) rfl (Env.le_cons (t := 33) rfl (Env.le_cons (t := 34) rfl (Env.le_nil _)))))))))) ?_
          refine cj_seq (fun K22 hK22 => ?_)
          refine cj_region ?_
          refine rj_val (wn0 rfl) rfl rfl (y_move rfl) ?_
          refine rj_val (wn0 rfl) rfl rfl (y_fieldAddr Try.underlying41 rfl (n := 1) (by decide) Try.sizeOf3 rfl) ?_
          refine rj_val (wn0 rfl) rfl rfl (y_load ⟨Try.isAgg3, Try.sizeOf3⟩ rfl (by (repeat (first | exact Find.head _ | apply Find.tail))) rfl) ?_
          refine rj_call (wn0 rfl) rfl Try.call13 rfl (rtake_t br s k ai.2 ⟨hk0, hk1, by omega⟩) (by (repeat (first | exact Split.nil _ | (apply Split.cons; focus (repeat (first | exact Find.head _ | apply Find.tail)))))) (fun _ _ _ _ h => h.elim) ?_
          rintro v R' L' hR ⟨rfl, rfl, rfl⟩
          rw [← hk']
          try simp only [List.cons_append, List.nil_append]
          refine rj_val (wn0 rfl) rfl rfl (y_move rfl) ?_
          refine rj_val (wn0 rfl) rfl rfl (y_extract rfl rfl) ?_
          refine rj_val (wn0 rfl) rfl rfl (y_extract rfl rfl) ?_
          refine rj_val (wn0 rfl) rfl rfl (y_assign rfl) ?_
          refine rj_val (wn0 rfl) rfl rfl (y_assign rfl) ?_
          refine rj_nil ?_
          refine hK22 _ _ _ ?_
          refine cj_env (Env.le_cons (t := 0) rfl (Env.le_cons (t := 5) rfl (Env.le_cons (t := 6) rfl (Env.le_cons (t := 9) rfl (Env.le_cons (t := 10) rfl (Env.le_cons (t := 11) rfl (Env.le_cons (t := 12) rfl (Env.le_cons (t := 32) rfl (Env.le_cons (t := 33) rfl (Env.le_cons (t := 34) rfl (Env.le_nil _))))))))))) ?_
          refine cj_seq (fun K23 hK23 => ?_)
          refine cj_region ?_
          refine rj_val (wn0 rfl) rfl rfl (y_move rfl) ?_
          refine rj_val (wn0 rfl) rfl rfl (y_move rfl) ?_
          refine rj_val (wn0 rfl) rfl rfl (y_sneq rfl rfl) ?_
          refine rj_eq 58 rfl (v' := .bool false) (by simp) ?_
          refine rj_val (wn0 rfl) rfl rfl (y_move rfl) ?_
          refine rj_val (wn1 rfl rfl rfl rfl) rfl rfl (y_move rfl) ?_
          refine rj_val (wn1 rfl rfl rfl rfl) rfl rfl (y_move rfl) ?_
          refine rj_val (wn1 rfl rfl rfl rfl) rfl rfl (y_neq rfl rfl) ?_
          refine rj_eq 62 rfl (v' := .bool false) (by simp) ?_
          refine rj_val (wn0 rfl) rfl rfl (y_pick_f rfl rfl) ?_
          refine rj_nil ?_
          refine hK23 _ _ _ ?_
          refine cj_env (Env.le_cons (t := 0) rfl (Env.le_cons (t := 5) rfl (Env.le_cons (t := 6) rfl (Env.le_cons (t := 32) rfl (Env.le_cons (t := 33) rfl (Env.le_cons (t := 34) rfl (Env.le_cons (t := 63) rfl (Env.le_nil _)))))))) ?_
          refine cj_cond_f rfl ?_
          refine cj_skip ?_
          refine hK17 _ _ _ ?_
          refine cj_seq (fun K24 hK24 => ?_)
          refine cj_draw (by kernel_rfl) (by kernel_rfl) ?_
          refine qj_val (wn0 rfl) rfl rfl (y_move rfl) ?_
          refine qj_val (wn0 rfl) rfl rfl (y_call Try.call11 rfl (taken_q bt s k') (by (repeat (first | exact Split.nil _ | (apply Split.cons; focus (repeat (first | exact Find.head _ | apply Find.tail))))))) ?_
          refine qj_val (wn0 rfl) rfl rfl (y_move rfl) ?_
          refine qj_val (wn0 rfl) rfl rfl (y_nilCheck rfl) ?_
          refine qj_val (wn0 rfl) rfl rfl (y_fieldAddr Try.underlying39 rfl (n := 1) (by decide) Try.sizeOf3 rfl) ?_
          refine qj_val (wn0 rfl) rfl rfl (y_load ⟨Try.isAgg3, Try.sizeOf3⟩ rfl (by (repeat (first | exact Find.head _ | apply Find.tail))) rfl) ?_
          refine qj_val (wn0 rfl) rfl rfl (y_neq rfl rfl) ?_
          refine qj_eq 94 rfl (v' := .bool false) (by simp) ?_
          refine qj_val (wn0 rfl) rfl rfl (y_move rfl) ?_
          refine qj_val (wn1 rfl rfl rfl rfl) rfl rfl (y_move rfl) ?_
          refine qj_val (wn1 rfl rfl rfl rfl) rfl rfl (y_call Try.call9 rfl (left_q bt s k' ⟨by omega, by omega, by omega⟩) (by (repeat (first | exact Split.nil _ | (apply Split.cons; focus (repeat (first | exact Find.head _ | apply Find.tail))))))) ?_
          refine qj_val (wn1 rfl rfl rfl rfl) rfl rfl (y_move rfl) ?_
          refine qj_val (wn1 rfl rfl rfl rfl) rfl rfl (y_slen Try.underlying9 rfl) ?_
          refine qj_val (wn1 rfl rfl rfl rfl) rfl rfl (y_move rfl) ?_
          refine qj_val (wn1 rfl rfl rfl rfl) rfl rfl (y_nilCheck rfl) ?_
          refine qj_val (wn1 rfl rfl rfl rfl) rfl rfl (y_fieldAddr Try.underlying39 rfl (n := 1) (by decide) Try.sizeOf3 rfl) ?_
          refine qj_val (wn1 rfl rfl rfl rfl) rfl rfl (y_load ⟨Try.isAgg3, Try.sizeOf3⟩ rfl (by (repeat (first | exact Find.head _ | apply Find.tail))) rfl) ?_
          first | refine qj_val (wn1 rfl rfl rfl rfl) rfl rfl (y_sub64 rfl rfl (by omega)) ?_ | refine qj_val (wn1 rfl rfl rfl rfl) rfl rfl (y_sub rfl rfl) ?_
          refine qj_val (wn1 rfl rfl rfl rfl) rfl rfl (y_neq rfl rfl) ?_
          refine qj_eq 105 rfl (v' := .bool false) (by simp) ?_
          refine qj_val (wn0 rfl) rfl rfl (y_pick_f rfl rfl) ?_
          refine qj_nil ?_
          refine hK24 _ _ _ ?_
          refine cj_env (Env.le_cons (t := 0) rfl (Env.le_cons (t := 5) rfl (Env.le_cons (t := 6) rfl (Env.le_cons (t := 32) rfl (Env.le_cons (t := 33) rfl (Env.le_cons (t := 34) rfl (Env.le_cons (t := 106) rfl (Env.le_nil _)))))))) ?_
          refine cj_cond_f rfl ?_
          refine cj_skip ?_
          refine hK15 _ _ _ ?_
          refine cj_region ?_
          first | refine rj_val (wn0 rfl) rfl rfl (y_add64 rfl rfl (by omega)) ?_ | refine rj_val (wn0 rfl) rfl rfl (y_add rfl rfl) ?_
          refine rj_val (wn0 rfl) rfl rfl (y_move rfl) ?_
          refine rj_nil ?_
          refine ej_on (q' := roundK _ _ _ _ _ _ _) rfl ?_
          refine ej_round ((i + 1, k')) (⟨by simp only; omega, by simp only; omega, by simp only; omega⟩) (by simp only; omega) (Env.le_cons rfl (Env.le_cons rfl (Env.le_cons rfl (Env.le_cons rfl (Env.le_cons rfl (Env.le_cons rfl (Env.le_nil _))))))) rfl (by (repeat (first | exact Sub.refl _ | (apply Sub.pick; focus (repeat (first | exact Find.head _ | apply Find.tail))) | apply Sub.drop)))
        · try simp only [decide_eq_true_eq, decide_eq_false_iff_not, Bool.not_eq_true', Bool.not_eq_false', Bool.true_eq_false, Bool.false_eq_true] at hc40
          refine cj_seq (fun K25 hK25 => ?_)
          refine cj_region ?_
          refine rj_val (wn0 rfl) rfl rfl (y_eql rfl rfl) ?_
          refine rj_val (wn0 rfl) rfl rfl (y_assign rfl) ?_
          refine rj_nil ?_
          refine hK25 _ _ _ ?_
          refine cj_env (Env.le_cons (t := 0) rfl (Env.le_cons (t := 5) rfl (Env.le_cons (t := 6) rfl (Env.le_cons (t := 8) rfl (Env.le_cons (t := 32) rfl (Env.le_cons (t := 33) rfl (Env.le_cons (t := 34) rfl (Env.le_cons (t := 64) rfl (Env.le_nil _))))))))) ?_
          refine cj_cond rfl (fun hc64 => ?_) (fun hc64 => ?_)
          · try simp only [decide_eq_true_eq, decide_eq_false_iff_not, Bool.not_eq_true', Bool.not_eq_false', Bool.true_eq_false, Bool.false_eq_true] at hc64
            obtain ⟨k', hk'⟩ : ∃ k', k' = (belowM s k ai.2).2.2 := ⟨_, rfl⟩
            refine cj_seq (fun K27 hK27 => ?_)
            refine cj_region ?_
            refine rj_val (wn0 rfl) rfl rfl (y_move rfl) ?_
            refine rj_val (wn0 rfl) rfl rfl (y_fieldAddr Try.underlying41 rfl (n := 1) (by decide) Try.sizeOf3 rfl) ?_
            refine rj_val (wn0 rfl) rfl rfl (y_load ⟨Try.isAgg3, Try.sizeOf3⟩ rfl (by (repeat (first | exact Find.head _ | apply Find.tail))) rfl) ?_
            refine rj_call (wn0 rfl) rfl Try.call12 rfl (below_t bt s k ai.2 ⟨hk0, hk1, by omega⟩) (by (repeat (first | exact Split.nil _ | (apply Split.cons; focus (repeat (first | exact Find.head _ | apply Find.tail)))))) (fun _ _ _ _ h => h.elim) ?_
            rintro v R' L' hR ⟨rfl, rfl, rfl⟩
            rw [← hk'] at hb ⊢
            try simp only [List.cons_append, List.nil_append]
            refine rj_val (wn0 rfl) rfl rfl (y_move rfl) ?_
            refine rj_val (wn0 rfl) rfl rfl (y_extract rfl rfl) ?_
            refine rj_val (wn0 rfl) rfl rfl (y_extract rfl rfl) ?_
            refine rj_val (wn0 rfl) rfl rfl (y_assign rfl) ?_
            refine rj_val (wn0 rfl) rfl rfl (y_assign rfl) ?_
            refine rj_nil ?_
            refine hK27 _ _ _ ?_
            refine cj_env (Env.le_cons (t := 0) rfl (Env.le_cons (t := 5) rfl (Env.le_cons (t := 6) rfl (Env.le_cons (t := 8) rfl (Env.le_cons (t := 13) rfl (Env.le_cons (t := 14) rfl (Env.le_cons (t := 32) rfl (Env.le_cons (t := 33) rfl (Env.le_cons (t := 34) rfl (Env.le_nil _)))))))))) ?_
            refine cj_seq (fun K28 hK28 => ?_)
            refine cj_region ?_
            refine rj_val (wn0 rfl) rfl rfl (y_move rfl) ?_
            refine rj_val (wn0 rfl) rfl rfl (y_fieldAddr Try.underlying41 rfl (n := 1) (by decide) Try.sizeOf3 rfl) ?_
            refine rj_val (wn0 rfl) rfl rfl (y_load ⟨Try.isAgg3, Try.sizeOf3⟩ rfl (by (repeat (first | exact Find.head _ | apply Find.tail))) rfl) ?_
            refine rj_call (wn0 rfl) rfl Try.call14 rfl (rbelow_t br s k ai.2 ⟨hk0, hk1, by omega⟩) (by (repeat (first | exact Split.nil _ | (apply Split.cons; focus (repeat (first | exact Find.head _ | apply Find.tail)))))) (fun _ _ _ _ h => h.elim) ?_
            rintro v R' L' hR ⟨rfl, rfl, rfl⟩
            rw [← hk']
            try simp only [List.cons_append, List.nil_append]
            refine rj_val (wn0 rfl) rfl rfl (y_move rfl) ?_
            refine rj_val (wn0 rfl) rfl rfl (y_extract rfl rfl) ?_
            refine rj_val (wn0 rfl) rfl rfl (y_extract rfl rfl) ?_
            refine rj_val (wn0 rfl) rfl rfl (y_assign rfl) ?_
            refine rj_val (wn0 rfl) rfl rfl (y_assign rfl) ?_
            refine rj_nil ?_
            refine hK28 _ _ _ ?_
            refine cj_env (Env.le_cons (t := 0) rfl (Env.le_cons (t := 5) rfl (Env.le_cons (t := 6) rfl (Env.le_cons (t := 13) rfl (Env.le_cons (t := 14) rfl (Env.le_cons (t := 15) rfl (Env.le_cons (t := 16) rfl (Env.le_cons (t := 32) rfl (Env.le_cons (t := 33) rfl (Env.le_cons (t := 34) rfl (Env.le_nil _))))))))))) ?_
            refine cj_seq (fun K29 hK29 => ?_)
            refine cj_region ?_
            refine rj_val (wn0 rfl) rfl rfl (y_move rfl) ?_
            refine rj_val (wn0 rfl) rfl rfl (y_move rfl) ?_
            refine rj_val (wn0 rfl) rfl rfl (y_neq rfl rfl) ?_
            refine rj_eq 82 rfl (v' := .bool false) (by simp) ?_
            refine rj_val (wn0 rfl) rfl rfl (y_move rfl) ?_
            refine rj_val (wn1 rfl rfl rfl rfl) rfl rfl (y_move rfl) ?_
            refine rj_val (wn1 rfl rfl rfl rfl) rfl rfl (y_move rfl) ?_
            refine rj_val (wn1 rfl rfl rfl rfl) rfl rfl (y_neq rfl rfl) ?_
            refine rj_eq 86 rfl (v' := .bool false) (by simp) ?_
            refine rj_val (wn0 rfl) rfl rfl (y_pick_f rfl rfl) ?_
            refine rj_nil ?_
            refine hK29 _ _ _ ?_
            refine cj_env (Env.le_cons (t := 0) rfl (Env.le_cons (t := 5) rfl (Env.le_cons (t := 6) rfl (Env.le_cons (t := 32) rfl (Env.le_cons (t := 33) rfl (Env.le_cons (t := 34) rfl (Env.le_cons (t := 87) rfl (Env.le_nil _)))))))) ?_
            refine cj_cond_f rfl ?_
            refine cj_skip ?_
            refine hK17 _ _ _ ?_
            refine cj_seq (fun K30 hK30 => ?_)
            refine cj_draw (by kernel_rfl) (by kernel_rfl) ?_
            refine qj_val (wn0 rfl) rfl rfl (y_move rfl) ?_
            refine qj_val (wn0 rfl) rfl rfl (y_call Try.call11 rfl (taken_q bt s k') (by (repeat (first | exact Split.nil _ | (apply Split.cons; focus (repeat (first | exact Find.head _ | apply Find.tail))))))) ?_
            refine qj_val (wn0 rfl) rfl rfl (y_move rfl) ?_
            refine qj_val (wn0 rfl) rfl rfl (y_nilCheck rfl) ?_
            refine qj_val (wn0 rfl) rfl rfl (y_fieldAddr Try.underlying39 rfl (n := 1) (by decide) Try.sizeOf3 rfl) ?_
            refine qj_val (wn0 rfl) rfl rfl (y_load ⟨Try.isAgg3, Try.sizeOf3⟩ rfl (by (repeat (first | exact Find.head _ | apply Find.tail))) rfl) ?_
            refine qj_val (wn0 rfl) rfl rfl (y_neq rfl rfl) ?_
            refine qj_eq 94 rfl (v' := .bool false) (by simp) ?_
            refine qj_val (wn0 rfl) rfl rfl (y_move rfl) ?_
            refine qj_val (wn1 rfl rfl rfl rfl) rfl rfl (y_move rfl) ?_
            refine qj_val (wn1 rfl rfl rfl rfl) rfl rfl (y_call Try.call9 rfl (left_q bt s k' ⟨by omega, by omega, by omega⟩) (by (repeat (first | exact Split.nil _ | (apply Split.cons; focus (repeat (first | exact Find.head _ | apply Find.tail))))))) ?_
            refine qj_val (wn1 rfl rfl rfl rfl) rfl rfl (y_move rfl) ?_
            refine qj_val (wn1 rfl rfl rfl rfl) rfl rfl (y_slen Try.underlying9 rfl) ?_
            refine qj_val (wn1 rfl rfl rfl rfl) rfl rfl (y_move rfl) ?_
            refine qj_val (wn1 rfl rfl rfl rfl) rfl rfl (y_nilCheck rfl) ?_
            refine qj_val (wn1 rfl rfl rfl rfl) rfl rfl (y_fieldAddr Try.underlying39 rfl (n := 1) (by decide) Try.sizeOf3 rfl) ?_
            refine qj_val (wn1 rfl rfl rfl rfl) rfl rfl (y_load ⟨Try.isAgg3, Try.sizeOf3⟩ rfl (by (repeat (first | exact Find.head _ | apply Find.tail))) rfl) ?_
            first | refine qj_val (wn1 rfl rfl rfl rfl) rfl rfl (y_sub64 rfl rfl (by omega)) ?_ | refine qj_val (wn1 rfl rfl rfl rfl) rfl rfl (y_sub rfl rfl) ?_
            refine qj_val (wn1 rfl rfl rfl rfl) rfl rfl (y_neq rfl rfl) ?_
            refine qj_eq 105 rfl (v' := .bool false) (by simp) ?_
            refine qj_val (wn0 rfl) rfl rfl (y_pick_f rfl rfl) ?_
            refine qj_nil ?_
            refine hK30 _ _ _ ?_
            refine cj_env (Env.le_cons (t := 0) rfl (Env.le_cons (t := 5) rfl (Env.le_cons (t := 6) rfl (Env.le_cons (t := 32) rfl (Env.le_cons (t := 33) rfl (Env.le_cons (t := 34) rfl (Env.le_cons (t := 106) rfl (Env.le_nil _)))))))) ?_
            refine cj_cond_f rfl ?_
            refine cj_skip ?_
            refine hK15 _ _ _ ?_
            refine cj_region ?_
            first | refine rj_val (wn0 rfl) rfl rfl (y_add64 rfl rfl (by omega)) ?_ | refine rj_val (wn0 rfl) rfl rfl (y_add rfl rfl) ?_
            refine rj_val (wn0 rfl) rfl rfl (y_move rfl) ?_
            refine rj_nil ?_
            refine ej_on (q' := roundK _ _ _ _ _ _ _) rfl ?_
            refine ej_round ((i + 1, k')) (⟨by simp only; omega, by simp only; omega, by simp only; omega⟩) (by simp only; omega) (Env.le_cons rfl (Env.le_cons rfl (Env.le_cons rfl (Env.le_cons rfl (Env.le_cons rfl (Env.le_cons rfl (Env.le_nil _))))))) rfl (by (repeat (first | exact Sub.refl _ | (apply Sub.pick; focus (repeat (first | exact Find.head _ | apply Find.tail))) | apply Sub.drop)))
          · try simp only [decide_eq_true_eq, decide_eq_false_iff_not, Bool.not_eq_true', Bool.not_eq_false', Bool.true_eq_false, Bool.false_eq_true] at hc64
            obtain ⟨k', rfl⟩ : ∃ k', k' = k := ⟨_, rfl⟩
            refine cj_skip ?_
            refine hK17 _ _ _ ?_
            refine cj_seq (fun K31 hK31 => ?_)
            refine cj_draw (by kernel_rfl) (by kernel_rfl) ?_
            refine qj_val (wn0 rfl) rfl rfl (y_move rfl) ?_
            refine qj_val (wn0 rfl) rfl rfl (y_call Try.call11 rfl (taken_q bt s k') (by (repeat (first | exact Split.nil _ | (apply Split.cons; focus (repeat (first | exact Find.head _ | apply Find.tail))))))) ?_
            refine qj_val (wn0 rfl) rfl rfl (y_move rfl) ?_
            refine qj_val (wn0 rfl) rfl rfl (y_nilCheck rfl) ?_
            refine qj_val (wn0 rfl) rfl rfl (y_fieldAddr Try.underlying39 rfl (n := 1) (by decide) Try.sizeOf3 rfl) ?_
            refine qj_val (wn0 rfl) rfl rfl (y_load ⟨Try.isAgg3, Try.sizeOf3⟩ rfl (by (repeat (first | exact Find.head _ | apply Find.tail))) rfl) ?_
            refine qj_val (wn0 rfl) rfl rfl (y_neq rfl rfl) ?_
            refine qj_eq 94 rfl (v' := .bool false) (by simp) ?_
            refine qj_val (wn0 rfl) rfl rfl (y_move rfl) ?_
            refine qj_val (wn1 rfl rfl rfl rfl) rfl rfl (y_move rfl) ?_
            refine qj_val (wn1 rfl rfl rfl rfl) rfl rfl (y_call Try.call9 rfl (left_q bt s k' ⟨by omega, by omega, by omega⟩) (by (repeat (first | exact Split.nil _ | (apply Split.cons; focus (repeat (first | exact Find.head _ | apply Find.tail))))))) ?_
            refine qj_val (wn1 rfl rfl rfl rfl) rfl rfl (y_move rfl) ?_
            refine qj_val (wn1 rfl rfl rfl rfl) rfl rfl (y_slen Try.underlying9 rfl) ?_
            refine qj_val (wn1 rfl rfl rfl rfl) rfl rfl (y_move rfl) ?_
            refine qj_val (wn1 rfl rfl rfl rfl) rfl rfl (y_nilCheck rfl) ?_
            refine qj_val (wn1 rfl rfl rfl rfl) rfl rfl (y_fieldAddr Try.underlying39 rfl (n := 1) (by decide) Try.sizeOf3 rfl) ?_
            refine qj_val (wn1 rfl rfl rfl rfl) rfl rfl (y_load ⟨Try.isAgg3, Try.sizeOf3⟩ rfl (by (repeat (first | exact Find.head _ | apply Find.tail))) rfl) ?_
            first | refine qj_val (wn1 rfl rfl rfl rfl) rfl rfl (y_sub64 rfl rfl (by omega)) ?_ | refine qj_val (wn1 rfl rfl rfl rfl) rfl rfl (y_sub rfl rfl) ?_
            refine qj_val (wn1 rfl rfl rfl rfl) rfl rfl (y_neq rfl rfl) ?_
            refine qj_eq 105 rfl (v' := .bool false) (by simp) ?_
            refine qj_val (wn0 rfl) rfl rfl (y_pick_f rfl rfl) ?_
            refine qj_nil ?_
            refine hK31 _ _ _ ?_
            refine cj_env (Env.le_cons (t := 0) rfl (Env.le_cons (t := 5) rfl (Env.le_cons (t := 6) rfl (Env.le_cons (t := 32) rfl (Env.le_cons (t := 33) rfl (Env.le_cons (t := 34) rfl (Env.le_cons (t := 106) rfl (Env.le_nil _)))))))) ?_
            refine cj_cond_f rfl ?_
            refine cj_skip ?_
            refine hK15 _ _ _ ?_
            refine cj_region ?_
            first | refine rj_val (wn0 rfl) rfl rfl (y_add64 rfl rfl (by omega)) ?_ | refine rj_val (wn0 rfl) rfl rfl (y_add rfl rfl) ?_
            refine rj_val (wn0 rfl) rfl rfl (y_move rfl) ?_
            refine rj_nil ?_
            refine ej_on (q' := roundK _ _ _ _ _ _ _) rfl ?_
            refine ej_round ((i + 1, k')) (⟨by simp only; omega, by simp only; omega, by simp only; omega⟩) (by simp only; omega) (Env.le_cons rfl (Env.le_cons rfl (Env.le_cons rfl (Env.le_cons rfl (Env.le_cons rfl (Env.le_cons rfl (Env.le_nil _))))))) rfl (by (repeat (first | exact Sub.refl _ | (apply Sub.pick; focus (repeat (first | exact Find.head _ | apply Find.tail))) | apply Sub.drop)))
      · try simp only [decide_eq_true_eq, decide_eq_false_iff_not, Bool.not_eq_true', Bool.not_eq_false', Bool.true_eq_false, Bool.false_eq_true] at hc35
        refine cj_exit ?_
        refine hK10 _ _ _ ?_
        refine cj_env (Env.le_nil _) ?_
        refine cj_seq (fun K32 hK32 => ?_)
        refine cj_region ?_
        refine rj_val (wn0 rfl) rfl rfl (y_assign rfl) ?_
        refine rj_nil ?_
        refine hK32 _ _ _ ?_
        refine cj_ret ?_
        refine hret _ _ _ ?_
        apply ej_ret Try.results6 (.cons (rv_tmp rfl) .nil) _ [] (Hp.le_refl _) rfl
        case hp => rfl
        case hS => (repeat (first | exact Sub.refl _ | (apply Sub.pick; focus (repeat (first | exact Find.head _ | apply Find.tail))) | apply Sub.drop))
theorem apart_t {R : Hp} (s : List UInt8) (hs : s.length ≤ maxLen) (v1 : Value) (zs : List Int) (ha : slcR 1 (intR .u8) R [v1] zs) :
    Tri Try.prog 4 [.string (str s), v1] R [] (fun v _ _ => v = .bool true) := by
  obtain ⟨q, cap, e, hlc, hcm, hz⟩ := ha
  obtain rfl : v1 = .slice q zs.length cap := by simpa using e
  clear e
  unfold maxLen at hs hcm
  refine tri_of Try.func4 rfl Try.ntmps4 rfl (fun σ F Q hret hend hpan => ?_)
  try simp only [List.cons_append, List.nil_append]
  refine cj_env (Env.le_cons (t := 0) rfl (Env.le_cons (t := 1) rfl (Env.le_nil _))) ?_
  refine cj_seq (fun K1 hK1 => ?_)
  refine cj_region ?_
  refine rj_val (wn0 rfl) rfl rfl (y_assign rfl) ?_
  refine rj_nil ?_
  refine hK1 _ _ _ ?_
  refine cj_seq (fun K2 hK2 => ?_)
  refine cj_seq (fun K3 hK3 => ?_)
  refine cj_region ?_
  refine rj_call (wn0 rfl) rfl Try.call7 rfl (awake_t) (by (repeat (first | exact Split.nil _ | (apply Split.cons; focus (repeat (first | exact Find.head _ | apply Find.tail)))))) (fun _ _ _ _ h => h.elim) ?_
  rintro v R' L' hR ⟨rfl, rfl, b0, rfl⟩
  try simp only [List.cons_append, List.nil_append]
  refine rj_val (wn0 rfl) rfl rfl (y_not rfl) ?_
  refine rj_nil ?_
  refine hK3 _ _ _ ?_
  refine cj_cond_f rfl ?_
  refine cj_skip ?_
  refine hK2 _ _ _ ?_
  refine cj_env (Env.le_cons (t := 0) rfl (Env.le_cons (t := 1) rfl (Env.le_nil _))) ?_
  refine cj_seq (fun K4 hK4 => ?_)
  refine cj_seq (fun K5 hK5 => ?_)
  refine cj_region ?_
  refine rj_val (wn0 rfl) rfl rfl (y_move rfl) ?_
  refine rj_val (wn0 rfl) rfl rfl (y_slen Try.underlying9 rfl) ?_
  refine rj_val (wn0 rfl) rfl rfl (y_gtr rfl rfl) ?_
  refine rj_val (wn0 rfl) rfl rfl (y_move rfl) ?_
  refine rj_part 17 rfl (fun hg17 => ?_) (fun hg17 => ?_)
  · try simp only [decide_eq_true_eq, decide_eq_false_iff_not, Bool.not_eq_true', Bool.not_eq_false', Bool.true_eq_false, Bool.false_eq_true] at hg17
    refine rj_skip (wn2 rfl rfl rfl rfl rfl) rfl rfl ?_
    refine rj_skip (wn2 rfl rfl rfl rfl rfl) rfl rfl ?_
    refine rj_skip (wn2 rfl rfl rfl rfl rfl) rfl rfl ?_
    refine rj_val (wn0 rfl) rfl rfl (y_pick_t rfl rfl) ?_
    refine rj_nil ?_
    refine hK5 _ _ _ ?_
    refine cj_env (Env.le_cons (t := 0) rfl (Env.le_cons (t := 1) rfl (Env.le_cons (t := 21) rfl (Env.le_nil _)))) ?_
    refine cj_cond_t rfl ?_
    refine cj_seq (fun K6 hK6 => ?_)
    refine cj_region ?_
    refine rj_val (wn0 rfl) rfl rfl (y_assign rfl) ?_
    refine rj_nil ?_
    refine hK6 _ _ _ ?_
    refine cj_env (Env.le_cons (t := 4) rfl (Env.le_nil _)) ?_
    refine cj_ret ?_
    refine hret _ _ _ ?_
    apply ej_ret Try.results4 (.cons (rv_tmp rfl) .nil) _ [] (Hp.le_refl _) rfl
    case hp => rfl
    case hS => (repeat (first | exact Sub.refl _ | (apply Sub.pick; focus (repeat (first | exact Find.head _ | apply Find.tail))) | apply Sub.drop))
  · try simp only [decide_eq_true_eq, decide_eq_false_iff_not, Bool.not_eq_true', Bool.not_eq_false', Bool.true_eq_false, Bool.false_eq_true] at hg17
    refine rj_val (wn1 rfl rfl rfl rfl) rfl rfl (y_move rfl) ?_
    refine rj_val (wn1 rfl rfl rfl rfl) rfl rfl (y_len_sl Try.underlying22 rfl) ?_
    refine rj_val (wn1 rfl rfl rfl rfl) rfl rfl (y_gtr rfl rfl) ?_
    refine rj_val (wn0 rfl) rfl rfl (y_pick_f rfl rfl) ?_
    refine rj_nil ?_
    refine hK5 _ _ _ ?_
    refine cj_env (Env.le_cons (t := 0) rfl (Env.le_cons (t := 1) rfl (Env.le_cons (t := 21) rfl (Env.le_nil _)))) ?_
    refine cj_cond rfl (fun hc21 => ?_) (fun hc21 => ?_)
    · try simp only [decide_eq_true_eq, decide_eq_false_iff_not, Bool.not_eq_true', Bool.not_eq_false', Bool.true_eq_false, Bool.false_eq_true] at hc21
      refine cj_seq (fun K8 hK8 => ?_)
      refine cj_region ?_
      refine rj_val (wn0 rfl) rfl rfl (y_assign rfl) ?_
      refine rj_nil ?_
      refine hK8 _ _ _ ?_
      refine cj_env (Env.le_cons (t := 4) rfl (Env.le_nil _)) ?_
      refine cj_ret ?_
      refine hret _ _ _ ?_
      apply ej_ret Try.results4 (.cons (rv_tmp rfl) .nil) _ [] (Hp.le_refl _) rfl
      case hp => rfl
      case hS => (repeat (first | exact Sub.refl _ | (apply Sub.pick; focus (repeat (first | exact Find.head _ | apply Find.tail))) | apply Sub.drop))
    · try simp only [decide_eq_true_eq, decide_eq_false_iff_not, Bool.not_eq_true', Bool.not_eq_false', Bool.true_eq_false, Bool.false_eq_true] at hc21
      refine cj_skip ?_
      refine hK4 _ _ _ ?_
      refine cj_seq (fun K9 hK9 => ?_)
      refine cj_region ?_
      refine rj_val (wn0 rfl) rfl rfl (y_move rfl) ?_
      refine rj_call (wn0 rfl) rfl Try.call8 rfl (new_t s) (by (repeat (first | exact Split.nil _ | (apply Split.cons; focus (repeat (first | exact Find.head _ | apply Find.tail)))))) (fun _ _ _ _ h => h.elim) ?_
      rintro v R' L' hR ⟨rfl, ba, rfl, rfl⟩
      try simp only [List.cons_append, List.nil_append]
      refine rj_val (wn0 rfl) rfl rfl (y_move rfl) ?_
      refine rj_call (wn0 rfl) rfl Try.call8 rfl (new_t s) (by (repeat (first | exact Split.nil _ | (apply Split.cons; focus (repeat (first | exact Find.head _ | apply Find.tail)))))) (fun _ _ _ _ h => h.elim) ?_
      rintro v R' L' hR ⟨rfl, bb, rfl, rfl⟩
      try simp only [List.cons_append, List.nil_append]
      refine rj_val (wn0 rfl) rfl rfl (y_assign rfl) ?_
      refine rj_val (wn0 rfl) rfl rfl (y_assign rfl) ?_
      refine rj_nil ?_
      refine hK9 _ _ _ ?_
      refine cj_env (Env.le_cons (t := 0) rfl (Env.le_cons (t := 1) rfl (Env.le_cons (t := 5) rfl (Env.le_cons (t := 6) rfl (Env.le_nil _))))) ?_
      refine cj_seq (fun K10 hK10 => ?_)
      refine cj_seq (fun K11 hK11 => ?_)
      refine cj_region ?_
      refine rj_val (wn0 rfl) rfl rfl (y_move rfl) ?_
      refine rj_val (wn0 rfl) rfl rfl (y_len_sl Try.underlying22 rfl) ?_
      refine rj_val (wn0 rfl) rfl rfl (y_move rfl) ?_
      refine rj_nil ?_
      refine hK11 _ _ _ ?_
      refine cj_block ?_
      refine cj_env (E' := (fun (x : Nat × Int × Int) => [(0, .string (str s)), (5, .pointer (some ⟨ba, 0, none⟩)), (6, .pointer (some ⟨bb, 0, none⟩)), (26, .slice q zs.length cap), (27, .int .i64 (zs.length : Int)), (28, .int .i64 (x.1 : Int))]) (0, 0, 0)) (Env.le_cons rfl (Env.le_cons rfl (Env.le_cons rfl (Env.le_cons rfl (Env.le_cons rfl (Env.le_cons rfl (Env.le_nil _))))))) ?_
      refine cj_sub (M := (fun (x : Nat × Int × Int) => tapeA ba s x.2.1 :: tapeA bb s x.2.2 :: F) (0, 0, 0)) (by (repeat (first | exact Sub.refl _ | (apply Sub.pick; focus (repeat (first | exact Find.head _ | apply Find.tail))) | apply Sub.drop))) ?_
      refine cj_loop (fun (x : Nat × Int × Int) => [(0, .string (str s)), (5, .pointer (some ⟨ba, 0, none⟩)), (6, .pointer (some ⟨bb, 0, none⟩)), (26, .slice q zs.length cap), (27, .int .i64 (zs.length : Int)), (28, .int .i64 (x.1 : Int))]) (fun (x : Nat × Int × Int) => R) (fun (x : Nat × Int × Int) => tapeA ba s x.2.1 :: tapeA bb s x.2.2 :: F) (fun (x : Nat × Int × Int) => x.1 ≤ zs.length ∧ 0 ≤ x.2.1 ∧ x.2.1 ≤ s.length ∧ 0 ≤ x.2.2 ∧ x.2.2 ≤ s.length) (fun (x : Nat × Int × Int) => zs.length - x.1) (0, 0, 0) (⟨by simp, by simp, by simp, by simp, by simp⟩) ?_
      rintro ⟨i, k, m⟩ ⟨hi, hk0, hk1, hm0, hm1⟩
      try dsimp only
      dsimp only at hi hk0 hk1 hm0 hm1
      refine cj_seq (fun K12 hK12 => ?_)
      refine cj_region ?_
      refine rj_val (wn0 rfl) rfl rfl (y_lss rfl rfl) ?_
      refine rj_nil ?_
      refine hK12 _ _ _ ?_
      refine cj_seq (fun K13 hK13 => ?_)
      refine cj_cond rfl (fun hc29 => ?_) (fun hc29 => ?_)
      · try simp only [decide_eq_true_eq, decide_eq_false_iff_not, Bool.not_eq_true', Bool.not_eq_false', Bool.true_eq_false, Bool.false_eq_true] at hc29
        refine cj_skip ?_
        refine hK13 _ _ _ ?_
        refine cj_seq (fun K15 hK15 => ?_)
        refine cj_block ?_
        refine cj_seq (fun K16 hK16 => ?_)
        refine cj_region ?_
        obtain ⟨b, off, rfl, hz2⟩ := hz.resolve_left (by rintro rfl; simp at hc29; omega)
        obtain ⟨c, hcl, hcc, e1, bd1⟩ := hz2 i (by omega)
        obtain ⟨z, hzz⟩ : ∃ a, a = zs[i]'(by omega) := ⟨_, rfl⟩
        rw [← hzz] at e1 bd1
        subst e1
        have bd2 : 0 ≤ z ∧ z ≤ 255 := bd1
        obtain ⟨k', hk'⟩ : ∃ k', k' = (takeM s k (z % 4)).2.2 := ⟨_, rfl⟩
        obtain ⟨m', hm'⟩ : ∃ m', m' = (takeM s m z).2.2 := ⟨_, rfl⟩
        have ht := takeM_k (s := s) (k := k) (n := z % 4) ⟨hk0, hk1⟩
        have hb := takeM_k (s := s) (k := m) (n := z) ⟨hm0, hm1⟩
        rw [← hk'] at ht
        rw [← hm'] at hb
        have htm : z.tmod 4 = z % 4 := Int.tmod_eq_emod_of_nonneg bd2.1
        refine rj_val (wn0 rfl) rfl rfl (y_indexAddr Try.underlying22 Try.sizeOf5 rfl rfl (by omega)) ?_
        refine rj_val (wn0 rfl) rfl rfl (y_load_ro ⟨Try.isAgg5, Try.sizeOf5⟩ rfl (by have := hcc 0 _ rfl; simpa using this)) ?_
        refine rj_val (wn0 rfl) rfl rfl (y_assign rfl) ?_
        refine rj_nil ?_
        refine hK16 _ _ _ ?_
        refine cj_env (Env.le_cons (t := 0) rfl (Env.le_cons (t := 5) rfl (Env.le_cons (t := 6) rfl (Env.le_cons (t := 8) rfl (Env.le_cons (t := 26) rfl (Env.le_cons (t := 27) rfl (Env.le_cons (t := 28) rfl (Env.le_nil _)))))))) ?_
        refine cj_seq (fun K17 hK17 => ?_)
        refine cj_region ?_
        refine rj_val (wn0 rfl) rfl rfl (y_move rfl) ?_
        refine rj_val (wn0 rfl) rfl rfl (y_call Try.call11 rfl (taken_q ba s k) (by (repeat (first | exact Split.nil _ | (apply Split.cons; focus (repeat (first | exact Find.head _ | apply Find.tail))))))) ?_
        refine rj_val (wn0 rfl) rfl rfl (y_assign rfl) ?_
        refine rj_nil ?_
        refine hK17 _ _ _ ?_
        refine cj_seq (fun K18 hK18 => ?_)
        refine cj_region ?_
        refine rj_val (wn0 rfl) rfl rfl (y_move rfl) ?_
        refine rj_val (wn0 rfl) rfl rfl (y_move rfl) ?_
        first | refine rj_val (wn0 rfl) rfl rfl (y_conv_in Try.underlying5 Try.underlying3 rfl (by (simp only [IntKind.min, IntKind.max, IntKind.signed, IntKind.bits, Bool.false_eq_true, ite_false, ite_true]; omega))) ?_ | refine rj_val (wn0 rfl) rfl rfl (y_conv Try.underlying5 Try.underlying3 rfl) ?_
        refine rj_call (wn0 rfl) rfl Try.call10 rfl (take_t bb s m z ⟨hm0, hm1, by omega⟩) (by (repeat (first | exact Split.nil _ | (apply Split.cons; focus (repeat (first | exact Find.head _ | apply Find.tail)))))) (fun _ _ _ _ h => h.elim) ?_
        rintro v R' L' hR ⟨rfl, rfl, rfl⟩
        rw [← hm']
        try simp only [List.cons_append, List.nil_append]
        refine rj_nil ?_
        refine hK18 _ _ _ ?_
        refine cj_env (Env.le_cons (t := 0) rfl (Env.le_cons (t := 5) rfl (Env.le_cons (t := 6) rfl (Env.le_cons (t := 8) rfl (Env.le_cons (t := 9) rfl (Env.le_cons (t := 26) rfl (Env.le_cons (t := 27) rfl (Env.le_cons (t := 28) rfl (Env.le_nil _))))))))) ?_
        refine cj_seq (fun K19 hK19 => ?_)
        refine cj_seq (fun K20 hK20 => ?_)
        refine cj_region ?_
        refine rj_val (wn0 rfl) rfl rfl (y_move rfl) ?_
        refine rj_val (wn0 rfl) rfl rfl (y_call Try.call11 rfl (taken_q ba s k) (by (repeat (first | exact Split.nil _ | (apply Split.cons; focus (repeat (first | exact Find.head _ | apply Find.tail))))))) ?_
        refine rj_val (wn0 rfl) rfl rfl (y_move rfl) ?_
        refine rj_val (wn0 rfl) rfl rfl (y_neq rfl rfl) ?_
        refine rj_eq 41 rfl (v' := .bool false) (by simp) ?_
        refine rj_nil ?_
        refine hK20 _ _ _ ?_
        refine cj_env (Env.le_cons (t := 0) rfl (Env.le_cons (t := 5) rfl (Env.le_cons (t := 6) rfl (Env.le_cons (t := 8) rfl (Env.le_cons (t := 9) rfl (Env.le_cons (t := 26) rfl (Env.le_cons (t := 27) rfl (Env.le_cons (t := 28) rfl (Env.le_cons (t := 41) rfl (Env.le_nil _)))))))))) ?_
        refine cj_cond_f rfl ?_
        refine cj_skip ?_
        refine hK19 _ _ _ ?_
        refine cj_seq (fun K21 hK21 => ?_)
        refine cj_region ?_
        refine rj_val (wn0 rfl) rfl rfl (y_move rfl) ?_
        refine rj_val (wn0 rfl) rfl rfl (y_move rfl) ?_
        refine rj_val (wn0 rfl) rfl rfl (y_rem rfl rfl (by omega)) ?_
        refine rj_eq 45 rfl (congrArg _ htm) ?_
        first | refine rj_val (wn0 rfl) rfl rfl (y_conv_in Try.underlying5 Try.underlying3 rfl (by (simp only [IntKind.min, IntKind.max, IntKind.signed, IntKind.bits, Bool.false_eq_true, ite_false, ite_true]; omega))) ?_ | refine rj_val (wn0 rfl) rfl rfl (y_conv Try.underlying5 Try.underlying3 rfl) ?_
        refine rj_call (wn0 rfl) rfl Try.call10 rfl (take_t ba s k (z % 4) ⟨hk0, hk1, by omega⟩) (by (repeat (first | exact Split.nil _ | (apply Split.cons; focus (repeat (first | exact Find.head _ | apply Find.tail)))))) (fun _ _ _ _ h => h.elim) ?_
        rintro v R' L' hR ⟨rfl, rfl, rfl⟩
        rw [← hk']
        try simp only [List.cons_append, List.nil_append]
        refine rj_val (wn0 rfl) rfl rfl (y_move rfl) ?_
        refine rj_val (wn0 rfl) rfl rfl (y_extract rfl rfl) ?_
        refine rj_val (wn0 rfl) rfl rfl (y_extract rfl rfl) ?_
        refine rj_val (wn0 rfl) rfl rfl (y_assign rfl) ?_
        refine rj_val (wn0 rfl) rfl rfl (y_assign rfl) ?_
        refine rj_nil ?_
        refine hK21 _ _ _ ?_
        refine cj_env (Env.le_cons (t := 0) rfl (Env.le_cons (t := 5) rfl (Env.le_cons (t := 6) rfl (Env.le_cons (t := 8) rfl (Env.le_cons (t := 9) rfl (Env.le_cons (t := 10) rfl (Env.le_cons (t := 11) rfl (Env.le_cons (t := 26) rfl (Env.le_cons (t := 27) rfl (Env.le_cons (t := 28) rfl (Env.le_nil _))))))))))) ?_
        refine cj_seq (fun K22 hK22 => ?_)
        refine cj_region ?_
        refine rj_val (wn0 rfl) rfl rfl (y_move rfl) ?_
        refine rj_val (wn0 rfl) rfl rfl (y_eql rfl rfl) ?_
        refine rj_val (wn0 rfl) rfl rfl (y_move rfl) ?_
        refine rj_part 52 rfl (fun hg52 => ?_) (fun hg52 => ?_)
        · try simp only [decide_eq_true_eq, decide_eq_false_iff_not, Bool.not_eq_true', Bool.not_eq_false', Bool.true_eq_false, Bool.false_eq_true] at hg52
          refine rj_val (wn1 rfl rfl rfl rfl) rfl rfl (y_move rfl) ?_
          refine rj_val (wn1 rfl rfl rfl rfl) rfl rfl (y_move rfl) ?_
          refine rj_val (wn1 rfl rfl rfl rfl) rfl rfl (y_move rfl) ?_
          refine rj_val (wn1 rfl rfl rfl rfl) rfl rfl (y_move rfl) ?_
          refine rj_val (wn1 rfl rfl rfl rfl) rfl rfl (y_move rfl) ?_
          refine rj_val (wn1 rfl rfl rfl rfl) rfl rfl (y_rem rfl rfl (by omega)) ?_
          refine rj_eq 58 rfl (congrArg _ htm) ?_
          first | refine rj_val (wn1 rfl rfl rfl rfl) rfl rfl (y_conv_in Try.underlying5 Try.underlying3 rfl (by (simp only [IntKind.min, IntKind.max, IntKind.signed, IntKind.bits, Bool.false_eq_true, ite_false, ite_true]; omega))) ?_ | refine rj_val (wn1 rfl rfl rfl rfl) rfl rfl (y_conv Try.underlying5 Try.underlying3 rfl) ?_
          first | refine rj_val (wn1 rfl rfl rfl rfl) rfl rfl (y_add64 rfl rfl (by omega)) ?_ | refine rj_val (wn1 rfl rfl rfl rfl) rfl rfl (y_add rfl rfl) ?_
          have hbd := takeM_ok (s := s) (k := k) (n := z % 4) hg52
          refine rj_val (wn1 rfl rfl rfl rfl) rfl rfl (y_slice_s Try.underlying9 rfl rfl rfl (by omega)) ?_
          refine rj_val (wn1 rfl rfl rfl rfl) rfl rfl (y_sneq rfl rfl) ?_
          refine rj_eq 62 rfl (v' := .bool false) (by rw [hbd.2.1, show (k + z % 4).toNat - k.toNat = (z % 4).toNat by omega]; simp) ?_
          refine rj_val (wn0 rfl) rfl rfl (y_pick_t rfl rfl) ?_
          refine rj_nil ?_
          refine hK22 _ _ _ ?_
          refine cj_env (Env.le_cons (t := 0) rfl (Env.le_cons (t := 5) rfl (Env.le_cons (t := 6) rfl (Env.le_cons (t := 26) rfl (Env.le_cons (t := 27) rfl (Env.le_cons (t := 28) rfl (Env.le_cons (t := 63) rfl (Env.le_nil _)))))))) ?_
          refine cj_cond_f rfl ?_
          refine cj_skip ?_
          refine hK15 _ _ _ ?_
          refine cj_region ?_
          first | refine rj_val (wn0 rfl) rfl rfl (y_add64 rfl rfl (by omega)) ?_ | refine rj_val (wn0 rfl) rfl rfl (y_add rfl rfl) ?_
          refine rj_val (wn0 rfl) rfl rfl (y_move rfl) ?_
          refine rj_nil ?_
          refine ej_on (q' := roundK _ _ _ _ _ _ _) rfl ?_
          refine ej_round ((i + 1, k', m')) (⟨by simp only; omega, by simp only; omega, by simp only; omega, by simp only; omega, by simp only; omega⟩) (by simp only; omega) (Env.le_cons rfl (Env.le_cons rfl (Env.le_cons rfl (Env.le_cons rfl (Env.le_cons rfl (Env.le_cons rfl (Env.le_nil _))))))) rfl (by (repeat (first | exact Sub.refl _ | (apply Sub.pick; focus (repeat (first | exact Find.head _ | apply Find.tail))) | apply Sub.drop)))
        · try simp only [decide_eq_true_eq, decide_eq_false_iff_not, Bool.not_eq_true', Bool.not_eq_false', Bool.true_eq_false, Bool.false_eq_true] at hg52
          refine rj_skip (wn2 rfl rfl rfl rfl rfl) rfl rfl ?_
          refine rj_skip (wn2 rfl rfl rfl rfl rfl) rfl rfl ?_
          refine rj_skip (wn2 rfl rfl rfl rfl rfl) rfl rfl ?_
          refine rj_skip (wn2 rfl rfl rfl rfl rfl) rfl rfl ?_
          refine rj_skip (wn2 rfl rfl rfl rfl rfl) rfl rfl ?_
          refine rj_skip (wn2 rfl rfl rfl rfl rfl) rfl rfl ?_
          refine rj_skip (wn2 rfl rfl rfl rfl rfl) rfl rfl ?_
          refine rj_skip (wn2 rfl rfl rfl rfl rfl) rfl rfl ?_
          refine rj_skip (wn2 rfl rfl rfl rfl rfl) rfl rfl ?_
          refine rj_skip (wn2 rfl rfl rfl rfl rfl) rfl rfl ?_
          refine rj_val (wn0 rfl) rfl rfl (y_pick_f rfl rfl) ?_
          refine rj_nil ?_
          refine hK22 _ _ _ ?_
          refine cj_env (Env.le_cons (t := 0) rfl (Env.le_cons (t := 5) rfl (Env.le_cons (t := 6) rfl (Env.le_cons (t := 26) rfl (Env.le_cons (t := 27) rfl (Env.le_cons (t := 28) rfl (Env.le_cons (t := 63) rfl (Env.le_nil _)))))))) ?_
          refine cj_cond_f rfl ?_
          refine cj_skip ?_
          refine hK15 _ _ _ ?_
          refine cj_region ?_
          first | refine rj_val (wn0 rfl) rfl rfl (y_add64 rfl rfl (by omega)) ?_ | refine rj_val (wn0 rfl) rfl rfl (y_add rfl rfl) ?_
          refine rj_val (wn0 rfl) rfl rfl (y_move rfl) ?_
          refine rj_nil ?_
          refine ej_on (q' := roundK _ _ _ _ _ _ _) rfl ?_
          refine ej_round ((i + 1, k', m')) (⟨by simp only; omega, by simp only; omega, by simp only; omega, by simp only; omega, by simp only; omega⟩) (by simp only; omega) (Env.le_cons rfl (Env.le_cons rfl (Env.le_cons rfl (Env.le_cons rfl (Env.le_cons rfl (Env.le_cons rfl (Env.le_nil _))))))) rfl (by (repeat (first | exact Sub.refl _ | (apply Sub.pick; focus (repeat (first | exact Find.head _ | apply Find.tail))) | apply Sub.drop)))
      · try simp only [decide_eq_true_eq, decide_eq_false_iff_not, Bool.not_eq_true', Bool.not_eq_false', Bool.true_eq_false, Bool.false_eq_true] at hc29
        refine cj_exit ?_
        refine hK10 _ _ _ ?_
        refine cj_env (Env.le_cons (t := 0) rfl (Env.le_cons (t := 5) rfl (Env.le_cons (t := 6) rfl (Env.le_nil _)))) ?_
        refine cj_seq (fun K23 hK23 => ?_)
        refine cj_region ?_
        refine rj_val (wn0 rfl) rfl rfl (y_move rfl) ?_
        refine rj_val (wn0 rfl) rfl rfl (y_call Try.call11 rfl (taken_q ba s k) (by (repeat (first | exact Split.nil _ | (apply Split.cons; focus (repeat (first | exact Find.head _ | apply Find.tail))))))) ?_
        refine rj_val (wn0 rfl) rfl rfl (y_move rfl) ?_
        refine rj_val (wn0 rfl) rfl rfl (y_call Try.call9 rfl (left_q ba s k ⟨hk0, hk1, by omega⟩) (by (repeat (first | exact Split.nil _ | (apply Split.cons; focus (repeat (first | exact Find.head _ | apply Find.tail))))))) ?_
        first | refine rj_val (wn0 rfl) rfl rfl (y_add64 rfl rfl (by omega)) ?_ | refine rj_val (wn0 rfl) rfl rfl (y_add rfl rfl) ?_
        refine rj_val (wn0 rfl) rfl rfl (y_move rfl) ?_
        refine rj_val (wn0 rfl) rfl rfl (y_slen Try.underlying9 rfl) ?_
        refine rj_val (wn0 rfl) rfl rfl (y_eql rfl rfl) ?_
        refine rj_eq 72 rfl (v' := .bool true) (by simp; omega) ?_
        refine rj_val (wn0 rfl) rfl rfl (y_move rfl) ?_
        refine rj_val (wn1 rfl rfl rfl rfl) rfl rfl (y_move rfl) ?_
        refine rj_val (wn1 rfl rfl rfl rfl) rfl rfl (y_call Try.call11 rfl (taken_q bb s m) (by (repeat (first | exact Split.nil _ | (apply Split.cons; focus (repeat (first | exact Find.head _ | apply Find.tail))))))) ?_
        refine rj_val (wn1 rfl rfl rfl rfl) rfl rfl (y_move rfl) ?_
        refine rj_val (wn1 rfl rfl rfl rfl) rfl rfl (y_call Try.call9 rfl (left_q bb s m ⟨hm0, hm1, by omega⟩) (by (repeat (first | exact Split.nil _ | (apply Split.cons; focus (repeat (first | exact Find.head _ | apply Find.tail))))))) ?_
        first | refine rj_val (wn1 rfl rfl rfl rfl) rfl rfl (y_add64 rfl rfl (by omega)) ?_ | refine rj_val (wn1 rfl rfl rfl rfl) rfl rfl (y_add rfl rfl) ?_
        refine rj_val (wn1 rfl rfl rfl rfl) rfl rfl (y_move rfl) ?_
        refine rj_val (wn1 rfl rfl rfl rfl) rfl rfl (y_slen Try.underlying9 rfl) ?_
        refine rj_val (wn1 rfl rfl rfl rfl) rfl rfl (y_eql rfl rfl) ?_
        refine rj_eq 81 rfl (v' := .bool true) (by simp; omega) ?_
        refine rj_val (wn0 rfl) rfl rfl (y_pick_t rfl rfl) ?_
        refine rj_val (wn0 rfl) rfl rfl (y_assign rfl) ?_
        refine rj_nil ?_
        refine hK23 _ _ _ ?_
        refine cj_env (Env.le_cons (t := 4) rfl (Env.le_nil _)) ?_
        refine cj_ret ?_
        refine hret _ _ _ ?_
        apply ej_ret Try.results4 (.cons (rv_tmp rfl) .nil) _ [] (Hp.le_refl _) rfl
        case hp => rfl
        case hS => (repeat (first | exact Sub.refl _ | (apply Sub.pick; focus (repeat (first | exact Find.head _ | apply Find.tail))) | apply Sub.drop))
theorem whole_t {R : Hp} (s : List UInt8) (hs : s.length ≤ maxLen) (v1 : Value) (zs : List Int) (ha : slcR 1 (intR .u8) R [v1] zs) :
    Tri Try.prog 3 [.string (str s), v1] R [] (fun v _ _ => v = .bool true) := by
  obtain ⟨q, cap, e, hlc, hcm, hz⟩ := ha
  obtain rfl : v1 = .slice q zs.length cap := by simpa using e
  clear e
  unfold maxLen at hs hcm
  refine tri_of Try.func3 rfl Try.ntmps3 rfl (fun σ F Q hret hend hpan => ?_)
  try simp only [List.cons_append, List.nil_append]
  refine cj_env (Env.le_cons (t := 0) rfl (Env.le_cons (t := 1) rfl (Env.le_nil _))) ?_
  refine cj_seq (fun K1 hK1 => ?_)
  refine cj_region ?_
  refine rj_val (wn0 rfl) rfl rfl (y_assign rfl) ?_
  refine rj_nil ?_
  refine hK1 _ _ _ ?_
  refine cj_seq (fun K2 hK2 => ?_)
  refine cj_seq (fun K3 hK3 => ?_)
  refine cj_region ?_
  refine rj_call (wn0 rfl) rfl Try.call7 rfl (awake_t) (by (repeat (first | exact Split.nil _ | (apply Split.cons; focus (repeat (first | exact Find.head _ | apply Find.tail)))))) (fun _ _ _ _ h => h.elim) ?_
  rintro v R' L' hR ⟨rfl, rfl, b0, rfl⟩
  try simp only [List.cons_append, List.nil_append]
  refine rj_val (wn0 rfl) rfl rfl (y_not rfl) ?_
  refine rj_nil ?_
  refine hK3 _ _ _ ?_
  refine cj_cond_f rfl ?_
  refine cj_skip ?_
  refine hK2 _ _ _ ?_
  refine cj_env (Env.le_cons (t := 0) rfl (Env.le_cons (t := 1) rfl (Env.le_nil _))) ?_
  refine cj_seq (fun K4 hK4 => ?_)
  refine cj_seq (fun K5 hK5 => ?_)
  refine cj_region ?_
  refine rj_val (wn0 rfl) rfl rfl (y_move rfl) ?_
  refine rj_val (wn0 rfl) rfl rfl (y_slen Try.underlying9 rfl) ?_
  refine rj_val (wn0 rfl) rfl rfl (y_gtr rfl rfl) ?_
  refine rj_val (wn0 rfl) rfl rfl (y_move rfl) ?_
  refine rj_part 16 rfl (fun hg16 => ?_) (fun hg16 => ?_)
  · try simp only [decide_eq_true_eq, decide_eq_false_iff_not, Bool.not_eq_true', Bool.not_eq_false', Bool.true_eq_false, Bool.false_eq_true] at hg16
    refine rj_skip (wn2 rfl rfl rfl rfl rfl) rfl rfl ?_
    refine rj_skip (wn2 rfl rfl rfl rfl rfl) rfl rfl ?_
    refine rj_skip (wn2 rfl rfl rfl rfl rfl) rfl rfl ?_
    refine rj_val (wn0 rfl) rfl rfl (y_pick_t rfl rfl) ?_
    refine rj_val (wn0 rfl) rfl rfl (y_move rfl) ?_
    refine rj_skip (wn2 rfl rfl rfl rfl rfl) rfl rfl ?_
    refine rj_skip (wn2 rfl rfl rfl rfl rfl) rfl rfl ?_
    refine rj_skip (wn2 rfl rfl rfl rfl rfl) rfl rfl ?_
    refine rj_val (wn0 rfl) rfl rfl (y_pick_t rfl rfl) ?_
    refine rj_nil ?_
    refine hK5 _ _ _ ?_
    refine cj_env (Env.le_cons (t := 0) rfl (Env.le_cons (t := 1) rfl (Env.le_cons (t := 25) rfl (Env.le_nil _)))) ?_
    refine cj_cond_t rfl ?_
    refine cj_seq (fun K6 hK6 => ?_)
    refine cj_region ?_
    refine rj_val (wn0 rfl) rfl rfl (y_assign rfl) ?_
    refine rj_nil ?_
    refine hK6 _ _ _ ?_
    refine cj_env (Env.le_cons (t := 4) rfl (Env.le_nil _)) ?_
    refine cj_ret ?_
    refine hret _ _ _ ?_
    apply ej_ret Try.results3 (.cons (rv_tmp rfl) .nil) _ [] (Hp.le_refl _) rfl
    case hp => rfl
    case hS => (repeat (first | exact Sub.refl _ | (apply Sub.pick; focus (repeat (first | exact Find.head _ | apply Find.tail))) | apply Sub.drop))
  · try simp only [decide_eq_true_eq, decide_eq_false_iff_not, Bool.not_eq_true', Bool.not_eq_false', Bool.true_eq_false, Bool.false_eq_true] at hg16
    refine rj_val (wn1 rfl rfl rfl rfl) rfl rfl (y_move rfl) ?_
    refine rj_val (wn1 rfl rfl rfl rfl) rfl rfl (y_len_sl Try.underlying22 rfl) ?_
    refine rj_val (wn1 rfl rfl rfl rfl) rfl rfl (y_eql rfl rfl) ?_
    refine rj_val (wn0 rfl) rfl rfl (y_pick_f rfl rfl) ?_
    refine rj_val (wn0 rfl) rfl rfl (y_move rfl) ?_
    refine rj_part 21 rfl (fun hg21 => ?_) (fun hg21 => ?_)
    · try simp only [decide_eq_true_eq, decide_eq_false_iff_not, Bool.not_eq_true', Bool.not_eq_false', Bool.true_eq_false, Bool.false_eq_true] at hg21
      refine rj_skip (wn2 rfl rfl rfl rfl rfl) rfl rfl ?_
      refine rj_skip (wn2 rfl rfl rfl rfl rfl) rfl rfl ?_
      refine rj_skip (wn2 rfl rfl rfl rfl rfl) rfl rfl ?_
      refine rj_val (wn0 rfl) rfl rfl (y_pick_t rfl rfl) ?_
      refine rj_nil ?_
      refine hK5 _ _ _ ?_
      refine cj_env (Env.le_cons (t := 0) rfl (Env.le_cons (t := 1) rfl (Env.le_cons (t := 25) rfl (Env.le_nil _)))) ?_
      refine cj_cond_t rfl ?_
      refine cj_seq (fun K7 hK7 => ?_)
      refine cj_region ?_
      refine rj_val (wn0 rfl) rfl rfl (y_assign rfl) ?_
      refine rj_nil ?_
      refine hK7 _ _ _ ?_
      refine cj_env (Env.le_cons (t := 4) rfl (Env.le_nil _)) ?_
      refine cj_ret ?_
      refine hret _ _ _ ?_
      apply ej_ret Try.results3 (.cons (rv_tmp rfl) .nil) _ [] (Hp.le_refl _) rfl
      case hp => rfl
      case hS => (repeat (first | exact Sub.refl _ | (apply Sub.pick; focus (repeat (first | exact Find.head _ | apply Find.tail))) | apply Sub.drop))
    · try simp only [decide_eq_true_eq, decide_eq_false_iff_not, Bool.not_eq_true', Bool.not_eq_false', Bool.true_eq_false, Bool.false_eq_true] at hg21
      refine rj_val (wn1 rfl rfl rfl rfl) rfl rfl (y_move rfl) ?_
      refine rj_val (wn1 rfl rfl rfl rfl) rfl rfl (y_len_sl Try.underlying22 rfl) ?_
      refine rj_val (wn1 rfl rfl rfl rfl) rfl rfl (y_gtr rfl rfl) ?_
      refine rj_val (wn0 rfl) rfl rfl (y_pick_f rfl rfl) ?_
      refine rj_nil ?_
      refine hK5 _ _ _ ?_
      refine cj_env (Env.le_cons (t := 0) rfl (Env.le_cons (t := 1) rfl (Env.le_cons (t := 25) rfl (Env.le_nil _)))) ?_
      refine cj_cond rfl (fun hc25 => ?_) (fun hc25 => ?_)
      · try simp only [decide_eq_true_eq, decide_eq_false_iff_not, Bool.not_eq_true', Bool.not_eq_false', Bool.true_eq_false, Bool.false_eq_true] at hc25
        refine cj_seq (fun K9 hK9 => ?_)
        refine cj_region ?_
        refine rj_val (wn0 rfl) rfl rfl (y_assign rfl) ?_
        refine rj_nil ?_
        refine hK9 _ _ _ ?_
        refine cj_env (Env.le_cons (t := 4) rfl (Env.le_nil _)) ?_
        refine cj_ret ?_
        refine hret _ _ _ ?_
        apply ej_ret Try.results3 (.cons (rv_tmp rfl) .nil) _ [] (Hp.le_refl _) rfl
        case hp => rfl
        case hS => (repeat (first | exact Sub.refl _ | (apply Sub.pick; focus (repeat (first | exact Find.head _ | apply Find.tail))) | apply Sub.drop))
      · try simp only [decide_eq_true_eq, decide_eq_false_iff_not, Bool.not_eq_true', Bool.not_eq_false', Bool.true_eq_false, Bool.false_eq_true] at hc25
        refine cj_skip ?_
        refine hK4 _ _ _ ?_
        refine cj_seq (fun K10 hK10 => ?_)
        refine cj_region ?_
        refine rj_val (wn0 rfl) rfl rfl (y_move rfl) ?_
        refine rj_call (wn0 rfl) rfl Try.call8 rfl (new_t s) (by (repeat (first | exact Split.nil _ | (apply Split.cons; focus (repeat (first | exact Find.head _ | apply Find.tail)))))) (fun _ _ _ _ h => h.elim) ?_
        rintro v R' L' hR ⟨rfl, ba, rfl, rfl⟩
        try simp only [List.cons_append, List.nil_append]
        refine rj_val (wn0 rfl) rfl rfl (y_assign rfl) ?_
        refine rj_nil ?_
        refine hK10 _ _ _ ?_
        refine cj_env (Env.le_cons (t := 0) rfl (Env.le_cons (t := 1) rfl (Env.le_cons (t := 5) rfl (Env.le_nil _)))) ?_
        refine cj_seq (fun K11 hK11 => ?_)
        refine cj_region ?_
        refine rj_val (wn0 rfl) rfl rfl (y_assign rfl) ?_
        refine rj_nil ?_
        refine hK11 _ _ _ ?_
        refine cj_seq (fun K12 hK12 => ?_)
        refine cj_seq (fun K13 hK13 => ?_)
        refine cj_region ?_
        refine rj_val (wn0 rfl) rfl rfl (y_assign rfl) ?_
        refine rj_nil ?_
        refine hK13 _ _ _ ?_
        refine cj_block ?_
        refine cj_env (E' := (fun (x : Nat × Int) => [(0, .string (str s)), (1, .slice q zs.length cap), (5, .pointer (some ⟨ba, 0, none⟩)), (6, .string (str (s.take x.2.toNat))), (7, .int .i64 (x.1 : Int))]) (0, 0)) (Env.le_cons rfl (Env.le_cons rfl (Env.le_cons rfl (Env.le_cons (Eq.trans rfl (congrArg some (by first | rfl | (rw [hall]; done) | (simp; done)))) (Env.le_cons rfl (Env.le_nil _)))))) ?_
        refine cj_sub (M := (fun (x : Nat × Int) => tapeA ba s x.2 :: F) (0, 0)) (by (repeat (first | exact Sub.refl _ | (apply Sub.pick; focus (repeat (first | exact Find.head _ | apply Find.tail))) | apply Sub.drop))) ?_
        refine cj_loop (fun (x : Nat × Int) => [(0, .string (str s)), (1, .slice q zs.length cap), (5, .pointer (some ⟨ba, 0, none⟩)), (6, .string (str (s.take x.2.toNat))), (7, .int .i64 (x.1 : Int))]) (fun (x : Nat × Int) => R) (fun (x : Nat × Int) => tapeA ba s x.2 :: F) (fun (x : Nat × Int) => x.1 ≤ 2000 ∧ 0 ≤ x.2 ∧ x.2 ≤ s.length) (fun (x : Nat × Int) => 2000 - x.1) (0, 0) (⟨by simp, by simp, by simp⟩) ?_
        rintro ⟨i, k⟩ ⟨hi, hk0, hk1⟩
        try dsimp only
        dsimp only at hi hk0 hk1
        refine cj_seq (fun K14 hK14 => ?_)
        refine cj_seq (fun K15 hK15 => ?_)
        refine cj_region ?_
        refine rj_val (wn0 rfl) rfl rfl (y_move rfl) ?_
        refine rj_val (wn0 rfl) rfl rfl (y_lss rfl rfl) ?_
        refine rj_val (wn0 rfl) rfl rfl (y_move rfl) ?_
        refine rj_part 30 rfl (fun hg30 => ?_) (fun hg30 => ?_)
        · try simp only [decide_eq_true_eq, decide_eq_false_iff_not, Bool.not_eq_true', Bool.not_eq_false', Bool.true_eq_false, Bool.false_eq_true] at hg30
          refine rj_val (wn1 rfl rfl rfl rfl) rfl rfl (y_move rfl) ?_
          refine rj_val (wn1 rfl rfl rfl rfl) rfl rfl (y_call Try.call9 rfl (left_q ba s k ⟨hk0, hk1, by omega⟩) (by (repeat (first | exact Split.nil _ | (apply Split.cons; focus (repeat (first | exact Find.head _ | apply Find.tail))))))) ?_
          refine rj_val (wn1 rfl rfl rfl rfl) rfl rfl (y_gtr rfl rfl) ?_
          refine rj_val (wn0 rfl) rfl rfl (y_pick_t rfl rfl) ?_
          refine rj_nil ?_
          refine hK15 _ _ _ ?_
          refine cj_env (Env.le_cons (t := 0) rfl (Env.le_cons (t := 1) rfl (Env.le_cons (t := 5) rfl (Env.le_cons (t := 6) rfl (Env.le_cons (t := 7) rfl (Env.le_cons (t := 34) rfl (Env.le_nil _))))))) ?_
          refine cj_cond rfl (fun hc34 => ?_) (fun hc34 => ?_)
          · try simp only [decide_eq_true_eq, decide_eq_false_iff_not, Bool.not_eq_true', Bool.not_eq_false', Bool.true_eq_false, Bool.false_eq_true] at hc34
            refine cj_skip ?_
            refine hK14 _ _ _ ?_
            refine cj_seq (fun K17 hK17 => ?_)
            refine cj_block ?_
            refine cj_seq (fun K18 hK18 => ?_)
            refine cj_region ?_
            have hi3 : (i : Int).tmod (zs.length : Int) = ((i % zs.length : Nat) : Int) := Int.tmod_eq_emod_of_nonneg (by omega)
            have hi4 : i % zs.length < zs.length := Nat.mod_lt _ (by omega)
            obtain ⟨b, off, rfl, hz2⟩ := hz.resolve_left (by rintro rfl; simp at hg21)
            obtain ⟨c, hcl, hcc, e1, bd1⟩ := hz2 (i % zs.length) hi4
            obtain ⟨z, hzz⟩ : ∃ a, a = zs[i % zs.length]'hi4 := ⟨_, rfl⟩
            rw [← hzz] at e1 bd1
            subst e1
            have bd2 : 0 ≤ z ∧ z ≤ 255 := bd1
            refine rj_val (wn0 rfl) rfl rfl (y_move rfl) ?_
            refine rj_val (wn0 rfl) rfl rfl (y_move rfl) ?_
            refine rj_val (wn0 rfl) rfl rfl (y_move rfl) ?_
            refine rj_val (wn0 rfl) rfl rfl (y_len_sl Try.underlying22 rfl) ?_
            refine rj_val (wn0 rfl) rfl rfl (y_rem rfl rfl (by omega)) ?_
            refine rj_eq 41 rfl (congrArg _ hi3) ?_
            refine rj_val (wn0 rfl) rfl rfl (y_indexAddr Try.underlying22 Try.sizeOf5 rfl rfl (by omega)) ?_
            refine rj_val (wn0 rfl) rfl rfl (y_load_ro ⟨Try.isAgg5, Try.sizeOf5⟩ rfl (hcc 0 _ rfl)) ?_
            first | refine rj_val (wn0 rfl) rfl rfl (y_conv_in Try.underlying5 Try.underlying3 rfl (by (simp only [IntKind.min, IntKind.max, IntKind.signed, IntKind.bits, Bool.false_eq_true, ite_false, ite_true]; omega))) ?_ | refine rj_val (wn0 rfl) rfl rfl (y_conv Try.underlying5 Try.underlying3 rfl) ?_
            refine rj_val (wn0 rfl) rfl rfl (y_assign rfl) ?_
            refine rj_nil ?_
            refine hK18 _ _ _ ?_
            refine cj_env (Env.le_cons (t := 0) rfl (Env.le_cons (t := 1) rfl (Env.le_cons (t := 5) rfl (Env.le_cons (t := 6) rfl (Env.le_cons (t := 7) rfl (Env.le_cons (t := 8) rfl (Env.le_nil _))))))) ?_
            refine cj_seq (fun K19 hK19 => ?_)
            refine cj_region ?_
            refine rj_val (wn0 rfl) rfl rfl (y_move rfl) ?_
            refine rj_val (wn0 rfl) rfl rfl (y_move rfl) ?_
            refine rj_call (wn0 rfl) rfl Try.call10 rfl (take_t ba s k z ⟨hk0, hk1, by omega⟩) (by (repeat (first | exact Split.nil _ | (apply Split.cons; focus (repeat (first | exact Find.head _ | apply Find.tail)))))) (fun _ _ _ _ h => h.elim) ?_
            rintro v R' L' hR ⟨rfl, rfl, rfl⟩
            try simp only [List.cons_append, List.nil_append]
            refine rj_val (wn0 rfl) rfl rfl (y_move rfl) ?_
            refine rj_val (wn0 rfl) rfl rfl (y_extract rfl rfl) ?_
            refine rj_val (wn0 rfl) rfl rfl (y_extract rfl rfl) ?_
            refine rj_val (wn0 rfl) rfl rfl (y_assign rfl) ?_
            refine rj_val (wn0 rfl) rfl rfl (y_assign rfl) ?_
            refine rj_nil ?_
            refine hK19 _ _ _ ?_
            refine cj_env (Env.le_cons (t := 0) rfl (Env.le_cons (t := 1) rfl (Env.le_cons (t := 5) rfl (Env.le_cons (t := 6) rfl (Env.le_cons (t := 7) rfl (Env.le_cons (t := 8) rfl (Env.le_cons (t := 9) rfl (Env.le_cons (t := 10) rfl (Env.le_nil _))))))))) ?_
            refine cj_seq (fun K20 hK20 => ?_)
            refine cj_seq (fun K21 hK21 => ?_)
            refine cj_region ?_
            refine rj_val (wn0 rfl) rfl rfl (y_move rfl) ?_
            refine rj_val (wn0 rfl) rfl rfl (y_eql rfl rfl) ?_
            refine rj_nil ?_
            refine hK21 _ _ _ ?_
            refine cj_cond rfl (fun hc52 => ?_) (fun hc52 => ?_)
            · try simp only [decide_eq_true_eq, decide_eq_false_iff_not, Bool.not_eq_true', Bool.not_eq_false', Bool.true_eq_false, Bool.false_eq_true] at hc52
              obtain ⟨h1, h2, h3⟩ := takeM_two hc52
              rw [h3]
              dsimp only
              refine cj_seq (fun K23 hK23 => ?_)
              refine cj_seq (fun K24 hK24 => ?_)
              refine cj_region ?_
              refine rj_val (wn0 rfl) rfl rfl (y_move rfl) ?_
              refine rj_val (wn0 rfl) rfl rfl (y_move rfl) ?_
              refine rj_val (wn0 rfl) rfl rfl (y_call Try.call9 rfl (left_q ba s k ⟨hk0, hk1, by omega⟩) (by (repeat (first | exact Split.nil _ | (apply Split.cons; focus (repeat (first | exact Find.head _ | apply Find.tail))))))) ?_
              refine rj_val (wn0 rfl) rfl rfl (y_leq rfl rfl) ?_
              refine rj_eq 56 rfl (v' := .bool false) (by simp; omega) ?_
              refine rj_val (wn0 rfl) rfl rfl (y_move rfl) ?_
              refine rj_val (wn1 rfl rfl rfl rfl) rfl rfl (y_move rfl) ?_
              refine rj_val (wn1 rfl rfl rfl rfl) rfl rfl (y_sneq rfl rfl) ?_
              refine rj_eq 59 rfl (v' := .bool false) (by simp) ?_
              refine rj_val (wn0 rfl) rfl rfl (y_pick_f rfl rfl) ?_
              refine rj_nil ?_
              refine hK24 _ _ _ ?_
              refine cj_env (Env.le_cons (t := 0) rfl (Env.le_cons (t := 1) rfl (Env.le_cons (t := 5) rfl (Env.le_cons (t := 6) rfl (Env.le_cons (t := 7) rfl (Env.le_cons (t := 60) rfl (Env.le_nil _))))))) ?_
              refine cj_cond_f rfl ?_
              refine cj_skip ?_
              refine hK23 _ _ _ ?_
              refine cj_region ?_
              refine rj_val (wn0 rfl) rfl rfl (y_move rfl) ?_
              refine rj_val (wn0 rfl) rfl rfl (y_move rfl) ?_
              refine rj_val (wn0 rfl) rfl rfl (y_call Try.call9 rfl (left_q ba s k ⟨hk0, hk1, by omega⟩) (by (repeat (first | exact Split.nil _ | (apply Split.cons; focus (repeat (first | exact Find.head _ | apply Find.tail))))))) ?_
              refine rj_call (wn0 rfl) rfl Try.call10 rfl (take_t ba s k (s.length - k) ⟨hk0, hk1, by omega⟩) (by (repeat (first | exact Split.nil _ | (apply Split.cons; focus (repeat (first | exact Find.head _ | apply Find.tail)))))) (fun _ _ _ _ h => h.elim) ?_
              rintro v R' L' hR ⟨rfl, rfl, rfl⟩
              obtain ⟨k', hk'⟩ : ∃ k', k' = (takeM s k (s.length - k)).2.2 := ⟨_, rfl⟩
              have h4 := takeM_in (s := s) (k := k) (n := s.length - k) (by omega)
              have h5 := takeM_k (s := s) (k := k) (n := s.length - k) ⟨hk0, hk1⟩
              have h6 : (takeM s k (s.length - k)).2.1 = 0 := by rw [h4]
              have hall := take_all s hk0 (takeM_ok h6)
              rw [← hk'] at h5 hall ⊢
              rw [h6]
              generalize (takeM s k (s.length - k)).1 = got at hall ⊢
              try simp only [List.cons_append, List.nil_append]
              refine rj_val (wn0 rfl) rfl rfl (y_move rfl) ?_
              refine rj_val (wn0 rfl) rfl rfl (y_extract rfl rfl) ?_
              refine rj_val (wn0 rfl) rfl rfl (y_extract rfl rfl) ?_
              refine rj_val (wn0 rfl) rfl rfl (y_assign rfl) ?_
              refine rj_val (wn0 rfl) rfl rfl (y_assign rfl) ?_
              refine rj_nil ?_
              refine hK20 _ _ _ ?_
              refine cj_env (Env.le_cons (t := 0) rfl (Env.le_cons (t := 1) rfl (Env.le_cons (t := 5) rfl (Env.le_cons (t := 6) rfl (Env.le_cons (t := 7) rfl (Env.le_cons (t := 9) rfl (Env.le_cons (t := 10) rfl (Env.le_nil _)))))))) ?_
              refine cj_seq (fun K25 hK25 => ?_)
              refine cj_seq (fun K26 hK26 => ?_)
              refine cj_region ?_
              refine rj_val (wn0 rfl) rfl rfl (y_move rfl) ?_
              refine rj_val (wn0 rfl) rfl rfl (y_neq rfl rfl) ?_
              refine rj_nil ?_
              refine hK26 _ _ _ ?_
              refine cj_cond_f rfl ?_
              refine cj_skip ?_
              refine hK25 _ _ _ ?_
              refine cj_env (Env.le_cons (t := 0) rfl (Env.le_cons (t := 1) rfl (Env.le_cons (t := 5) rfl (Env.le_cons (t := 6) rfl (Env.le_cons (t := 7) rfl (Env.le_cons (t := 9) rfl (Env.le_nil _))))))) ?_
              refine cj_region ?_
              refine rj_val (wn0 rfl) rfl rfl (y_move rfl) ?_
              refine rj_val (wn0 rfl) rfl rfl (y_move rfl) ?_
              have hg0 : (s.take k.toNat).length + got.length = (s.take k'.toNat).length := by rw [← hall]; simp
              have hg1 : (s.take k'.toNat).length ≤ s.length := by simp; omega
              refine rj_val (wn0 rfl) rfl rfl (y_sadd rfl rfl (by omega)) ?_
              refine rj_val (wn0 rfl) rfl rfl (y_assign rfl) ?_
              refine rj_nil ?_
              refine hK17 _ _ _ ?_
              refine cj_env (Env.le_cons (t := 0) rfl (Env.le_cons (t := 1) rfl (Env.le_cons (t := 5) rfl (Env.le_cons (t := 6) rfl (Env.le_cons (t := 7) rfl (Env.le_nil _)))))) ?_
              refine cj_region ?_
              refine rj_val (wn0 rfl) rfl rfl (y_move rfl) ?_
              first | refine rj_val (wn0 rfl) rfl rfl (y_add64 rfl rfl (by omega)) ?_ | refine rj_val (wn0 rfl) rfl rfl (y_add rfl rfl) ?_
              refine rj_val (wn0 rfl) rfl rfl (y_assign rfl) ?_
              refine rj_nil ?_
              refine ej_on (q' := roundK _ _ _ _ _ _ _) rfl ?_
              refine ej_round ((i + 1, k')) (⟨by simp only; omega, by simp only; omega, by simp only; omega⟩) (by simp only; omega) (Env.le_cons rfl (Env.le_cons rfl (Env.le_cons rfl (Env.le_cons (Eq.trans rfl (congrArg some (by first | rfl | (rw [hall]; done) | (simp; done)))) (Env.le_cons rfl (Env.le_nil _)))))) rfl (by (repeat (first | exact Sub.refl _ | (apply Sub.pick; focus (repeat (first | exact Find.head _ | apply Find.tail))) | apply Sub.drop)))
            · try simp only [decide_eq_true_eq, decide_eq_false_iff_not, Bool.not_eq_true', Bool.not_eq_false', Bool.true_eq_false, Bool.false_eq_true] at hc52
              obtain ⟨k', hk'⟩ : ∃ k', k' = (takeM s k z).2.2 := ⟨_, rfl⟩
              have h5 := takeM_k (s := s) (k := k) (n := z) ⟨hk0, hk1⟩
              have h6 : (takeM s k z).2.1 = 0 := takeM_zero hc52 (by omega)
              have hall := take_all s hk0 (takeM_ok h6)
              rw [← hk'] at h5 hall ⊢
              rw [h6]
              generalize (takeM s k z).1 = got at hall ⊢
              refine cj_skip ?_
              refine hK20 _ _ _ ?_
              refine cj_env (Env.le_cons (t := 0) rfl (Env.le_cons (t := 1) rfl (Env.le_cons (t := 5) rfl (Env.le_cons (t := 6) rfl (Env.le_cons (t := 7) rfl (Env.le_cons (t := 9) rfl (Env.le_cons (t := 10) rfl (Env.le_nil _)))))))) ?_
              refine cj_seq (fun K27 hK27 => ?_)
              refine cj_seq (fun K28 hK28 => ?_)
              refine cj_region ?_
              refine rj_val (wn0 rfl) rfl rfl (y_move rfl) ?_
              refine rj_val (wn0 rfl) rfl rfl (y_neq rfl rfl) ?_
              refine rj_nil ?_
              refine hK28 _ _ _ ?_
              refine cj_cond_f rfl ?_
              refine cj_skip ?_
              refine hK27 _ _ _ ?_
              refine cj_env (Env.le_cons (t := 0) rfl (Env.le_cons (t := 1) rfl (Env.le_cons (t := 5) rfl (Env.le_cons (t := 6) rfl (Env.le_cons (t := 7) rfl (Env.le_cons (t := 9) rfl (Env.le_nil _))))))) ?_
              refine cj_region ?_
              refine rj_val (wn0 rfl) rfl rfl (y_move rfl) ?_
              refine rj_val (wn0 rfl) rfl rfl (y_move rfl) ?_
              have hg0 : (s.take k.toNat).length + got.length = (s.take k'.toNat).length := by rw [← hall]; simp
              have hg1 : (s.take k'.toNat).length ≤ s.length := by simp; omega
              refine rj_val (wn0 rfl) rfl rfl (y_sadd rfl rfl (by omega)) ?_
              refine rj_val (wn0 rfl) rfl rfl (y_assign rfl) ?_
              refine rj_nil ?_
              refine hK17 _ _ _ ?_
              refine cj_env (Env.le_cons (t := 0) rfl (Env.le_cons (t := 1) rfl (Env.le_cons (t := 5) rfl (Env.le_cons (t := 6) rfl (Env.le_cons (t := 7) rfl (Env.le_nil _)))))) ?_
              refine cj_region ?_
              refine rj_val (wn0 rfl) rfl rfl (y_move rfl) ?_
              first | refine rj_val (wn0 rfl) rfl rfl (y_add64 rfl rfl (by omega)) ?_ | refine rj_val (wn0 rfl) rfl rfl (y_add rfl rfl) ?_
              refine rj_val (wn0 rfl) rfl rfl (y_assign rfl) ?_
              refine rj_nil ?_
              refine ej_on (q' := roundK _ _ _ _ _ _ _) rfl ?_
              refine ej_round ((i + 1, k')) (⟨by simp only; omega, by simp only; omega, by simp only; omega⟩) (by simp only; omega) (Env.le_cons rfl (Env.le_cons rfl (Env.le_cons rfl (Env.le_cons (Eq.trans rfl (congrArg some (by first | rfl | (rw [hall]; done) | (simp; done)))) (Env.le_cons rfl (Env.le_nil _)))))) rfl (by (repeat (first | exact Sub.refl _ | (apply Sub.pick; focus (repeat (first | exact Find.head _ | apply Find.tail))) | apply Sub.drop)))
          · try simp only [decide_eq_true_eq, decide_eq_false_iff_not, Bool.not_eq_true', Bool.not_eq_false', Bool.true_eq_false, Bool.false_eq_true] at hc34
            refine cj_exit ?_
            refine hK12 _ _ _ ?_
            refine cj_env (Env.le_cons (t := 0) rfl (Env.le_cons (t := 5) rfl (Env.le_cons (t := 6) rfl (Env.le_nil _)))) ?_
            refine cj_seq (fun K29 hK29 => ?_)
            refine cj_region ?_
            refine rj_val (wn0 rfl) rfl rfl (y_move rfl) ?_
            refine rj_val (wn0 rfl) rfl rfl (y_move rfl) ?_
            refine rj_val (wn0 rfl) rfl rfl (y_slen Try.underlying9 rfl) ?_
            have hl9 : (s.take k.toNat).length = k.toNat := by simp; omega
            refine rj_val (wn0 rfl) rfl rfl (y_slice_s_hi Try.underlying9 rfl rfl (by omega)) ?_
            refine rj_val (wn0 rfl) rfl rfl (y_move rfl) ?_
            refine rj_val (wn0 rfl) rfl rfl (y_seql rfl rfl) ?_
            refine rj_eq 78 rfl (v' := .bool true) (by rw [hl9]; simp; omega) ?_
            refine rj_val (wn0 rfl) rfl rfl (y_move rfl) ?_
            refine rj_val (wn1 rfl rfl rfl rfl) rfl rfl (y_move rfl) ?_
            refine rj_val (wn1 rfl rfl rfl rfl) rfl rfl (y_call Try.call11 rfl (taken_q ba s k) (by (repeat (first | exact Split.nil _ | (apply Split.cons; focus (repeat (first | exact Find.head _ | apply Find.tail))))))) ?_
            refine rj_val (wn1 rfl rfl rfl rfl) rfl rfl (y_move rfl) ?_
            refine rj_val (wn1 rfl rfl rfl rfl) rfl rfl (y_slen Try.underlying9 rfl) ?_
            refine rj_val (wn1 rfl rfl rfl rfl) rfl rfl (y_eql rfl rfl) ?_
            refine rj_eq 84 rfl (v' := .bool true) (by rw [hl9]; simp; omega) ?_
            refine rj_val (wn0 rfl) rfl rfl (y_pick_t rfl rfl) ?_
            refine rj_val (wn0 rfl) rfl rfl (y_assign rfl) ?_
            refine rj_nil ?_
            refine hK29 _ _ _ ?_
            refine cj_env (Env.le_cons (t := 4) rfl (Env.le_nil _)) ?_
            refine cj_ret ?_
            refine hret _ _ _ ?_
            apply ej_ret Try.results3 (.cons (rv_tmp rfl) .nil) _ [] (Hp.le_refl _) rfl
            case hp => rfl
            case hS => (repeat (first | exact Sub.refl _ | (apply Sub.pick; focus (repeat (first | exact Find.head _ | apply Find.tail))) | apply Sub.drop))
        · try simp only [decide_eq_true_eq, decide_eq_false_iff_not, Bool.not_eq_true', Bool.not_eq_false', Bool.true_eq_false, Bool.false_eq_true] at hg30
          refine rj_skip (wn2 rfl rfl rfl rfl rfl) rfl rfl ?_
          refine rj_skip (wn2 rfl rfl rfl rfl rfl) rfl rfl ?_
          refine rj_skip (wn2 rfl rfl rfl rfl rfl) rfl rfl ?_
          refine rj_val (wn0 rfl) rfl rfl (y_pick_f rfl rfl) ?_
          refine rj_nil ?_
          refine hK15 _ _ _ ?_
          refine cj_env (Env.le_cons (t := 0) rfl (Env.le_cons (t := 1) rfl (Env.le_cons (t := 5) rfl (Env.le_cons (t := 6) rfl (Env.le_cons (t := 7) rfl (Env.le_cons (t := 34) rfl (Env.le_nil _))))))) ?_
          refine cj_cond_f rfl ?_
          refine cj_exit ?_
          refine hK12 _ _ _ ?_
          refine cj_env (Env.le_cons (t := 0) rfl (Env.le_cons (t := 5) rfl (Env.le_cons (t := 6) rfl (Env.le_nil _)))) ?_
          refine cj_seq (fun K30 hK30 => ?_)
          refine cj_region ?_
          refine rj_val (wn0 rfl) rfl rfl (y_move rfl) ?_
          refine rj_val (wn0 rfl) rfl rfl (y_move rfl) ?_
          refine rj_val (wn0 rfl) rfl rfl (y_slen Try.underlying9 rfl) ?_
          have hl9 : (s.take k.toNat).length = k.toNat := by simp; omega
          refine rj_val (wn0 rfl) rfl rfl (y_slice_s_hi Try.underlying9 rfl rfl (by omega)) ?_
          refine rj_val (wn0 rfl) rfl rfl (y_move rfl) ?_
          refine rj_val (wn0 rfl) rfl rfl (y_seql rfl rfl) ?_
          refine rj_eq 78 rfl (v' := .bool true) (by rw [hl9]; simp; omega) ?_
          refine rj_val (wn0 rfl) rfl rfl (y_move rfl) ?_
          refine rj_val (wn1 rfl rfl rfl rfl) rfl rfl (y_move rfl) ?_
          refine rj_val (wn1 rfl rfl rfl rfl) rfl rfl (y_call Try.call11 rfl (taken_q ba s k) (by (repeat (first | exact Split.nil _ | (apply Split.cons; focus (repeat (first | exact Find.head _ | apply Find.tail))))))) ?_
          refine rj_val (wn1 rfl rfl rfl rfl) rfl rfl (y_move rfl) ?_
          refine rj_val (wn1 rfl rfl rfl rfl) rfl rfl (y_slen Try.underlying9 rfl) ?_
          refine rj_val (wn1 rfl rfl rfl rfl) rfl rfl (y_eql rfl rfl) ?_
          refine rj_eq 84 rfl (v' := .bool true) (by rw [hl9]; simp; omega) ?_
          refine rj_val (wn0 rfl) rfl rfl (y_pick_t rfl rfl) ?_
          refine rj_val (wn0 rfl) rfl rfl (y_assign rfl) ?_
          refine rj_nil ?_
          refine hK30 _ _ _ ?_
          refine cj_env (Env.le_cons (t := 4) rfl (Env.le_nil _)) ?_
          refine cj_ret ?_
          refine hret _ _ _ ?_
          apply ej_ret Try.results3 (.cons (rv_tmp rfl) .nil) _ [] (Hp.le_refl _) rfl
          case hp => rfl
          case hS => (repeat (first | exact Sub.refl _ | (apply Sub.pick; focus (repeat (first | exact Find.head _ | apply Find.tail))) | apply Sub.drop))
theorem even_t {R : Hp} (cs : List Value) (bs : List Int) (ha : arrR 8 1 (intR .u8) R cs bs) (m : Int) (hm : IntKind.u8.min ≤ m ∧ m ≤ IntKind.u8.max) :
    Tri Try.prog 5 [.agg ⟨cs⟩, .int .u8 m] R [] (fun v _ _ => v = .bool true) := by
  have hm2 : 0 ≤ m ∧ m ≤ 255 := hm
  obtain ⟨x0, x1, x2, x3, x4, x5, x6, x7, hb, rfl⟩ := eight ha
  obtain ⟨bs, hbs⟩ : ∃ bs : List UInt8, bs = [x0, x1, x2, x3, x4, x5, x6, x7] := ⟨_, rfl⟩
  refine tri_of Try.func5 rfl Try.ntmps5 rfl (fun σ F Q hret hend hpan => ?_)
  try simp only [List.cons_append, List.nil_append]
  refine cj_env (Env.le_cons (t := 0) rfl (Env.le_cons (t := 1) rfl (Env.le_nil _))) ?_
  refine cj_seq (fun K1 hK1 => ?_)
  refine cj_region ?_
  refine rj_box (wn0 rfl) rfl rfl rfl (fun ba => ?_)
  refine rj_val (wn0 rfl) rfl rfl (y_assign rfl) ?_
  refine rj_nil ?_
  refine hK1 _ _ _ ?_
  refine cj_seq (fun K2 hK2 => ?_)
  refine cj_seq (fun K3 hK3 => ?_)
  refine cj_region ?_
  refine rj_call (wn0 rfl) rfl Try.call7 rfl (awake_t) (by (repeat (first | exact Split.nil _ | (apply Split.cons; focus (repeat (first | exact Find.head _ | apply Find.tail)))))) (fun _ _ _ _ h => h.elim) ?_
  rintro v R' L' hR ⟨rfl, rfl, b0, rfl⟩
  try simp only [List.cons_append, List.nil_append]
  refine rj_val (wn0 rfl) rfl rfl (y_not rfl) ?_
  refine rj_nil ?_
  refine hK3 _ _ _ ?_
  refine cj_env (Env.le_cons (t := 1) rfl (Env.le_cons (t := 2) rfl (Env.le_cons (t := 9) rfl (Env.le_nil _)))) ?_
  refine cj_cond_f rfl ?_
  refine cj_skip ?_
  refine hK2 _ _ _ ?_
  refine cj_seq (fun K4 hK4 => ?_)
  refine cj_seq (fun K5 hK5 => ?_)
  refine cj_region ?_
  refine rj_val (wn0 rfl) rfl rfl (y_move rfl) ?_
  refine rj_val (wn0 rfl) rfl rfl (y_gtr rfl rfl) ?_
  refine rj_nil ?_
  refine hK5 _ _ _ ?_
  refine cj_cond rfl (fun hc11 => ?_) (fun hc11 => ?_)
  · try simp only [decide_eq_true_eq, decide_eq_false_iff_not, Bool.not_eq_true', Bool.not_eq_false', Bool.true_eq_false, Bool.false_eq_true] at hc11
    refine cj_seq (fun K7 hK7 => ?_)
    refine cj_region ?_
    refine rj_val (wn0 rfl) rfl rfl (y_assign rfl) ?_
    refine rj_nil ?_
    refine hK7 _ _ _ ?_
    refine cj_env (Env.le_cons (t := 4) rfl (Env.le_nil _)) ?_
    refine cj_ret ?_
    refine hret _ _ _ ?_
    apply ej_ret Try.results5 (.cons (rv_tmp rfl) .nil) _ [] (Hp.le_refl _) rfl
    case hp => rfl
    case hS => (repeat (first | exact Sub.refl _ | (apply Sub.pick; focus (repeat (first | exact Find.head _ | apply Find.tail))) | apply Sub.drop))
  · try simp only [decide_eq_true_eq, decide_eq_false_iff_not, Bool.not_eq_true', Bool.not_eq_false', Bool.true_eq_false, Bool.false_eq_true] at hc11
    refine cj_skip ?_
    refine hK4 _ _ _ ?_
    refine cj_env (Env.le_cons (t := 1) rfl (Env.le_cons (t := 2) rfl (Env.le_nil _))) ?_
    refine cj_seq (fun K8 hK8 => ?_)
    refine cj_region ?_
    refine rj_val (wn0 rfl) rfl rfl (y_slice_arr Try.underlying31 Try.sizeOf5 rfl) ?_
    refine rj_val (wn0 rfl) rfl rfl (y_bytes_str (bs := bs) Try.underlying22 Try.underlying5 Try.underlying9 rfl (by rw [hbs]; rfl) (fun w hs j u hu => by
    have hs' := hs.find (A := blk ba _ 31) (by (repeat (first | exact Find.head _ | apply Find.tail)))
    rw [hs'.blk_cell, Nat.zero_add, nth_eq]
    rw [hbs] at hu
    exact eight_cell hu)) ?_
    refine rj_call (wn0 rfl) rfl Try.call8 rfl (new_t bs) (by (repeat (first | exact Split.nil _ | (apply Split.cons; focus (repeat (first | exact Find.head _ | apply Find.tail)))))) (fun _ _ _ _ h => h.elim) ?_
    rintro v R' L' hR ⟨rfl, bt, rfl, rfl⟩
    try simp only [List.cons_append, List.nil_append]
    refine rj_val (wn0 rfl) rfl rfl (y_move rfl) ?_
    refine rj_val (wn0 rfl) rfl rfl ((y_shl rfl rfl (by omega)).to (congrArg _ (shl_one m ⟨by omega, by omega⟩))) ?_
    refine rj_call (wn0 rfl) rfl Try.call12 rfl (below_t bt bs 0 _ ⟨by omega, by omega, by rw [hbs]; simp⟩) (by (repeat (first | exact Split.nil _ | (apply Split.cons; focus (repeat (first | exact Find.head _ | apply Find.tail)))))) (fun _ _ _ _ h => h.elim) ?_
    rintro v R' L' hR ⟨rfl, rfl, rfl⟩
    rw [below_pow bs m (by rw [hbs]; rfl) ⟨by omega, by omega⟩]
    try simp only [List.cons_append, List.nil_append]
    refine rj_val (wn0 rfl) rfl rfl (y_move rfl) ?_
    refine rj_val (wn0 rfl) rfl rfl (y_extract rfl rfl) ?_
    refine rj_val (wn0 rfl) rfl rfl (y_extract rfl rfl) ?_
    refine rj_val (wn0 rfl) rfl rfl (y_assign rfl) ?_
    refine rj_val (wn0 rfl) rfl rfl (y_assign rfl) ?_
    refine rj_nil ?_
    refine hK8 _ _ _ ?_
    refine cj_env (Env.le_cons (t := 1) rfl (Env.le_cons (t := 2) rfl (Env.le_cons (t := 5) rfl (Env.le_cons (t := 6) rfl (Env.le_nil _))))) ?_
    refine cj_seq (fun K9 hK9 => ?_)
    refine cj_region ?_
    have h4 := x4.toNat_lt; have h5 := x5.toNat_lt; have h6 := x6.toNat_lt; have h7 := x7.toNat_lt
    refine rj_val (wn0 rfl) rfl rfl (y_indexAddr_arr Try.underlying31 Try.sizeOf5 rfl rfl (by omega)) ?_
    refine rj_val (wn0 rfl) rfl rfl (y_load ⟨Try.isAgg5, Try.sizeOf5⟩ rfl (by (repeat (first | exact Find.head _ | apply Find.tail))) rfl) ?_
    first | refine rj_val (wn0 rfl) rfl rfl (y_conv_in Try.underlying5 Try.underlying3 rfl (by (simp only [IntKind.min, IntKind.max, IntKind.signed, IntKind.bits, Bool.false_eq_true, ite_false, ite_true]; omega))) ?_ | refine rj_val (wn0 rfl) rfl rfl (y_conv Try.underlying5 Try.underlying3 rfl) ?_
    refine rj_val (wn0 rfl) rfl rfl (y_indexAddr_arr Try.underlying31 Try.sizeOf5 rfl rfl (by omega)) ?_
    refine rj_val (wn0 rfl) rfl rfl (y_load ⟨Try.isAgg5, Try.sizeOf5⟩ rfl (by (repeat (first | exact Find.head _ | apply Find.tail))) rfl) ?_
    first | refine rj_val (wn0 rfl) rfl rfl (y_conv_in Try.underlying5 Try.underlying3 rfl (by (simp only [IntKind.min, IntKind.max, IntKind.signed, IntKind.bits, Bool.false_eq_true, ite_false, ite_true]; omega))) ?_ | refine rj_val (wn0 rfl) rfl rfl (y_conv Try.underlying5 Try.underlying3 rfl) ?_
    refine rj_val (wn0 rfl) rfl rfl (y_shl rfl rfl (by omega)) ?_
    refine rj_eq 27 rfl (congrArg _ (shl_b x6 8 8 (by decide) (by decide) (by decide))) ?_
    refine rj_val (wn0 rfl) rfl rfl (y_or rfl rfl) ?_
    refine rj_eq 28 rfl (congrArg _ (or_step x7.toNat x6.toNat 8 (by have := x7.toNat_lt; omega) (by have := x6.toNat_lt; omega))) ?_
    refine rj_val (wn0 rfl) rfl rfl (y_indexAddr_arr Try.underlying31 Try.sizeOf5 rfl rfl (by omega)) ?_
    refine rj_val (wn0 rfl) rfl rfl (y_load ⟨Try.isAgg5, Try.sizeOf5⟩ rfl (by (repeat (first | exact Find.head _ | apply Find.tail))) rfl) ?_
    first | refine rj_val (wn0 rfl) rfl rfl (y_conv_in Try.underlying5 Try.underlying3 rfl (by (simp only [IntKind.min, IntKind.max, IntKind.signed, IntKind.bits, Bool.false_eq_true, ite_false, ite_true]; omega))) ?_ | refine rj_val (wn0 rfl) rfl rfl (y_conv Try.underlying5 Try.underlying3 rfl) ?_
    refine rj_val (wn0 rfl) rfl rfl (y_shl rfl rfl (by omega)) ?_
    refine rj_eq 32 rfl (congrArg _ (shl_b x5 16 16 (by decide) (by decide) (by decide))) ?_
    refine rj_val (wn0 rfl) rfl rfl (y_or rfl rfl) ?_
    refine rj_eq 33 rfl (congrArg _ (or_step (x7.toNat + x6.toNat * 2 ^ 8) x5.toNat 16 (by have := x7.toNat_lt; have := x6.toNat_lt; omega) (by have := x5.toNat_lt; omega))) ?_
    refine rj_val (wn0 rfl) rfl rfl (y_indexAddr_arr Try.underlying31 Try.sizeOf5 rfl rfl (by omega)) ?_
    refine rj_val (wn0 rfl) rfl rfl (y_load ⟨Try.isAgg5, Try.sizeOf5⟩ rfl (by (repeat (first | exact Find.head _ | apply Find.tail))) rfl) ?_
    first | refine rj_val (wn0 rfl) rfl rfl (y_conv_in Try.underlying5 Try.underlying3 rfl (by (simp only [IntKind.min, IntKind.max, IntKind.signed, IntKind.bits, Bool.false_eq_true, ite_false, ite_true]; omega))) ?_ | refine rj_val (wn0 rfl) rfl rfl (y_conv Try.underlying5 Try.underlying3 rfl) ?_
    refine rj_val (wn0 rfl) rfl rfl (y_shl rfl rfl (by omega)) ?_
    refine rj_eq 37 rfl (congrArg _ (shl_b x4 24 24 (by decide) (by decide) (by decide))) ?_
    refine rj_val (wn0 rfl) rfl rfl (y_or rfl rfl) ?_
    refine rj_eq 38 rfl (congrArg _ (or_step (x7.toNat + x6.toNat * 2 ^ 8 + x5.toNat * 2 ^ 16) x4.toNat 24 (by have := x7.toNat_lt; have := x6.toNat_lt; have := x5.toNat_lt; omega) (by have := x4.toNat_lt; omega))) ?_
    refine rj_val (wn0 rfl) rfl rfl (y_assign rfl) ?_
    refine rj_nil ?_
    refine hK9 _ _ _ ?_
    refine cj_env (Env.le_cons (t := 1) rfl (Env.le_cons (t := 5) rfl (Env.le_cons (t := 6) rfl (Env.le_cons (t := 7) rfl (Env.le_nil _))))) ?_
    refine cj_seq (fun K10 hK10 => ?_)
    refine cj_region ?_
    refine rj_val (wn0 rfl) rfl rfl (y_move rfl) ?_
    refine rj_val (wn0 rfl) rfl rfl (y_eql rfl rfl) ?_
    refine rj_val (wn0 rfl) rfl rfl (y_move rfl) ?_
    refine rj_val (wn1 rfl rfl rfl rfl) rfl rfl (y_move rfl) ?_
    refine rj_val (wn1 rfl rfl rfl rfl) rfl rfl (y_move rfl) ?_
    refine rj_val (wn1 rfl rfl rfl rfl) rfl rfl (y_move rfl) ?_
    have hp2 := pow_bd m ⟨by omega, by omega⟩
    refine rj_val (wn1 rfl rfl rfl rfl) rfl rfl (y_shl rfl rfl (by omega)) ?_
    refine rj_eq 45 rfl (congrArg _ (shl_one m ⟨by omega, by omega⟩)) ?_
    first | refine rj_val (wn1 rfl rfl rfl rfl) rfl rfl (y_sub64 rfl rfl (by omega)) ?_ | refine rj_val (wn1 rfl rfl rfl rfl) rfl rfl (y_sub rfl rfl) ?_
    refine rj_val (wn1 rfl rfl rfl rfl) rfl rfl (y_and rfl rfl) ?_
    refine rj_val (wn1 rfl rfl rfl rfl) rfl rfl (y_eql rfl rfl) ?_
    refine rj_eq 48 rfl (v' := .bool true) (by rw [even_eq x0 x1 x2 x3 x4 x5 x6 x7 m ⟨by omega, by omega⟩, hbs]; simp) ?_
    refine rj_val (wn0 rfl) rfl rfl (y_pick_t rfl rfl) ?_
    refine rj_val (wn0 rfl) rfl rfl (y_assign rfl) ?_
    refine rj_nil ?_
    refine hK10 _ _ _ ?_
    refine cj_env (Env.le_cons (t := 4) rfl (Env.le_nil _)) ?_
    refine cj_ret ?_
    refine hret _ _ _ ?_
    apply ej_ret Try.results5 (.cons (rv_tmp rfl) .nil) _ [] (Hp.le_refl _) rfl
    case hp => rfl
    case hS => (repeat (first | exact Sub.refl _ | (apply Sub.pick; focus (repeat (first | exact Find.head _ | apply Find.tail))) | apply Sub.drop))
end V
end Go.Proofs.Ytmgloghpaoodmaa
