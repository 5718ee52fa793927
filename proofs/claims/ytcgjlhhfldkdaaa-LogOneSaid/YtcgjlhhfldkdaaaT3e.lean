/- A node read from bytes. -/
import Derived.Test.YtcgjlhhfldkdaaaT3d
set_option linter.unusedSimpArgs false
set_option linter.unusedVariables false
set_option maxRecDepth 100000
namespace Go.Proofs.Ytcgjlhhfldkdaaa
open Go.RowKit
namespace V
set_option maxHeartbeats 1000000
/-- a reader: what is left, whether all is lost -/
@[reducible] def rB (b : Nat) (s : List UInt8) (bad : Bool) : Asn := blk b [.string (str s), .bool bad] 77
def takeR (s : List UInt8) (bad : Bool) (n : Nat) : List UInt8 × List UInt8 × Bool := if bad = true ∨ s.length < n then ([], s, true) else (s.take n, s.drop n, false)
theorem takeR_bad (s : List UInt8) (n : Nat) : takeR s true n = ([], s, true) := by simp [takeR]
theorem rtake_t {R : Hp} (b : Nat) (s : List UInt8) (bad : Bool) (n : Nat) (hs : s.length ≤ big) (hn : n ≤ big) : Tri Try.prog 42 [.pointer (some ⟨b, 0, none⟩), .int .i64 (n : Int)] R [rB b s bad]
    (fun r R' L' => R = R' ∧ r = .string (str (takeR s bad n).1) ∧ L' = [rB b (takeR s bad n).2.1 (takeR s bad n).2.2]) := by
  unfold big at hs hn
  refine tri_of Try.func42 rfl Try.ntmps42 rfl (fun σ F Q hret hend hpan => ?_)
  try simp only [List.cons_append, List.nil_append]
  refine cj_env (eL 0 rfl (eL 1 rfl eN)) ?_
  refine cj_seq (fun K1 hK1 => ?_)
  refine cj_region ?_
  refine rv0 rfl rfl rfl (y_assign rfl) ?_
  refine rj_nil ?_
  refine hK1 _ _ _ ?_
  refine cj_seq (fun K2 hK2 => ?_)
  refine cj_seq (fun K3 hK3 => ?_)
  refine cj_region ?_
  refine rv0 rfl rfl rfl (y_move rfl) ?_
  refine rv0 rfl rfl rfl (y_nilCheck rfl) ?_
  refine rv0 rfl rfl rfl (y_fieldAddr (k := 1) Try.underlying77 rfl (n := 1) (by decide) Try.sizeOf4 rfl) ?_
  first | refine rv0 rfl rfl rfl (y_load ⟨Try.isAgg4, Try.sizeOf4⟩ rfl (by (repeat (first|exact zH _|apply zT));done) rfl) ?_ | refine rv0 rfl rfl rfl (y_load_slc ⟨Try.isAgg4, Try.sizeOf4⟩ rfl (by (repeat (first|exact zH _|apply zT));done) rfl) ?_
  refine rv0 rfl rfl rfl (y_move rfl) ?_
  refine rj_part 10 rfl (fun hg10 => ?_) (fun hg10 => ?_)
  ·subst hg10
   refine rj_skip (wn2 rfl rfl rfl rfl rfl) rfl rfl ?_
   refine rj_skip (wn2 rfl rfl rfl rfl rfl) rfl rfl ?_
   refine rj_skip (wn2 rfl rfl rfl rfl rfl) rfl rfl ?_
   refine rj_skip (wn2 rfl rfl rfl rfl rfl) rfl rfl ?_
   refine rj_skip (wn2 rfl rfl rfl rfl rfl) rfl rfl ?_
   refine rj_skip (wn2 rfl rfl rfl rfl rfl) rfl rfl ?_
   refine rj_skip (wn2 rfl rfl rfl rfl rfl) rfl rfl ?_
   refine rv0 rfl rfl rfl (y_pick_t rfl rfl) ?_
   refine rj_nil ?_
   refine hK3 _ _ _ ?_
   refine cj_env (eL 0 rfl (eL 1 rfl (eL 18 rfl eN))) ?_
   refine cj_cond_t rfl ?_
   refine cj_seq (fun K4 hK4 => ?_)
   refine cj_region ?_
   refine rv0 rfl rfl rfl (y_move rfl) ?_
   refine rv0 rfl rfl rfl (y_nilCheck rfl) ?_
   refine rv0 rfl rfl rfl (y_fieldAddr (k := 1) Try.underlying77 rfl (n := 1) (by decide) Try.sizeOf4 rfl) ?_
   refine rj_store ⟨Try.isAgg4, Try.sizeOf4⟩ (wn0 rfl) rfl rfl (by (first | rfl | assumption | (apply cutV_one; assumption))) (by (repeat (first|exact zH _|apply zT));done) rfl rfl ?_
   refine rj_nil ?_
   refine hK4 _ _ _ ?_
   refine cj_env eN ?_
   refine cj_seq (fun K5 hK5 => ?_)
   refine cj_region ?_
   refine rv0 rfl rfl rfl (y_assign rfl) ?_
   refine rj_nil ?_
   refine hK5 _ _ _ ?_
   refine cj_ret ?_
   refine hret _ _ _ ?_
   apply ej_ret Try.results42 (.cons (rv_tmp rfl) .nil) _ [rB b s true] (by (first | exact Hp.le_refl _ | assumption | exact Hp.le_trans ‹_› ‹_›)) rfl
   case hp => rw [show takeR s true n = ([], s, true) from takeR_bad s n]; exact ⟨rfl, rfl, rfl⟩
   case hS => (repeat (first|exact zR _|(apply zP;focus (repeat (first|exact zH _|apply zT)))|apply zD|exact zA _ _))
  ·subst hg10
   refine rj_val (wn1 rfl rfl rfl rfl) rfl rfl (y_move rfl) ?_
   refine rj_val (wn1 rfl rfl rfl rfl) rfl rfl (y_move rfl) ?_
   refine rj_val (wn1 rfl rfl rfl rfl) rfl rfl (y_nilCheck rfl) ?_
   refine rj_val (wn1 rfl rfl rfl rfl) rfl rfl (y_fieldAddr (k := 0) Try.underlying77 rfl (n := 1) (by decide) Try.sizeOf9 rfl) ?_
   first | refine rj_val (wn1 rfl rfl rfl rfl) rfl rfl (y_load ⟨Try.isAgg9, Try.sizeOf9⟩ rfl (by (repeat (first|exact zH _|apply zT));done) rfl) ?_ | refine rj_val (wn1 rfl rfl rfl rfl) rfl rfl (y_load_slc ⟨Try.isAgg9, Try.sizeOf9⟩ rfl (by (repeat (first|exact zH _|apply zT));done) rfl) ?_
   refine rj_val (wn1 rfl rfl rfl rfl) rfl rfl (y_slen Try.underlying9 rfl) ?_
   refine rj_val (wn1 rfl rfl rfl rfl) rfl rfl (y_gtr rfl rfl) ?_
   refine rv0 rfl rfl rfl (y_pick_f rfl rfl) ?_
   refine rj_nil ?_
   refine hK3 _ _ _ ?_
   refine cj_env (eL 0 rfl (eL 1 rfl (eL 18 rfl eN))) ?_
   refine cj_cond rfl (fun hc18 => ?_) (fun hc18 => ?_)
   ·try simp only [dT, dF, nT, nF, tF, fT] at hc18
    refine cj_seq (fun K7 hK7 => ?_)
    refine cj_region ?_
    refine rv0 rfl rfl rfl (y_move rfl) ?_
    refine rv0 rfl rfl rfl (y_nilCheck rfl) ?_
    refine rv0 rfl rfl rfl (y_fieldAddr (k := 1) Try.underlying77 rfl (n := 1) (by decide) Try.sizeOf4 rfl) ?_
    refine rj_store ⟨Try.isAgg4, Try.sizeOf4⟩ (wn0 rfl) rfl rfl (by (first | rfl | assumption | (apply cutV_one; assumption))) (by (repeat (first|exact zH _|apply zT));done) rfl rfl ?_
    refine rj_nil ?_
    refine hK7 _ _ _ ?_
    refine cj_env eN ?_
    refine cj_seq (fun K8 hK8 => ?_)
    refine cj_region ?_
    refine rv0 rfl rfl rfl (y_assign rfl) ?_
    refine rj_nil ?_
    refine hK8 _ _ _ ?_
    refine cj_ret ?_
    refine hret _ _ _ ?_
    apply ej_ret Try.results42 (.cons (rv_tmp rfl) .nil) _ [rB b s true] (by (first | exact Hp.le_refl _ | assumption | exact Hp.le_trans ‹_› ‹_›)) rfl
    case hp => rw [show takeR s false n = ([], s, true) by unfold takeR; rw [if_pos (.inr (by simp at hc18; omega))]]; exact ⟨rfl, rfl, rfl⟩
    case hS => (repeat (first|exact zR _|(apply zP;focus (repeat (first|exact zH _|apply zT)))|apply zD|exact zA _ _))
   ·try simp only [dT, dF, nT, nF, tF, fT] at hc18
    refine cj_skip ?_
    refine hK2 _ _ _ ?_
    refine cj_seq (fun K9 hK9 => ?_)
    refine cj_region ?_
    refine rv0 rfl rfl rfl (y_move rfl) ?_
    refine rv0 rfl rfl rfl (y_nilCheck rfl) ?_
    refine rv0 rfl rfl rfl (y_fieldAddr (k := 0) Try.underlying77 rfl (n := 1) (by decide) Try.sizeOf9 rfl) ?_
    first | refine rv0 rfl rfl rfl (y_load ⟨Try.isAgg9, Try.sizeOf9⟩ rfl (by (repeat (first|exact zH _|apply zT));done) rfl) ?_ | refine rv0 rfl rfl rfl (y_load_slc ⟨Try.isAgg9, Try.sizeOf9⟩ rfl (by (repeat (first|exact zH _|apply zT));done) rfl) ?_
    refine rv0 rfl rfl rfl (y_move rfl) ?_
    refine rv0 rfl rfl rfl (y_slice_s_hi Try.underlying9 rfl rfl (by (first | omega | (dsimp only; omega) | (simp; done) | (simp; omega)))) ?_
    refine rv0 rfl rfl rfl (y_assign rfl) ?_
    refine rj_nil ?_
    refine hK9 _ _ _ ?_
    refine cj_env (eL 0 rfl (eL 1 rfl (eL 5 rfl eN))) ?_
    refine cj_seq (fun K10 hK10 => ?_)
    refine cj_region ?_
    refine rv0 rfl rfl rfl (y_move rfl) ?_
    refine rv0 rfl rfl rfl (y_move rfl) ?_
    refine rv0 rfl rfl rfl (y_nilCheck rfl) ?_
    refine rv0 rfl rfl rfl (y_fieldAddr (k := 0) Try.underlying77 rfl (n := 1) (by decide) Try.sizeOf9 rfl) ?_
    first | refine rv0 rfl rfl rfl (y_load ⟨Try.isAgg9, Try.sizeOf9⟩ rfl (by (repeat (first|exact zH _|apply zT));done) rfl) ?_ | refine rv0 rfl rfl rfl (y_load_slc ⟨Try.isAgg9, Try.sizeOf9⟩ rfl (by (repeat (first|exact zH _|apply zT));done) rfl) ?_
    refine rv0 rfl rfl rfl (y_move rfl) ?_
    refine rv0 rfl rfl rfl (y_slice_s_lo Try.underlying9 rfl rfl (by (first | omega | (dsimp only; omega) | (simp; done) | (simp; omega)))) ?_
    refine rv0 rfl rfl rfl (y_nilCheck rfl) ?_
    refine rv0 rfl rfl rfl (y_fieldAddr (k := 0) Try.underlying77 rfl (n := 1) (by decide) Try.sizeOf9 rfl) ?_
    refine rj_store ⟨Try.isAgg9, Try.sizeOf9⟩ (wn0 rfl) rfl rfl (by (first | rfl | assumption | (apply cutV_one; assumption))) (by (repeat (first|exact zH _|apply zT));done) rfl rfl ?_
    refine rj_nil ?_
    refine hK10 _ _ _ ?_
    refine cj_env (eL 5 rfl eN) ?_
    refine cj_seq (fun K11 hK11 => ?_)
    refine cj_region ?_
    refine rv0 rfl rfl rfl (y_move rfl) ?_
    refine rv0 rfl rfl rfl (y_assign rfl) ?_
    refine rj_nil ?_
    refine hK11 _ _ _ ?_
    refine cj_ret ?_
    refine hret _ _ _ ?_
    apply ej_ret Try.results42 (.cons (rv_tmp rfl) .nil) _ [rB b (s.drop n) false] (by (first | exact Hp.le_refl _ | assumption | exact Hp.le_trans ‹_› ‹_›)) rfl
    case hp => rw [show takeR s false n = (s.take n, s.drop n, false) by unfold takeR; rw [if_neg (by simp at hc18 ⊢; omega)]]; exact ⟨rfl, rfl, rfl⟩
    case hS => (repeat (first|exact zR _|(apply zP;focus (repeat (first|exact zH _|apply zT)))|apply zD|exact zA _ _))
theorem and127 (u : UInt8) : bitAnd .u8 (u.toNat : Int) 127 = ((u.toNat % 128 : Nat) : Int) := by
  have key : ∀ A : Fin 256, bitAnd .u8 ((A.val : Nat) : Int) 127 = ((A.val % 128 : Nat) : Int) := by decide +kernel
  exact key ⟨u.toNat, u.toNat_lt⟩
theorem or_add (A B s : Nat) (hA : A < 2 ^ s) (h : A + B * 2 ^ s < 9223372036854775808) : bitOr .i64 ((A : Nat) : Int) ((B * 2 ^ s : Nat) : Int) = ((A + B * 2 ^ s : Nat) : Int) := by
  have h2 : (BitVec.ofInt 64 (A : Int) ||| BitVec.ofInt 64 ((B * 2 ^ s : Nat) : Int)).toNat = A + B * 2 ^ s := by
    simp only [BitVec.ofInt_natCast, BitVec.toNat_or, BitVec.toNat_ofNat]
    rw [Nat.mod_eq_of_lt (by omega), Nat.mod_eq_of_lt (by omega)]
    have := Nat.two_pow_add_eq_or_of_lt (i := s) (b := A) hA B
    rw [Nat.mul_comm B, Nat.or_comm, ← this]; omega
  have h3 : bitOr .i64 ((A : Nat) : Int) ((B * 2 ^ s : Nat) : Int) = IntKind.i64.wrap ((A + B * 2 ^ s : Nat) : Int) := by rw [← h2]; rfl
  rw [h3]
  exact wrap_i64_in ⟨by omega, by omega⟩
theorem shl_nat (m j : Nat) (z : Int) (hz : z = j) (hj : j ≤ 63) (h : m * 2 ^ j < 9223372036854775808) : IntKind.i64.wrap ((m : Int) * 2 ^ min z.toNat IntKind.i64.bits) = ((m * 2 ^ j : Nat) : Int) := by
  subst hz
  have : min (j : Int).toNat IntKind.i64.bits = j := by simp only [IntKind.bits, Int.toNat_natCast]; omega
  rw [this]
  have e : ((m : Int) * 2 ^ j) = ((m * 2 ^ j : Nat) : Int) := by rw [Int.natCast_mul, Int.natCast_pow]; rfl
  rw [e]
  exact wrap_i64_in ⟨by omega, by omega⟩
theorem takeR_one_t {s : List UInt8} (h : (takeR s false 1).2.2 = true) : s = [] := by
  cases s with
  | nil => rfl
  | cons u r => simp [takeR] at h
theorem takeR_one_f {s : List UInt8} (h : (takeR s false 1).2.2 = false) : ∃ u r, s = u :: r := by
  cases s with
  | nil => simp [takeR] at h
  | cons u r => exact ⟨u, r, rfl⟩
theorem takeR_one (u : UInt8) (r : List UInt8) : takeR (u :: r) false 1 = ([u], r, false) := by simp [takeR]
theorem rsizeBad_t {R : Hp} (b : Nat) (s : List UInt8) (hs : s.length ≤ big) : Tri Try.prog 43 [.pointer (some ⟨b, 0, none⟩)] R [rB b s true]
    (fun r R' L' => R = R' ∧ r = .int .i64 0 ∧ L' = [rB b s true]) := by
  refine tri_of Try.func43 rfl Try.ntmps43 rfl (fun σ F Q hret hend hpan => ?_)
  try simp only [List.cons_append, List.nil_append]
  refine cj_env (eL 0 rfl eN) ?_
  refine cj_seq (fun K1 hK1 => ?_)
  refine cj_region ?_
  refine rv0 rfl rfl rfl (y_assign rfl) ?_
  refine rj_nil ?_
  refine hK1 _ _ _ ?_
  refine cj_seq (fun K2 hK2 => ?_)
  refine cj_region ?_
  refine rv0 rfl rfl rfl (y_assign rfl) ?_
  refine rj_nil ?_
  refine hK2 _ _ _ ?_
  refine cj_seq (fun K3 hK3 => ?_)
  refine cj_seq (fun K4 hK4 => ?_)
  refine cj_region ?_
  refine rv0 rfl rfl rfl (y_move rfl) ?_
  refine rj_nil ?_
  refine hK4 _ _ _ ?_
  refine cj_block ?_
  refine cj_loop_once ?_
  refine cj_seq (fun K5 hK5 => ?_)
  refine cj_region ?_
  refine rv0 rfl rfl rfl (y_lss rfl rfl) ?_
  refine rj_nil ?_
  refine hK5 _ _ _ ?_
  refine cj_seq (fun K6 hK6 => ?_)
  refine cj_cond_t rfl ?_
  refine cj_skip ?_
  refine hK6 _ _ _ ?_
  refine cj_seq (fun K7 hK7 => ?_)
  refine cj_block ?_
  refine cj_seq (fun K8 hK8 => ?_)
  refine cj_region ?_
  refine rv0 rfl rfl rfl (y_move rfl) ?_
  refine rv0 rfl rfl rfl (y_assign rfl) ?_
  refine rj_nil ?_
  refine hK8 _ _ _ ?_
  refine cj_seq (fun K9 hK9 => ?_)
  refine cj_region ?_
  refine rv0 rfl rfl rfl (y_move rfl) ?_
  refine rj_call (wn0 rfl) rfl Try.call42 rfl (rtake_t b s true 1 hs (by decide)) (by (repeat (first|exact zN _|(apply zS;focus (repeat (first|exact zH _|apply zT)))))) (fun _ _ _ _ h => h.elim) ?_
  rintro r R' L' hR ⟨rfl, rfl, rfl⟩
  rw [takeR_bad]
  try simp only [List.cons_append, List.nil_append]
  refine rv0 rfl rfl rfl (y_assign rfl) ?_
  refine rj_nil ?_
  refine hK9 _ _ _ ?_
  refine cj_env (eL 0 rfl (eL 2 rfl (eL 3 rfl (eL 4 rfl (eL 5 rfl (eL 6 rfl eN)))))) ?_
  refine cj_seq (fun K10 hK10 => ?_)
  refine cj_seq (fun K11 hK11 => ?_)
  refine cj_region ?_
  refine rv0 rfl rfl rfl (y_move rfl) ?_
  refine rv0 rfl rfl rfl (y_nilCheck rfl) ?_
  refine rv0 rfl rfl rfl (y_fieldAddr (k := 1) Try.underlying77 rfl (n := 1) (by decide) Try.sizeOf4 rfl) ?_
  first | refine rv0 rfl rfl rfl (y_load ⟨Try.isAgg4, Try.sizeOf4⟩ rfl (by (repeat (first|exact zH _|apply zT));done) rfl) ?_ | refine rv0 rfl rfl rfl (y_load_slc ⟨Try.isAgg4, Try.sizeOf4⟩ rfl (by (repeat (first|exact zH _|apply zT));done) rfl) ?_
  refine rj_nil ?_
  refine hK11 _ _ _ ?_
  refine cj_env (eL 0 rfl (eL 2 rfl (eL 3 rfl (eL 4 rfl (eL 5 rfl (eL 6 rfl (eL 14 rfl eN))))))) ?_
  refine cj_cond rfl (fun hc14 => ?_) (fun hc14 => ?_)
  ·try simp only [dT, dF, nT, nF, tF, fT] at hc14
   refine cj_seq (fun K13 hK13 => ?_)
   refine cj_region ?_
   refine rv0 rfl rfl rfl (y_assign rfl) ?_
   refine rj_nil ?_
   refine hK13 _ _ _ ?_
   refine cj_env (eL 2 rfl eN) ?_
   refine cj_ret ?_
   refine hret _ _ _ ?_
   apply ej_ret Try.results43 (.cons (rv_tmp rfl) .nil) _ [rB b s true] (by (first | exact Hp.le_refl _ | assumption | exact Hp.le_trans ‹_› ‹_›)) rfl
   case hp => exact ⟨rfl, rfl, rfl⟩
   case hS => (repeat (first|exact zR _|(apply zP;focus (repeat (first|exact zH _|apply zT)))|apply zD|exact zA _ _))
  · cases hc14
/-- how a reader stands behind a size -/
def Sized (s : List UInt8) (r : Value) (m : Nat) (s' : List UInt8) (bad' : Bool) : Prop :=
  r = .int .i64 (m : Int) ∧ s'.length ≤ s.length ∧ m < 268435456 ∧ (∀ n q, szM 4 0 0 s = some (n, q) → m = n ∧ s' = q ∧ bad' = false) ∧ (szM 4 0 0 s = none → bad' = true)
theorem sized_last {s r1 : List UInt8} {i acc : Nat} {u : UInt8} (hsz : szM 4 0 0 s = if u.toNat = 0 ∧ i > 0 then none else some (acc + u.toNat * 128 ^ i, r1)) (hu : u.toNat < 128) (hl : r1.length ≤ s.length)
    (hm : acc + u.toNat % 128 * 2 ^ (7 * i) < 268435456) {bad : Bool} (hb : bad = decide (u.toNat = 0 ∧ i > 0)) : Sized s (.int .i64 ((acc + u.toNat % 128 * 2 ^ (7 * i) : Nat) : Int)) (acc + u.toNat % 128 * 2 ^ (7 * i)) r1 bad := by
  have e : acc + u.toNat % 128 * 2 ^ (7 * i) = acc + u.toNat * 128 ^ i := by rw [Nat.pow_mul, Nat.mod_eq_of_lt hu]
  refine ⟨rfl, hl, hm, fun n q h => ?_, fun h => ?_⟩
  · rw [hsz] at h
    split at h
    · cases h
    · rename_i hc
      simp only [Option.some.injEq, Prod.mk.injEq] at h
      exact ⟨by rw [e, h.1], h.2, by rw [hb]; exact decide_eq_false hc⟩
  · rw [hsz] at h
    split at h
    · rename_i hc; rw [hb]; exact decide_eq_true hc
    · cases h
theorem rsize_t {R : Hp} (b : Nat) (s : List UInt8) (hs : s.length ≤ big) : Tri Try.prog 43 [.pointer (some ⟨b, 0, none⟩)] R [rB b s false]
    (fun r R' L' => R = R' ∧ ∃ m s' bad', Sized s r m s' bad' ∧ L' = [rB b s' bad']) := by
  refine tri_of Try.func43 rfl Try.ntmps43 rfl (fun σ F Q hret hend hpan => ?_)
  try simp only [List.cons_append, List.nil_append]
  refine cj_env (eL 0 rfl eN) ?_
  refine cj_seq (fun K1 hK1 => ?_)
  refine cj_region ?_
  refine rv0 rfl rfl rfl (y_assign rfl) ?_
  refine rj_nil ?_
  refine hK1 _ _ _ ?_
  refine cj_seq (fun K2 hK2 => ?_)
  refine cj_region ?_
  refine rv0 rfl rfl rfl (y_assign rfl) ?_
  refine rj_nil ?_
  refine hK2 _ _ _ ?_
  refine cj_seq (fun K3 hK3 => ?_)
  refine cj_seq (fun K4 hK4 => ?_)
  refine cj_region ?_
  refine rv0 rfl rfl rfl (y_move rfl) ?_
  refine rj_nil ?_
  refine hK4 _ _ _ ?_
  refine cj_block ?_
  refine cj_env (E' := (fun (x : Nat × Nat × List UInt8) => [(0, .pointer (some ⟨b, 0, none⟩)), (3, .int .i64 (x.2.1 : Int)), (6, .int .i64 (x.1 : Int))]) (0, 0, s)) (eC rfl (eC rfl (eC rfl eN))) ?_
  refine cj_sub (M := (fun (x : Nat × Nat × List UInt8) => rB b x.2.2 false :: F) (0, 0, s)) (by (repeat (first|exact zR _|(apply zP;focus (repeat (first|exact zH _|apply zT)))|apply zD|exact zA _ _))) ?_
  refine cj_loop (fun (x : Nat × Nat × List UInt8) => [(0, .pointer (some ⟨b, 0, none⟩)), (3, .int .i64 (x.2.1 : Int)), (6, .int .i64 (x.1 : Int))]) (fun (x : Nat × Nat × List UInt8) => R) (fun (x : Nat × Nat × List UInt8) => rB b x.2.2 false :: F) (fun (x : Nat × Nat × List UInt8) => x.1 ≤ 4 ∧ x.2.1 < 128 ^ x.1 ∧ szM 4 0 0 s = szM (4 - x.1) x.1 x.2.1 x.2.2 ∧ x.2.2.length ≤ s.length) (fun (x : Nat × Nat × List UInt8) => 4 - x.1) (0, 0, s) (⟨by simp, by simp, rfl, Nat.le_refl _⟩) ?_
  rintro ⟨i, acc, s1⟩ ⟨hi, ha, hz, hl⟩
  try dsimp only
  dsimp only at hi ha hz hl
  refine cj_seq (fun K5 hK5 => ?_)
  refine cj_region ?_
  refine rv0 rfl rfl rfl (y_lss rfl rfl) ?_
  refine rj_nil ?_
  refine hK5 _ _ _ ?_
  refine cj_seq (fun K6 hK6 => ?_)
  refine cj_cond rfl (fun hc7 => ?_) (fun hc7 => ?_)
  ·try simp only [dT, dF, nT, nF, tF, fT] at hc7
   refine cj_skip ?_
   refine hK6 _ _ _ ?_
   refine cj_seq (fun K8 hK8 => ?_)
   refine cj_block ?_
   refine cj_seq (fun K9 hK9 => ?_)
   refine cj_region ?_
   obtain ⟨f, hf⟩ : ∃ f, 4 - i = f + 1 := ⟨3 - i, by omega⟩
   have h7 : (2 : Nat) ^ (7 * i) = 128 ^ i := by rw [Nat.pow_mul]
   have hp : 128 ^ i ≤ 128 ^ 3 := Nat.pow_le_pow_right (by omega) (by omega)
   have hp3 : (128 : Nat) ^ 3 = 2097152 := by decide
   refine rv0 rfl rfl rfl (y_move rfl) ?_
   refine rv0 rfl rfl rfl (y_assign rfl) ?_
   refine rj_nil ?_
   refine hK9 _ _ _ ?_
   refine cj_seq (fun K10 hK10 => ?_)
   refine cj_region ?_
   refine rv0 rfl rfl rfl (y_move rfl) ?_
   refine rj_call (wn0 rfl) rfl Try.call42 rfl (rtake_t b s1 false 1 (Nat.le_trans hl hs) (by decide)) (by (repeat (first|exact zN _|(apply zS;focus (repeat (first|exact zH _|apply zT)))))) (fun _ _ _ _ h => h.elim) ?_
   rintro r R' L' hR ⟨rfl, rfl, rfl⟩
   try simp only [List.cons_append, List.nil_append]
   refine rv0 rfl rfl rfl (y_assign rfl) ?_
   refine rj_nil ?_
   refine hK10 _ _ _ ?_
   refine cj_env (eL 0 rfl (eL 3 rfl (eL 4 rfl (eL 5 rfl (eL 6 rfl eN))))) ?_
   refine cj_seq (fun K11 hK11 => ?_)
   refine cj_seq (fun K12 hK12 => ?_)
   refine cj_region ?_
   refine rv0 rfl rfl rfl (y_move rfl) ?_
   refine rv0 rfl rfl rfl (y_nilCheck rfl) ?_
   refine rv0 rfl rfl rfl (y_fieldAddr (k := 1) Try.underlying77 rfl (n := 1) (by decide) Try.sizeOf4 rfl) ?_
   first | refine rv0 rfl rfl rfl (y_load ⟨Try.isAgg4, Try.sizeOf4⟩ rfl (by (repeat (first|exact zH _|apply zT));done) rfl) ?_ | refine rv0 rfl rfl rfl (y_load_slc ⟨Try.isAgg4, Try.sizeOf4⟩ rfl (by (repeat (first|exact zH _|apply zT));done) rfl) ?_
   refine rj_nil ?_
   refine hK12 _ _ _ ?_
   refine cj_env (eL 0 rfl (eL 3 rfl (eL 4 rfl (eL 5 rfl (eL 6 rfl (eL 14 rfl eN)))))) ?_
   refine cj_cond rfl (fun hc14 => ?_) (fun hc14 => ?_)
   ·obtain rfl := takeR_one_t hc14
    rw [show takeR [] false 1 = ([], [], true) by simp [takeR]]
    refine cj_seq (fun K14 hK14 => ?_)
    refine cj_region ?_
    refine rv0 rfl rfl rfl (y_assign rfl) ?_
    refine rj_nil ?_
    refine hK14 _ _ _ ?_
    refine cj_env (eL 2 rfl eN) ?_
    refine cj_ret ?_
    refine hret _ _ _ ?_
    apply ej_ret Try.results43 (.cons (rv_tmp rfl) .nil) _ [rB b [] true] (by (first | exact Hp.le_refl _ | assumption | exact Hp.le_trans ‹_› ‹_›)) rfl
    case hp =>
     refine ⟨rfl, 0, [], true, ⟨rfl, by simp, by decide, fun n q h => ?_, fun _ => rfl⟩, rfl⟩
     rw [hz, hf] at h; cases h
    case hS => (repeat (first|exact zR _|(apply zP;focus (repeat (first|exact zH _|apply zT)))|apply zD|exact zA _ _))
   ·obtain ⟨u, r1, rfl⟩ := takeR_one_f hc14
    rw [takeR_one]
    have hm1 : u.toNat % 128 * 2 ^ (7 * i) ≤ 127 * 128 ^ i := by rw [h7]; exact Nat.mul_le_mul_right _ (by omega)
    have hul := u.toNat_lt
    refine cj_skip ?_
    refine hK11 _ _ _ ?_
    refine cj_seq (fun K15 hK15 => ?_)
    refine cj_region ?_
    refine rv0 rfl rfl rfl (y_move rfl) ?_
    refine rv0 rfl rfl rfl (y_move rfl) ?_
    refine rv0 rfl rfl rfl (y_index_s Try.underlying9 rfl rfl (by (first | omega | (dsimp only; omega) | (simp; done) | (simp; omega)))) ?_
    refine rj_eq 17 rfl (v' := .int .u8 (u.toNat : Int)) rfl ?_
    refine rv0 rfl rfl rfl (y_and rfl rfl) ?_
    refine rj_eq 18 rfl (congrArg _ (and127 u)) ?_
    first | refine rv0 rfl rfl rfl (y_conv_in Try.underlying5 Try.underlying3 rfl (by (simp only [IntKind.min, IntKind.max, IntKind.signed, IntKind.bits, Bool.false_eq_true, ite_false, ite_true]; omega))) ?_ | refine rv0 rfl rfl rfl (y_conv Try.underlying5 Try.underlying3 rfl) ?_
    refine rv0 rfl rfl rfl (y_move rfl) ?_
    first | refine rv0 rfl rfl rfl (y_mul64 rfl rfl (by (first | omega | (dsimp only; omega) | (simp; done) | (simp; omega)))) ?_ | refine rv0 rfl rfl rfl (y_mul rfl rfl) ?_
    refine rv0 rfl rfl rfl (y_shl rfl rfl (by (first | omega | (dsimp only; omega) | (simp; done) | (simp; omega)))) ?_
    refine rj_eq 22 rfl (congrArg _ (shl_nat (u.toNat % 128) (7 * i) _ (by omega) (by omega) (by omega))) ?_
    refine rv0 rfl rfl rfl (y_or rfl rfl) ?_
    refine rj_eq 23 rfl (congrArg _ (or_add acc (u.toNat % 128) (7 * i) (by rw [h7]; exact ha) (by omega))) ?_
    refine rv0 rfl rfl rfl (y_assign rfl) ?_
    refine rj_nil ?_
    refine hK15 _ _ _ ?_
    refine cj_env (eL 0 rfl (eL 3 rfl (eL 4 rfl (eL 5 rfl (eL 6 rfl eN))))) ?_
    refine cj_seq (fun K16 hK16 => ?_)
    refine cj_region ?_
    refine rv0 rfl rfl rfl (y_move rfl) ?_
    refine rv0 rfl rfl rfl (y_index_s Try.underlying9 rfl rfl (by (first | omega | (dsimp only; omega) | (simp; done) | (simp; omega)))) ?_
    refine rj_eq 25 rfl (v' := .int .u8 (u.toNat : Int)) rfl ?_
    refine rv0 rfl rfl rfl (y_lss rfl rfl) ?_
    refine rj_nil ?_
    refine hK16 _ _ _ ?_
    refine cj_cond rfl (fun hc26 => ?_) (fun hc26 => ?_)
    ·(try simp only [dT, dF, nT, nF, tF, fT] at hc26)
     have hsz : szM 4 0 0 s = if u.toNat = 0 ∧ i > 0 then none else some (acc + u.toNat * 128 ^ i, r1) := by rw [hz, hf, szM, if_pos (by (try simp at hc26); omega)]
     refine cj_seq (fun K18 hK18 => ?_)
     refine cj_region ?_
     refine rv0 rfl rfl rfl (y_move rfl) ?_
     refine rv0 rfl rfl rfl (y_move rfl) ?_
     refine rv0 rfl rfl rfl (y_index_s Try.underlying9 rfl rfl (by (first | omega | (dsimp only; omega) | (simp; done) | (simp; omega)))) ?_
     refine rj_eq 29 rfl (v' := .int .u8 (u.toNat : Int)) rfl ?_
     refine rv0 rfl rfl rfl (y_eql rfl rfl) ?_
     refine rv0 rfl rfl rfl (y_move rfl) ?_
     refine rj_part 31 rfl (fun hg31 => ?_) (fun hg31 => ?_)
     ·(try simp only [dT, dF, nT, nF, tF, fT] at hg31)
      refine rj_val (wn1 rfl rfl rfl rfl) rfl rfl (y_move rfl) ?_
      refine rj_val (wn1 rfl rfl rfl rfl) rfl rfl (y_gtr rfl rfl) ?_
      refine rv0 rfl rfl rfl (y_pick_t rfl rfl) ?_
      refine rv0 rfl rfl rfl (y_nilCheck rfl) ?_
      refine rv0 rfl rfl rfl (y_fieldAddr (k := 1) Try.underlying77 rfl (n := 1) (by decide) Try.sizeOf4 rfl) ?_
      refine rj_store ⟨Try.isAgg4, Try.sizeOf4⟩ (wn0 rfl) rfl rfl (by (first | rfl | assumption | (apply cutV_one; assumption))) (by (repeat (first|exact zH _|apply zT));done) rfl rfl ?_
      refine rj_nil ?_
      refine hK18 _ _ _ ?_
      refine cj_env (eL 3 rfl eN) ?_
      refine cj_seq (fun K19 hK19 => ?_)
      refine cj_region ?_
      refine rv0 rfl rfl rfl (y_move rfl) ?_
      refine rv0 rfl rfl rfl (y_assign rfl) ?_
      refine rj_nil ?_
      refine hK19 _ _ _ ?_
      refine cj_ret ?_
      refine hret _ _ _ ?_
      apply ej_ret Try.results43 (.cons (rv_tmp rfl) .nil) _ [rB b r1 (decide ((i : Int) > 0))] (by (first | exact Hp.le_refl _ | assumption | exact Hp.le_trans ‹_› ‹_›)) rfl
      case hp => exact ⟨rfl, _, r1, _, sized_last hsz (by (try simp at hc26); omega) (by simp at hl; omega) (by omega) (by (try simp at hg31); simp; omega), rfl⟩
      case hS => (repeat (first|exact zR _|(apply zP;focus (repeat (first|exact zH _|apply zT)))|apply zD|exact zA _ _))
     ·(try simp only [dT, dF, nT, nF, tF, fT] at hg31)
      refine rj_skip (wn2 rfl rfl rfl rfl rfl) rfl rfl ?_
      refine rj_skip (wn2 rfl rfl rfl rfl rfl) rfl rfl ?_
      refine rv0 rfl rfl rfl (y_pick_f rfl rfl) ?_
      refine rv0 rfl rfl rfl (y_nilCheck rfl) ?_
      refine rv0 rfl rfl rfl (y_fieldAddr (k := 1) Try.underlying77 rfl (n := 1) (by decide) Try.sizeOf4 rfl) ?_
      refine rj_store ⟨Try.isAgg4, Try.sizeOf4⟩ (wn0 rfl) rfl rfl (by (first | rfl | assumption | (apply cutV_one; assumption))) (by (repeat (first|exact zH _|apply zT));done) rfl rfl ?_
      refine rj_nil ?_
      refine hK18 _ _ _ ?_
      refine cj_env (eL 3 rfl eN) ?_
      refine cj_seq (fun K20 hK20 => ?_)
      refine cj_region ?_
      refine rv0 rfl rfl rfl (y_move rfl) ?_
      refine rv0 rfl rfl rfl (y_assign rfl) ?_
      refine rj_nil ?_
      refine hK20 _ _ _ ?_
      refine cj_ret ?_
      refine hret _ _ _ ?_
      apply ej_ret Try.results43 (.cons (rv_tmp rfl) .nil) _ [rB b r1 false] (by (first | exact Hp.le_refl _ | assumption | exact Hp.le_trans ‹_› ‹_›)) rfl
      case hp => exact ⟨rfl, _, r1, _, sized_last hsz (by (try simp at hc26); omega) (by simp at hl; omega) (by omega) (by (try simp at hg31); simp; omega), rfl⟩
      case hS => (repeat (first|exact zR _|(apply zP;focus (repeat (first|exact zH _|apply zT)))|apply zD|exact zA _ _))
    ·try simp only [dT, dF, nT, nF, tF, fT] at hc26
     refine cj_skip ?_
     refine hK8 _ _ _ ?_
     refine cj_env (eL 0 rfl (eL 3 rfl (eL 6 rfl eN))) ?_
     refine cj_region ?_
     first | refine rv0 rfl rfl rfl (y_add64 rfl rfl (by (first | omega | (dsimp only; omega) | (simp; done) | (simp; omega)))) ?_ | refine rv0 rfl rfl rfl (y_add rfl rfl) ?_
     refine rv0 rfl rfl rfl (y_move rfl) ?_
     refine rj_nil ?_
     refine ej_on (q' := roundK _ _ _ _ _ _ _) rfl ?_
     refine ej_round ((i + 1, acc + u.toNat % 128 * 2 ^ (7 * i), r1)) (⟨by dsimp only; omega, by dsimp only; rw [Nat.pow_succ]; omega, by dsimp only; rw [hz, hf, szM, if_neg (by (try simp at hc26); omega), h7, show u.toNat % 128 = u.toNat - 128 by have := u.toNat_lt; simp at hc26; omega]; congr 1; omega, by dsimp only; simp at hl; omega⟩) (by dsimp only; omega) (eC rfl (eC rfl (eC rfl eN))) rfl (by (repeat (first|exact zR _|(apply zP;focus (repeat (first|exact zH _|apply zT)))|apply zD|exact zA _ _)))
  ·try simp only [dT, dF, nT, nF, tF, fT] at hc7
   refine cj_exit ?_
   refine hK3 _ _ _ ?_
   refine cj_env (eL 0 rfl eN) ?_
   refine cj_seq (fun K21 hK21 => ?_)
   refine cj_region ?_
   refine rv0 rfl rfl rfl (y_move rfl) ?_
   refine rv0 rfl rfl rfl (y_nilCheck rfl) ?_
   refine rv0 rfl rfl rfl (y_fieldAddr (k := 1) Try.underlying77 rfl (n := 1) (by decide) Try.sizeOf4 rfl) ?_
   refine rj_store ⟨Try.isAgg4, Try.sizeOf4⟩ (wn0 rfl) rfl rfl (by (first | rfl | assumption | (apply cutV_one; assumption))) (by (repeat (first|exact zH _|apply zT));done) rfl rfl ?_
   refine rj_nil ?_
   refine hK21 _ _ _ ?_
   refine cj_env eN ?_
   refine cj_seq (fun K22 hK22 => ?_)
   refine cj_region ?_
   refine rv0 rfl rfl rfl (y_assign rfl) ?_
   refine rj_nil ?_
   refine hK22 _ _ _ ?_
   refine cj_ret ?_
   refine hret _ _ _ ?_
   apply ej_ret Try.results43 (.cons (rv_tmp rfl) .nil) _ [rB b s1 true] (by (first | exact Hp.le_refl _ | assumption | exact Hp.le_trans ‹_› ‹_›)) rfl
   case hp =>
    refine ⟨rfl, 0, s1, true, ⟨rfl, hl, by decide, fun n q h => ?_, fun _ => rfl⟩, rfl⟩
    rw [hz, show 4 - i = 0 by omega] at h; cases h
   case hS => (repeat (first|exact zR _|(apply zP;focus (repeat (first|exact zH _|apply zT)))|apply zD|exact zA _ _))
theorem rsizeAny_t {R : Hp} (b : Nat) (s : List UInt8) (bad : Bool) (hs : s.length ≤ big) : Tri Try.prog 43 [.pointer (some ⟨b, 0, none⟩)] R [rB b s bad]
    (fun r R' L' => R = R' ∧ ∃ (m : Nat) (s' : List UInt8) (bad' : Bool), r = .int .i64 (m : Int) ∧ L' = [rB b s' bad'] ∧ s'.length ≤ s.length ∧ m < 268435456 ∧ (bad = true → bad' = true) ∧ (bad = false → bad' = false → szM 4 0 0 s = some (m, s')) ∧ (bad = false → bad' = true → szM 4 0 0 s = none)) := by
  cases bad with
  | true =>
    refine (rsizeBad_t b s hs).mono ?_ (fun _ _ _ _ h => h)
    rintro v R' L' hR ⟨h1, h2, h3⟩
    exact ⟨h1, 0, s, true, h2, h3, Nat.le_refl _, by decide, fun _ => rfl, fun h => (by cases h), fun h => (by cases h)⟩
  | false =>
    refine (rsize_t b s hs).mono ?_ (fun _ _ _ _ h => h)
    rintro v R' L' hR ⟨h1, m, s', bad', ⟨h2, h3, h4, h5, h6⟩, h7⟩
    refine ⟨h1, m, s', bad', h2, h7, h3, h4, fun h => (by cases h), fun _ hb => ?_, fun _ hb => ?_⟩
    · cases hz : szM 4 0 0 s with
      | none => rw [h6 hz] at hb; cases hb
      | some q => obtain ⟨n, r⟩ := q; obtain ⟨rfl, rfl, _⟩ := h5 n r hz; rfl
    · cases hz : szM 4 0 0 s with
      | none => rfl
      | some q => obtain ⟨n, r⟩ := q; obtain ⟨_, _, h⟩ := h5 n r hz; rw [h] at hb; cases hb
/-- how a reader stands behind a node -/
def NRead (b d : Nat) (s : List UInt8) (bad : Bool) (v : Value) (R' : Hp) (L' : List Asn) : Prop :=
  ∃ y cy s' bad', v = .agg ⟨cy⟩ ∧ RepN R' y cy ∧ L' = [rB b s' bad'] ∧ s'.length ≤ s.length ∧ (bad = true → bad' = true) ∧ (bad = false → bad' = false → rdM d s = some (y, s')) ∧ (bad = false → bad' = true → rdM d s = none)
theorem takeR_spec (s : List UInt8) (n : Nat) : ((takeR s false n).2.2 = true ∧ (takeR s false n).1 = [] ∧ (takeR s false n).2.1 = s ∧ s.length < n) ∨ ((takeR s false n).2.2 = false ∧ (takeR s false n).1 = s.take n ∧ (takeR s false n).2.1 = s.drop n ∧ n ≤ s.length) := by
  unfold takeR
  by_cases h : s.length < n
  · simp [h]
  · simp [h]; omega
theorem zero_rep (R : Hp) : RepN R ndZero [.int .i64 0, .int .u64 0, .string (str []), .slice none 0 0] := RepL.node (k := 0) (n := 0) (s := []) (by simp [big]) (RepL.nil R)
theorem beN_take {t : List UInt8} {i : Nat} (h : i < t.length) : beN (t.take (i + 1)) = beN (t.take i) * 256 + (byteAt t (i : Int)).toNat := by
  rw [List.take_add_one]
  have : t[i]? = some (t[i]) := by simp [h]
  rw [this]
  simp only [Option.toList_some]
  rw [beN_snoc]
  simp [byteAt, h]
theorem rdL_app {f : List UInt8 → Option (Nd × List UInt8)} {n : Nat} {s s' : List UInt8} {ks : List Nd} {m : Nat} (h : rdL f n s = (rdL f m s').map (fun p => (ks ++ p.1, p.2))) {y : Nd} {r : List UInt8} {m' : Nat} (hm : m = m' + 1) (hy : f s' = some (y, r)) :
    rdL f n s = (rdL f m' r).map (fun p => ((ks ++ [y]) ++ p.1, p.2)) := by
  rw [h, hm, rdL, hy]
  simp only
  cases rdL f m' r with
  | none => rfl
  | some q => simp
theorem rdL_none {f : List UInt8 → Option (Nd × List UInt8)} {n : Nat} {s s' : List UInt8} {ks : List Nd} {m : Nat} (h : rdL f n s = (rdL f m s').map (fun p => (ks ++ p.1, p.2))) {m' : Nat} (hm : m = m' + 1) (hy : f s' = none) : rdL f n s = none := by
  rw [h, hm, rdL, hy]; rfl
/-- kids that were read: their cells -/
def Kids (R : Hp) (ks : List Nd) (css : List (List Value)) : Prop := css.length = ks.length ∧ ∀ (i : Nat) (x : Nd) (cs : List Value), ks[i]? = some x → css[i]? = some cs → RepN R x cs
theorem Kids.mono {R R' : Hp} (h : R.le R') {ks : List Nd} {css : List (List Value)} (k : Kids R ks css) : Kids R' ks css := ⟨k.1, fun i x cs h1 h2 => (k.2 i x cs h1 h2).mono h⟩
theorem Kids.snoc {R : Hp} {ks : List Nd} {css : List (List Value)} (k : Kids R ks css) {y : Nd} {cy : List Value} (h : RepN R y cy) : Kids R (ks ++ [y]) (css ++ [cy]) := by
  refine ⟨by simp [k.1], fun i x cs h1 h2 => ?_⟩
  rcases Nat.lt_or_ge i ks.length with hi | hi
  · rw [List.getElem?_append_left hi] at h1
    rw [List.getElem?_append_left (by rw [k.1]; exact hi)] at h2
    exact k.2 i x cs h1 h2
  · rw [List.getElem?_append_right hi] at h1
    rw [List.getElem?_append_right (by rw [k.1]; exact hi), k.1] at h2
    cases hd : i - ks.length with
    | zero => rw [hd] at h1 h2; simp at h1 h2; subst h1 h2; exact h
    | succ n => rw [hd] at h1; simp at h1
theorem rep_four {R : Hp} {x : Nd} {cs : List Value} (h : RepN R x cs) : cs.length = 4 := by
  obtain ⟨_, _, _, _, _, _, _, rfl, _⟩ := h.inv; rfl
theorem rep_one {R : Hp} {x : Nd} {cs : List Value} (h : RepN R x cs) : ∀ u ∈ cs, u.oneCell' = true := by
  obtain ⟨_, _, _, _, _, _, _, rfl, _⟩ := h.inv
  intro u hu
  simp at hu
  rcases hu with rfl | rfl | rfl | rfl <;> rfl
theorem flat_get : ∀ (css : List (List Value)) (i : Nat) (cs : List Value) (j : Nat) (u : Value), (∀ c ∈ css, c.length = 4) → css[i]? = some cs → cs[j]? = some u → css.flatten[i * 4 + j]? = some u
  | [], i, cs, j, u, _, h, _ => by simp at h
  | c :: css, 0, cs, j, u, h4, h, hj => by
    simp at h; subst h
    have := (List.getElem?_eq_some_iff.1 hj).1
    simp only [List.flatten_cons, Nat.zero_mul, Nat.zero_add]
    rw [List.getElem?_append_left this, hj]
  | c :: css, i + 1, cs, j, u, h4, h, hj => by
    have hc := h4 c (by simp)
    simp only [List.flatten_cons]
    rw [List.getElem?_append_right (by omega), hc, show (i + 1) * 4 + j - 4 = i * 4 + j by omega]
    exact flat_get css i cs j u (fun x hx => h4 x (by simp [hx])) (by simpa using h) hj
theorem Kids.four {R : Hp} {ks : List Nd} {css : List (List Value)} (k : Kids R ks css) : ∀ c ∈ css, c.length = 4 := fun c hc => by
  obtain ⟨i, hi, rfl⟩ := List.getElem_of_mem hc
  exact rep_four (k.2 i (ks[i]'(by rw [← k.1]; exact hi)) _ (by simp) (by simp [hi]))
theorem Kids.repL {R : Hp} {ks : List Nd} {css : List (List Value)} (k : Kids R ks css) {v : Value} (h : FrozenS R v ks.length css.flatten) (hb : ks.length ≤ big) : ∃ q cap, v = .slice q ks.length cap ∧ RepL R ks q cap := by
  rcases h with ⟨rfl, h0⟩ | ⟨b, off, cap, rfl, h1, h2, h3⟩
  · have : ks = [] := List.eq_nil_of_length_eq_zero h0
    subst this
    exact ⟨none, 0, rfl, RepL.nil R⟩
  · refine ⟨_, cap, rfl, css, hb, k.1, h1, h2, fun i x cs e1 e2 => k.four cs (List.mem_of_getElem? e2), k.2, .inr ⟨b, off, rfl, fun i cs j u e1 e2 => ?_⟩⟩
    rw [Nat.add_assoc]
    exact h3 _ _ (flat_get css i cs j u k.four e1 e2)
end V
end Go.Proofs.Ytcgjlhhfldkdaaa
