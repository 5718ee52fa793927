/- A node's bytes written. -/
import Derived.Test.YtcgjlhhfldkdaaaT3c
set_option linter.unusedSimpArgs false
set_option linter.unusedVariables false
set_option maxRecDepth 100000
namespace Go.Proofs.Ytcgjlhhfldkdaaa
open Go.RowKit
namespace V
set_option maxHeartbeats 1000000
theorem or128 (m : Nat) : bitOr .u8 (IntKind.u8.wrap (m : Int)) 128 = ((UInt8.ofNat (m % 128 + 128)).toNat : Int) := by
  have hw : IntKind.u8.wrap (m : Int) = ((m % 256 : Nat) : Int) := by
    simp [IntKind.wrap, IntKind.signed, IntKind.bits]
  rw [hw, ofNat_toNat' _ (by omega)]
  have hlt : m % 256 < 256 := Nat.mod_lt _ (by decide)
  have hmm : m % 128 = m % 256 % 128 := by omega
  rw [hmm]
  generalize m % 256 = A at hlt
  have key : ∀ A : Fin 256, bitOr .u8 ((A.val : Nat) : Int) 128 = ((A.val % 128 + 128 : Nat) : Int) := by decide +kernel
  exact key ⟨A, hlt⟩
theorem shr_nat {k : IntKind} (m j : Nat) (z : Int) (hz : z = j) (hj : j ≤ k.bits) : ((m : Nat) : Int).fdiv (2 ^ min z.toNat k.bits) = ((m / 2 ^ j : Nat) : Int) := by
  subst hz
  rw [Int.toNat_natCast, Nat.min_eq_left hj, Int.fdiv_eq_ediv_of_nonneg _ (by exact Int.pow_nonneg (by decide))]
  rw [Int.natCast_ediv, Int.natCast_pow]; rfl
theorem wrap8 (m : Nat) : IntKind.u8.wrap (m : Int) = ((UInt8.ofNat (m % 256)).toNat : Int) := by
  rw [ofNat_toNat' _ (by omega)]; simp [IntKind.wrap, IntKind.signed, IntKind.bits]
theorem wSize_t {R : Hp} (b : Nat) (q : Option Addr) (v : Value) (bad : Bool) (bs : List UInt8) (n : Nat) (hq : own1 b q) (hh : headed v) (hl : bs.length ≤ 100000000) (hn : n ≤ big) :
    Tri Try.prog 55 [.pointer (some ⟨b, 0, none⟩), .int .i64 (n : Int)] R [wB b q v bad, wS v bs]
    (fun r R' L' => R = R' ∧ ∃ v', headed v' ∧ L' = [wB b (some ⟨b, 0, none⟩) v' bad, wS v' (bs ++ sizeB n)]) := by
  unfold big at hn
  have hsl := sizeB_len 5 n (by simp; omega)
  refine tri_of Try.func55 rfl Try.ntmps55 rfl (fun σ F Q hret hend hpan => ?_)
  try simp only [List.cons_append, List.nil_append]
  refine cj_env (eL 0 rfl (eL 1 rfl eN)) ?_
  refine cj_seq (fun K1 hK1 => ?_)
  refine cj_block ?_
  refine cj_env (E' := (fun (x : Nat × List UInt8 × Option Addr × Value) => [(0, .pointer (some ⟨b, 0, none⟩)), (1, .int .i64 (x.1 : Int))]) (n, bs, q, v)) (eC rfl (eC rfl eN)) ?_
  refine cj_sub (M := (fun (x : Nat × List UInt8 × Option Addr × Value) => wB b x.2.2.1 x.2.2.2 bad :: wS x.2.2.2 x.2.1 :: F) (n, bs, q, v)) (by (repeat (first|exact zR _|(apply zP;focus (repeat (first|exact zH _|apply zT)))|apply zD|exact zA _ _))) ?_
  refine cj_loop (fun (x : Nat × List UInt8 × Option Addr × Value) => [(0, .pointer (some ⟨b, 0, none⟩)), (1, .int .i64 (x.1 : Int))]) (fun (x : Nat × List UInt8 × Option Addr × Value) => R) (fun (x : Nat × List UInt8 × Option Addr × Value) => wB b x.2.2.1 x.2.2.2 bad :: wS x.2.2.2 x.2.1 :: F) (fun (x : Nat × List UInt8 × Option Addr × Value) => own1 b x.2.2.1 ∧ headed x.2.2.2 ∧ x.2.1 ++ sizeB x.1 = bs ++ sizeB n ∧ x.1 ≤ n) (fun (x : Nat × List UInt8 × Option Addr × Value) => x.1) (n, bs, q, v) (⟨hq, hh, rfl, Nat.le_refl _⟩) ?_
  rintro ⟨m, acc, q1, v1⟩ ⟨hq1, hh1, he, hm⟩
  try dsimp only
  dsimp only at hq1 hh1 he hm
  have hel := congrArg List.length he
  simp only [List.length_append] at hel
  refine cj_seq (fun K2 hK2 => ?_)
  refine cj_seq (fun K3 hK3 => ?_)
  refine cj_region ?_
  refine rv0 rfl rfl rfl (y_move rfl) ?_
  refine rv0 rfl rfl rfl (y_geq rfl rfl) ?_
  refine rj_nil ?_
  refine hK3 _ _ _ ?_
  refine cj_cond rfl (fun hc5 => ?_) (fun hc5 => ?_)
  ·try simp only [dT, dF, nT, nF, tF, fT] at hc5
   refine cj_skip ?_
   refine hK2 _ _ _ ?_
   refine cj_seq (fun K5 hK5 => ?_)
   refine cj_block ?_
   refine cj_region ?_
   refine rv0 rfl rfl rfl (y_move rfl) ?_
   refine rv0 rfl rfl rfl (y_nilCheck rfl) ?_
   refine rv0 rfl rfl rfl (y_fieldAddr (k := 0) Try.underlying98 rfl (n := 2) (by decide) Try.sizeOf96 rfl) ?_
   refine rv0 rfl rfl rfl (y_move rfl) ?_
   first | refine rv0 rfl rfl rfl (y_conv_in Try.underlying3 Try.underlying5 rfl (by (simp only [IntKind.min, IntKind.max, IntKind.signed, IntKind.bits, Bool.false_eq_true, ite_false, ite_true]; omega))) ?_ | refine rv0 rfl rfl rfl (y_conv Try.underlying3 Try.underlying5 rfl) ?_
   refine rv0 rfl rfl rfl (y_or rfl rfl) ?_
   refine rj_eq 13 rfl (congrArg _ (or128 m)) ?_
   refine rj_call (wn0 rfl) rfl Try.call54 rfl (writeByte_t b q1 v1 bad acc _ hq1 hh1 (by omega)) (by (repeat (first|exact zN _|(apply zS;focus (repeat (first|exact zH _|apply zT)))))) (fun _ _ _ _ h => h.elim) ?_
   rintro r R' L' hR ⟨rfl, v2, hh2, rfl⟩
   try simp only [List.cons_append, List.nil_append]
   refine rj_nil ?_
   refine hK5 _ _ _ ?_
   refine cj_env (eL 0 rfl (eL 1 rfl eN)) ?_
   refine cj_region ?_
   refine rv0 rfl rfl rfl (y_move rfl) ?_
   refine rv0 rfl rfl rfl (y_shr rfl rfl (by (first | omega | (dsimp only; omega) | (simp; done) | (simp; omega)))) ?_
   refine rj_eq 7 rfl (congrArg _ (shr_nat m 7 7 rfl (by decide))) ?_
   refine rv0 rfl rfl rfl (y_assign rfl) ?_
   refine rj_nil ?_
   refine ej_on (q' := roundK _ _ _ _ _ _ _) rfl ?_
   refine ej_round ((m / 128, acc ++ [UInt8.ofNat (m % 128 + 128)], some ⟨b, 0, none⟩, v2)) (⟨.inr rfl, hh2, by dsimp only; rw [← he, sizeB_big (n := m) (by omega)]; simp, by dsimp only; omega⟩) (by dsimp only; omega) (eC rfl (eC rfl eN)) rfl (by (repeat (first|exact zR _|(apply zP;focus (repeat (first|exact zH _|apply zT)))|apply zD|exact zA _ _)))
  ·try simp only [dT, dF, nT, nF, tF, fT] at hc5
   refine cj_exit ?_
   refine hK1 _ _ _ ?_
   refine cj_region ?_
   refine rv0 rfl rfl rfl (y_move rfl) ?_
   refine rv0 rfl rfl rfl (y_nilCheck rfl) ?_
   refine rv0 rfl rfl rfl (y_fieldAddr (k := 0) Try.underlying98 rfl (n := 2) (by decide) Try.sizeOf96 rfl) ?_
   refine rv0 rfl rfl rfl (y_move rfl) ?_
   first | refine rv0 rfl rfl rfl (y_conv_in Try.underlying3 Try.underlying5 rfl (by (simp only [IntKind.min, IntKind.max, IntKind.signed, IntKind.bits, Bool.false_eq_true, ite_false, ite_true]; omega))) ?_ | refine rv0 rfl rfl rfl (y_conv Try.underlying3 Try.underlying5 rfl) ?_
   refine rj_eq 19 rfl (v' := .int .u8 ((UInt8.ofNat m).toNat : Int)) (by rw [ofNat_toNat' _ (by omega)]) ?_
   refine rj_call (wn0 rfl) rfl Try.call54 rfl (writeByte_t b q1 v1 bad acc _ hq1 hh1 (by omega)) (by (repeat (first|exact zN _|(apply zS;focus (repeat (first|exact zH _|apply zT)))))) (fun _ _ _ _ h => h.elim) ?_
   rintro r R' L' hR ⟨rfl, v2, hh2, rfl⟩
   rw [show acc ++ [UInt8.ofNat m] = bs ++ sizeB n by rw [← he, sizeB_small (by omega)]]
   try simp only [List.cons_append, List.nil_append]
   refine rj_nil ?_
   refine hend _ _ _ ?_
   apply ej_end Try.results55 .nil _ [wB b (some ⟨b, 0, none⟩) v2 bad, wS v2 (bs ++ sizeB n)] (by (first | exact Hp.le_refl _ | assumption | exact Hp.le_trans ‹_› ‹_›)) rfl
   case hp => exact ⟨rfl, v2, hh2, rfl⟩
   case hS => (repeat (first|exact zR _|(apply zP;focus (repeat (first|exact zH _|apply zT)))|apply zD|exact zA _ _))
theorem bitLen_eq : ∀ (k n : Nat), n < 2 ^ k → (k = 0 ∨ 2 ^ (k - 1) ≤ n) → bitLen n = k
  | 0, n, h, _ => by have : n = 0 := by simpa using h
                     subst this; exact bitLen_zero
  | k + 1, n, h, h2 => by
    have h3 : 2 ^ k ≤ n := by simpa using h2
    have hp : 1 ≤ 2 ^ k := Nat.one_le_two_pow
    rw [bitLen_pos (by omega), bitLen_eq k (n / 2) (by rw [Nat.pow_succ] at h; omega) (by
      cases k with
      | zero => exact .inl rfl
      | succ k => right; rw [Nat.pow_succ] at h3; simp; omega)]
theorem len8 {m : List UInt8} (h : ∀ x : Fin 256, x.val < 2 ^ (m.getD x.val 0).toNat ∧ ((m.getD x.val 0).toNat = 0 ∨ 2 ^ ((m.getD x.val 0).toNat - 1) ≤ x.val)) {n : Nat} (hn : n < 256) : byteAt m (n : Int) = (bitLen n : Int) := by
  have := h ⟨n, hn⟩
  rw [bitLen_eq _ _ this.1 this.2]
  simp [byteAt]
theorem len64_q {R : Hp} (n : Nat) (hn : n < 18446744073709551616) : QTri Try.prog 53 [.int .u64 (n : Int)] R [] (.int .i64 (bitLen n : Int)) := by
  refine Tri.q ?_
  refine tri_of Try.func53 rfl Try.ntmps53 rfl (fun σ F Q hret hend hpan => ?_)
  try simp only [List.cons_append, List.nil_append]
  refine cj_env (eL 0 rfl eN) ?_
  refine cj_seq (fun K1 hK1 => ?_)
  refine cj_region ?_
  refine rv0 rfl rfl rfl (y_assign rfl) ?_
  refine rj_nil ?_
  refine hK1 _ _ _ ?_
  refine cj_seq (fun K2 hK2 => ?_)
  have hJ4 : ∀ (x : Nat × Nat), x.1 < 4294967296 ∧ x.2 + bitLen x.1 = bitLen n ∧ x.2 ≤ 32 → EJ ⟨Try.prog, 25, σ⟩ K2 [(0, .int .u64 (x.1 : Int)), (2, .int .i64 (x.2 : Int))] R (F) := by
   rintro ⟨m, r⟩ ⟨hm, hb, hr⟩
   try dsimp only
   dsimp only at hm hb hr
   refine hK2 _ _ _ ?_
   refine cj_seq (fun K3 hK3 => ?_)
   have hJ7 : ∀ (x : Nat × Nat), x.1 < 65536 ∧ x.2 + bitLen x.1 = bitLen n ∧ x.2 ≤ 48 → EJ ⟨Try.prog, 25, σ⟩ K3 [(0, .int .u64 (x.1 : Int)), (2, .int .i64 (x.2 : Int))] R (F) := by
    rintro ⟨m2, r2⟩ ⟨hm2, hb2, hr2⟩
    try dsimp only
    dsimp only at hm2 hb2 hr2
    refine hK3 _ _ _ ?_
    refine cj_seq (fun K4 hK4 => ?_)
    have hJ10 : ∀ (x : Nat × Nat), x.1 < 256 ∧ x.2 + bitLen x.1 = bitLen n ∧ x.2 ≤ 56 → EJ ⟨Try.prog, 25, σ⟩ K4 [(0, .int .u64 (x.1 : Int)), (2, .int .i64 (x.2 : Int))] R (F) := by
     rintro ⟨m3, r3⟩ ⟨hm3, hb3, hr3⟩
     try dsimp only
     dsimp only at hm3 hb3 hr3
     have hb8 := bitLen_le 8 m3 (by simpa using hm3)
     refine hK4 _ _ _ ?_
     refine cj_seq (fun K5 hK5 => ?_)
     refine cj_region ?_
     refine rv0 rfl rfl rfl (y_move rfl) ?_
     refine rv0 rfl rfl rfl (y_move rfl) ?_
     first | refine rv0 rfl rfl rfl (y_conv_in Try.underlying25 Try.underlying5 rfl (by (simp only [IntKind.min, IntKind.max, IntKind.signed, IntKind.bits, Bool.false_eq_true, ite_false, ite_true]; omega))) ?_ | refine rv0 rfl rfl rfl (y_conv Try.underlying25 Try.underlying5 rfl) ?_
     refine rv0 rfl rfl rfl ((y_index_s Try.underlying9 rfl rfl ⟨by omega, Int.lt_of_lt_of_le (by omega : (m3 : Int) < 256) (by decide +kernel)⟩)) ?_
     refine rj_eq 22 rfl (congrArg _ (len8 (by decide +kernel) hm3)) ?_
     first | refine rv0 rfl rfl rfl (y_conv_in Try.underlying5 Try.underlying3 rfl (by (simp only [IntKind.min, IntKind.max, IntKind.signed, IntKind.bits, Bool.false_eq_true, ite_false, ite_true]; omega))) ?_ | refine rv0 rfl rfl rfl (y_conv Try.underlying5 Try.underlying3 rfl) ?_
     first | refine rv0 rfl rfl rfl (y_add64 rfl rfl (by (first | omega | (dsimp only; omega) | (simp; done) | (simp; omega)))) ?_ | refine rv0 rfl rfl rfl (y_add rfl rfl) ?_
     refine rv0 rfl rfl rfl (y_assign rfl) ?_
     refine rj_nil ?_
     refine hK5 _ _ _ ?_
     refine cj_env (eL 2 rfl eN) ?_
     refine cj_ret ?_
     refine hret _ _ _ ?_
     apply ej_ret Try.results53 (.cons (rv_tmp rfl) .nil) _ [] (by (first | exact Hp.le_refl _ | assumption | exact Hp.le_trans ‹_› ‹_›)) rfl
     case hp => refine ⟨?_, rfl, rfl⟩; rw [← hb3]; rfl
     case hS => (repeat (first|exact zR _|(apply zP;focus (repeat (first|exact zH _|apply zT)))|apply zD|exact zA _ _))
    refine cj_seq (fun K6 hK6 => ?_)
    refine cj_region ?_
    refine rv0 rfl rfl rfl (y_move rfl) ?_
    refine rv0 rfl rfl rfl (y_geq rfl rfl) ?_
    refine rj_nil ?_
    refine hK6 _ _ _ ?_
    refine cj_cond rfl (fun hc14 => ?_) (fun hc14 => ?_)
    ·try simp only [dT, dF, nT, nF, tF, fT] at hc14
     refine cj_seq (fun K8 hK8 => ?_)
     refine cj_region ?_
     refine rv0 rfl rfl rfl (y_move rfl) ?_
     refine rv0 rfl rfl rfl (y_shr rfl rfl (by (first | omega | (dsimp only; omega) | (simp; done) | (simp; omega)))) ?_
     refine rj_eq 16 rfl (congrArg _ (shr_nat m2 8 8 rfl (by decide))) ?_
     refine rv0 rfl rfl rfl (y_assign rfl) ?_
     refine rj_nil ?_
     refine hK8 _ _ _ ?_
     refine cj_env (eL 0 rfl (eL 2 rfl eN)) ?_
     refine cj_region ?_
     refine rv0 rfl rfl rfl (y_move rfl) ?_
     first | refine rv0 rfl rfl rfl (y_add64 rfl rfl (by (first | omega | (dsimp only; omega) | (simp; done) | (simp; omega)))) ?_ | refine rv0 rfl rfl rfl (y_add rfl rfl) ?_
     refine rv0 rfl rfl rfl (y_assign rfl) ?_
     refine rj_nil ?_
     refine ej_join hJ10 ((m2 / 2 ^ 8, r2 + 8)) (⟨by dsimp only; omega, by have := bitLen_shift 8 m2 (by omega); dsimp only; omega, by dsimp only; omega⟩) (eC rfl (eC rfl eN)) rfl (by (repeat (first|exact zR _|(apply zP;focus (repeat (first|exact zH _|apply zT)))|apply zD|exact zA _ _)))
    ·try simp only [dT, dF, nT, nF, tF, fT] at hc14
     refine cj_skip ?_
     refine ej_join hJ10 ((m2, r2)) (⟨by dsimp only; omega, hb2, by dsimp only; omega⟩) (eC rfl (eC rfl eN)) rfl (by (repeat (first|exact zR _|(apply zP;focus (repeat (first|exact zH _|apply zT)))|apply zD|exact zA _ _)))
   refine cj_seq (fun K9 hK9 => ?_)
   refine cj_region ?_
   refine rv0 rfl rfl rfl (y_move rfl) ?_
   refine rv0 rfl rfl rfl (y_geq rfl rfl) ?_
   refine rj_nil ?_
   refine hK9 _ _ _ ?_
   refine cj_cond rfl (fun hc8 => ?_) (fun hc8 => ?_)
   ·try simp only [dT, dF, nT, nF, tF, fT] at hc8
    refine cj_seq (fun K11 hK11 => ?_)
    refine cj_region ?_
    refine rv0 rfl rfl rfl (y_move rfl) ?_
    refine rv0 rfl rfl rfl (y_shr rfl rfl (by (first | omega | (dsimp only; omega) | (simp; done) | (simp; omega)))) ?_
    refine rj_eq 10 rfl (congrArg _ (shr_nat m 16 16 rfl (by decide))) ?_
    refine rv0 rfl rfl rfl (y_assign rfl) ?_
    refine rj_nil ?_
    refine hK11 _ _ _ ?_
    refine cj_env (eL 0 rfl (eL 2 rfl eN)) ?_
    refine cj_region ?_
    refine rv0 rfl rfl rfl (y_move rfl) ?_
    first | refine rv0 rfl rfl rfl (y_add64 rfl rfl (by (first | omega | (dsimp only; omega) | (simp; done) | (simp; omega)))) ?_ | refine rv0 rfl rfl rfl (y_add rfl rfl) ?_
    refine rv0 rfl rfl rfl (y_assign rfl) ?_
    refine rj_nil ?_
    refine ej_join hJ7 ((m / 2 ^ 16, r + 16)) (⟨by dsimp only; omega, by have := bitLen_shift 16 m (by omega); dsimp only; omega, by dsimp only; omega⟩) (eC rfl (eC rfl eN)) rfl (by (repeat (first|exact zR _|(apply zP;focus (repeat (first|exact zH _|apply zT)))|apply zD|exact zA _ _)))
   ·try simp only [dT, dF, nT, nF, tF, fT] at hc8
    refine cj_skip ?_
    refine ej_join hJ7 ((m, r)) (⟨by dsimp only; omega, hb, by dsimp only; omega⟩) (eC rfl (eC rfl eN)) rfl (by (repeat (first|exact zR _|(apply zP;focus (repeat (first|exact zH _|apply zT)))|apply zD|exact zA _ _)))
  refine cj_seq (fun K12 hK12 => ?_)
  refine cj_region ?_
  refine rv0 rfl rfl rfl (y_move rfl) ?_
  refine rv0 rfl rfl rfl (y_geq rfl rfl) ?_
  refine rj_nil ?_
  refine hK12 _ _ _ ?_
  refine cj_cond rfl (fun hc4 => ?_) (fun hc4 => ?_)
  ·try simp only [dT, dF, nT, nF, tF, fT] at hc4
   refine cj_seq (fun K14 hK14 => ?_)
   refine cj_region ?_
   refine rv0 rfl rfl rfl (y_move rfl) ?_
   refine rv0 rfl rfl rfl (y_shr rfl rfl (by (first | omega | (dsimp only; omega) | (simp; done) | (simp; omega)))) ?_
   refine rj_eq 6 rfl (congrArg _ (shr_nat n 32 32 rfl (by decide))) ?_
   refine rv0 rfl rfl rfl (y_assign rfl) ?_
   refine rj_nil ?_
   refine hK14 _ _ _ ?_
   refine cj_env (eL 0 rfl eN) ?_
   refine cj_region ?_
   refine rv0 rfl rfl rfl (y_assign rfl) ?_
   refine rj_nil ?_
   refine ej_join hJ4 ((n / 2 ^ 32, 32)) (⟨by dsimp only; omega, by have := bitLen_shift 32 n (by omega); dsimp only; omega, by simp⟩) (eC rfl (eC rfl eN)) rfl (by (repeat (first|exact zR _|(apply zP;focus (repeat (first|exact zH _|apply zT)))|apply zD|exact zA _ _)))
  ·try simp only [dT, dF, nT, nF, tF, fT] at hc4
   refine cj_skip ?_
   refine ej_join hJ4 ((n, 0)) (⟨by dsimp only; omega, by simp, by simp⟩) (eC rfl (eC rfl eN)) rfl (by (repeat (first|exact zR _|(apply zP;focus (repeat (first|exact zH _|apply zT)))|apply zD|exact zA _ _)))
/-- how a writer stands behind a node's bytes -/
def Wrote (b : Nat) (bs out : List UInt8) (bad : Bool) (R R' : Hp) (L' : List Asn) : Prop :=
  R = R' ∧ ∃ q' v' bad' bs', own1 b q' ∧ headed v' ∧ L' = [wB b q' v' bad', wS v' bs'] ∧ (bad = true → bad' = true) ∧ (bad' = false → bs' = bs ++ out) ∧ (bad = false → bad' = true → 16777216 < (bs ++ out).length) ∧ (bs'.length ≤ bs.length ∨ bs'.length ≤ 16777316)
theorem quo8 (m : Nat) (h : m ≤ 64) : IntKind.i64.wrap (((m : Int) + 7).tdiv 8) = (((m + 7) / 8 : Nat) : Int) := by
  rw [Int.tdiv_eq_ediv_of_nonneg (by omega), wrap_i64_in ⟨by omega, by omega⟩]; omega
theorem take_numB (n j : Nat) (hj : j < (numB n).length) : (numB n).take j ++ [UInt8.ofNat (n / 2 ^ (8 * ((numB n).length - 1 - j)) % 256)] = (numB n).take (j + 1) := by
  have := numB_get n j hj
  rw [List.take_add_one, this, show (256 : Nat) = 2 ^ 8 by rfl, ← Nat.pow_mul]
  rfl
theorem wrs_take {l : List Nd} {i : Nat} {x : Nd} (hx : l[i]? = some x) : wrs (l.take (i + 1)) = wrs (l.take i) ++ wr x := by
  have key : ∀ (m : List Nd), wrs (m ++ [x]) = wrs m ++ wr x := by
    intro m
    induction m with
    | nil => simp [wrs]
    | cons y m ih => rw [List.cons_append, wrs, ih, wrs, List.append_assoc]
  rw [List.take_add_one, hx]; exact key _
theorem wNode_t (N : Nat) : ∀ (x : Nd) (cx : List Value) {R : Hp} (b : Nat) (q : Option Addr) (v : Value) (bad : Bool) (bs : List UInt8), SizeOf.sizeOf x ≤ N → RepN R x cx → OkN x → own1 b q → headed v → bs.length ≤ 16777316 →
    Tri Try.prog 49 [.pointer (some ⟨b, 0, none⟩), .agg ⟨cx⟩] R [wB b q v bad, wS v bs] (fun r R' L' => Wrote b bs (wr x) bad R R' L') := by
  induction N using Nat.strongRecOn with
  | _ N ih =>
  intro x cx R b q v bad bs hN hx hok hq hh hbl
  obtain ⟨k, n, s, l, sq, cap, rfl, rfl, hs, hl⟩ := hx.inv
  have hlb : l.length ≤ big := hl.choose_spec.1
  obtain ⟨hn, hkids⟩ : n < 18446744073709551616 ∧ ∀ y ∈ l, OkN y := by cases hok with | mk h1 h2 => exact ⟨h1, h2⟩
  have hnl : (numB n).length ≤ 8 := numB_length 8 n (by omega)
  have hnb := numB_bits n
  have hb64 := bitLen_le 64 n (by omega)
  have hz1 := sizeB_len 5 (numB n).length (by omega)
  have hs0 := hs
  have hl0 := hlb
  unfold big at hs hlb
  have hz2 := sizeB_len 5 s.length (by simp; omega)
  have hz3 := sizeB_len 5 l.length (by simp; omega)
  refine tri_of Try.func49 rfl Try.ntmps49 rfl (fun σ F Q hret hend hpan => ?_)
  try simp only [List.cons_append, List.nil_append]
  refine cj_env (eL 0 rfl (eL 1 rfl eN)) ?_
  refine cj_seq (fun K1 hK1 => ?_)
  refine cj_region ?_
  refine rj_box (wn0 rfl) rfl rfl rfl (fun bx => ?_)
  refine rj_nil ?_
  refine hK1 _ _ _ ?_
  refine cj_seq (fun K2 hK2 => ?_)
  refine cj_seq (fun K3 hK3 => ?_)
  refine cj_region ?_
  refine rv0 rfl rfl rfl (y_move rfl) ?_
  refine rv0 rfl rfl rfl (y_move rfl) ?_
  refine rv0 rfl rfl rfl (y_nilCheck rfl) ?_
  refine rv0 rfl rfl rfl (y_fieldAddr (k := 2) Try.underlying98 rfl (n := 1) (by decide) Try.sizeOf4 rfl) ?_
  first | refine rv0 rfl rfl rfl (y_load ⟨Try.isAgg4, Try.sizeOf4⟩ rfl (by (repeat (first|exact zH _|apply zT));done) rfl) ?_ | refine rv0 rfl rfl rfl (y_load_slc ⟨Try.isAgg4, Try.sizeOf4⟩ rfl (by (repeat (first|exact zH _|apply zT));done) rfl) ?_
  refine rv0 rfl rfl rfl (y_move rfl) ?_
  refine rj_part 13 rfl (fun hg13 => ?_) (fun hg13 => ?_)
  ·subst hg13
   refine rj_skip (wn2 rfl rfl rfl rfl rfl) rfl rfl ?_
   refine rj_skip (wn2 rfl rfl rfl rfl rfl) rfl rfl ?_
   refine rj_skip (wn2 rfl rfl rfl rfl rfl) rfl rfl ?_
   refine rj_skip (wn2 rfl rfl rfl rfl rfl) rfl rfl ?_
   refine rj_skip (wn2 rfl rfl rfl rfl rfl) rfl rfl ?_
   refine rv0 rfl rfl rfl (y_pick_t rfl rfl) ?_
   refine rv0 rfl rfl rfl (y_nilCheck rfl) ?_
   refine rv0 rfl rfl rfl (y_fieldAddr (k := 2) Try.underlying98 rfl (n := 1) (by decide) Try.sizeOf4 rfl) ?_
   refine rj_store ⟨Try.isAgg4, Try.sizeOf4⟩ (wn0 rfl) rfl rfl (by (first | rfl | assumption | (apply cutV_one; assumption))) (by (repeat (first|exact zH _|apply zT));done) rfl rfl ?_
   refine rj_nil ?_
   refine hK3 _ _ _ ?_
   refine cj_env (eL 0 rfl (eL 3 rfl eN)) ?_
   refine cj_seq (fun K4 hK4 => ?_)
   refine cj_region ?_
   refine rv0 rfl rfl rfl (y_move rfl) ?_
   refine rv0 rfl rfl rfl (y_nilCheck rfl) ?_
   refine rv0 rfl rfl rfl (y_fieldAddr (k := 2) Try.underlying98 rfl (n := 1) (by decide) Try.sizeOf4 rfl) ?_
   first | refine rv0 rfl rfl rfl (y_load ⟨Try.isAgg4, Try.sizeOf4⟩ rfl (by (repeat (first|exact zH _|apply zT));done) rfl) ?_ | refine rv0 rfl rfl rfl (y_load_slc ⟨Try.isAgg4, Try.sizeOf4⟩ rfl (by (repeat (first|exact zH _|apply zT));done) rfl) ?_
   refine rj_nil ?_
   refine hK4 _ _ _ ?_
   refine cj_env (eL 0 rfl (eL 3 rfl (eL 25 rfl eN))) ?_
   refine cj_cond_t rfl ?_
   refine cj_ret ?_
   refine hret _ _ _ ?_
   apply ej_ret Try.results49 .nil _ [wB b q v true, wS v bs] (by (first | exact Hp.le_refl _ | assumption | exact Hp.le_trans ‹_› ‹_›)) rfl
   case hp => exact ⟨rfl, q, v, true, bs, hq, hh, rfl, fun _ => rfl, fun h => (by cases h), fun h => (by cases h), .inl (Nat.le_refl _)⟩
   case hS => (repeat (first|exact zR _|(apply zP;focus (repeat (first|exact zH _|apply zT)))|apply zD|exact zA _ _))
  ·subst hg13
   refine rj_val (wn1 rfl rfl rfl rfl) rfl rfl (y_move rfl) ?_
   refine rj_val (wn1 rfl rfl rfl rfl) rfl rfl (y_nilCheck rfl) ?_
   refine rj_val (wn1 rfl rfl rfl rfl) rfl rfl (y_fieldAddr (k := 0) Try.underlying98 rfl (n := 2) (by decide) Try.sizeOf96 rfl) ?_
   refine rj_val (wn1 rfl rfl rfl rfl) rfl rfl (y_call Try.call50 rfl (bLen_q b q v false bs) (by (repeat (first|exact zN _|(apply zS;focus (repeat (first|exact zH _|apply zT))))))) ?_
   refine rj_val (wn1 rfl rfl rfl rfl) rfl rfl (y_gtr rfl rfl) ?_
   refine rv0 rfl rfl rfl (y_pick_f rfl rfl) ?_
   refine rv0 rfl rfl rfl (y_nilCheck rfl) ?_
   refine rv0 rfl rfl rfl (y_fieldAddr (k := 2) Try.underlying98 rfl (n := 1) (by decide) Try.sizeOf4 rfl) ?_
   refine rj_store ⟨Try.isAgg4, Try.sizeOf4⟩ (wn0 rfl) rfl rfl (by (first | rfl | assumption | (apply cutV_one; assumption))) (by (repeat (first|exact zH _|apply zT));done) rfl rfl ?_
   refine rj_nil ?_
   refine hK3 _ _ _ ?_
   refine cj_env (eL 0 rfl (eL 3 rfl eN)) ?_
   refine cj_seq (fun K5 hK5 => ?_)
   refine cj_region ?_
   refine rv0 rfl rfl rfl (y_move rfl) ?_
   refine rv0 rfl rfl rfl (y_nilCheck rfl) ?_
   refine rv0 rfl rfl rfl (y_fieldAddr (k := 2) Try.underlying98 rfl (n := 1) (by decide) Try.sizeOf4 rfl) ?_
   first | refine rv0 rfl rfl rfl (y_load ⟨Try.isAgg4, Try.sizeOf4⟩ rfl (by (repeat (first|exact zH _|apply zT));done) rfl) ?_ | refine rv0 rfl rfl rfl (y_load_slc ⟨Try.isAgg4, Try.sizeOf4⟩ rfl (by (repeat (first|exact zH _|apply zT));done) rfl) ?_
   refine rj_nil ?_
   refine hK5 _ _ _ ?_
   refine cj_env (eL 0 rfl (eL 3 rfl (eL 25 rfl eN))) ?_
   refine cj_cond rfl (fun hc25 => ?_) (fun hc25 => ?_)
   ·rw [hc25]; (try simp only [dT, dF, nT, nF, tF, fT] at hc25)
    refine cj_ret ?_
    refine hret _ _ _ ?_
    apply ej_ret Try.results49 .nil _ [wB b q v true, wS v bs] (by (first | exact Hp.le_refl _ | assumption | exact Hp.le_trans ‹_› ‹_›)) rfl
    case hp => exact ⟨rfl, q, v, true, bs, hq, hh, rfl, fun _ => rfl, fun h => (by cases h), fun _ _ => by simp at hc25 ⊢; omega, .inl (Nat.le_refl _)⟩
    case hS => (repeat (first|exact zR _|(apply zP;focus (repeat (first|exact zH _|apply zT)))|apply zD|exact zA _ _))
   ·rw [hc25]; (try simp only [dT, dF, nT, nF, tF, fT] at hc25)
    refine cj_skip ?_
    refine hK2 _ _ _ ?_
    refine cj_seq (fun K7 hK7 => ?_)
    refine cj_region ?_
    refine rv0 rfl rfl rfl (y_fieldAddr (k := 0) Try.underlying62 rfl (n := 1) (by decide) Try.sizeOf3 rfl) ?_
    first | refine rv0 rfl rfl rfl (y_load ⟨Try.isAgg3, Try.sizeOf3⟩ rfl (by (repeat (first|exact zH _|apply zT));done) rfl) ?_ | refine rv0 rfl rfl rfl (y_load_slc ⟨Try.isAgg3, Try.sizeOf3⟩ rfl (by (repeat (first|exact zH _|apply zT));done) rfl) ?_
    refine rj_nil ?_
    refine hK7 _ _ _ ?_
    refine cj_block ?_
    refine cj_seq (fun K8 hK8 => ?_)
    refine cj_region ?_
    refine rv0 rfl rfl rfl (y_eql rfl rfl) ?_
    refine rv0 rfl rfl rfl (y_assign rfl) ?_
    refine rj_nil ?_
    refine hK8 _ _ _ ?_
    refine cj_env (eL 0 rfl (eL 3 rfl (eL 27 rfl (eL 48 rfl eN)))) ?_
    refine cj_cond rfl (fun hc48 => ?_) (fun hc48 => ?_)
    ·(try simp only [dT, dF, nT, nF, tF, fT] at hc48); subst hc48
     refine cj_seq (fun K10 hK10 => ?_)
     refine cj_region ?_
     refine rv0 rfl rfl rfl (y_fieldAddr (k := 1) Try.underlying62 rfl (n := 1) (by decide) Try.sizeOf25 rfl) ?_
     first | refine rv0 rfl rfl rfl (y_load ⟨Try.isAgg25, Try.sizeOf25⟩ rfl (by (repeat (first|exact zH _|apply zT));done) rfl) ?_ | refine rv0 rfl rfl rfl (y_load_slc ⟨Try.isAgg25, Try.sizeOf25⟩ rfl (by (repeat (first|exact zH _|apply zT));done) rfl) ?_
     refine rv0 rfl rfl rfl (y_call Try.call53 rfl (len64_q n hn) (by (repeat (first|exact zN _|(apply zS;focus (repeat (first|exact zH _|apply zT))))))) ?_
     first | refine rv0 rfl rfl rfl (y_add64 rfl rfl (by (first | omega | (dsimp only; omega) | (simp; done) | (simp; omega)))) ?_ | refine rv0 rfl rfl rfl (y_add rfl rfl) ?_
     refine rv0 rfl rfl rfl (y_quo rfl rfl (by (first | omega | (dsimp only; omega) | (simp; done) | (simp; omega)))) ?_
     refine rj_eq 54 rfl (v' := .int .i64 ((numB n).length : Int)) (by rw [hnb]; exact congrArg _ (quo8 _ hb64)) ?_
     refine rv0 rfl rfl rfl (y_assign rfl) ?_
     refine rj_nil ?_
     refine hK10 _ _ _ ?_
     refine cj_env (eL 0 rfl (eL 3 rfl (eL 4 rfl eN))) ?_
     refine cj_seq (fun K11 hK11 => ?_)
     refine cj_region ?_
     refine rv0 rfl rfl rfl (y_move rfl) ?_
     refine rv0 rfl rfl rfl (y_nilCheck rfl) ?_
     refine rv0 rfl rfl rfl (y_fieldAddr (k := 0) Try.underlying98 rfl (n := 2) (by decide) Try.sizeOf96 rfl) ?_
     refine rj_call (wn0 rfl) rfl Try.call54 rfl (writeByte_t b q v false bs 110 hq hh (by omega)) (by (repeat (first|exact zN _|(apply zS;focus (repeat (first|exact zH _|apply zT)))))) (fun _ _ _ _ h => h.elim) ?_
     rintro r R' L' hR ⟨rfl, v1, hh1, rfl⟩
     try simp only [List.cons_append, List.nil_append]
     refine rj_nil ?_
     refine hK11 _ _ _ ?_
     refine cj_env (eL 0 rfl (eL 3 rfl (eL 4 rfl eN))) ?_
     refine cj_seq (fun K12 hK12 => ?_)
     refine cj_region ?_
     refine rv0 rfl rfl rfl (y_move rfl) ?_
     refine rv0 rfl rfl rfl (y_move rfl) ?_
     refine rj_call (wn0 rfl) rfl Try.call55 rfl (wSize_t b (some ⟨b, 0, none⟩) v1 false (bs ++ [110]) (numB n).length (.inr rfl) hh1 (by simp; omega) (by unfold big; omega)) (by (repeat (first|exact zN _|(apply zS;focus (repeat (first|exact zH _|apply zT)))))) (fun _ _ _ _ h => h.elim) ?_
     rintro r R' L' hR ⟨rfl, v2, hh2, rfl⟩
     obtain ⟨base, hbase⟩ : ∃ base, base = bs ++ [110] ++ sizeB (numB n).length := ⟨_, rfl⟩
     have hbl2 : base.length ≤ 16777300 := by rw [hbase]; simp; omega
     rw [← hbase]
     try simp only [List.cons_append, List.nil_append]
     refine rj_nil ?_
     refine hK12 _ _ _ ?_
     refine cj_env (eL 0 rfl (eL 3 rfl (eL 4 rfl eN))) ?_
     refine cj_seq (fun K13 hK13 => ?_)
     refine cj_region ?_
     refine rv0 rfl rfl rfl (y_move rfl) ?_
     first | refine rv0 rfl rfl rfl (y_sub64 rfl rfl (by (first | omega | (dsimp only; omega) | (simp; done) | (simp; omega)))) ?_ | refine rv0 rfl rfl rfl (y_sub rfl rfl) ?_
     first | refine rv0 rfl rfl rfl (y_mul64 rfl rfl (by (first | omega | (dsimp only; omega) | (simp; done) | (simp; omega)))) ?_ | refine rv0 rfl rfl rfl (y_mul rfl rfl) ?_
     refine rv0 rfl rfl rfl (y_assign rfl) ?_
     refine rj_nil ?_
     refine hK13 _ _ _ ?_
     refine cj_env (eL 0 rfl (eL 3 rfl (eL 5 rfl eN))) ?_
     refine cj_block ?_
     rw [show base = base ++ (numB n).take 0 by simp]
     refine cj_env (E' := (fun (x : Nat × Value) => [(0, .pointer (some ⟨b, 0, none⟩)), (3, .pointer (some ⟨bx, 0, none⟩)), (5, .int .i64 (8 * (((numB n).length : Int) - 1 - x.1)))]) (0, v2)) (eC rfl (eC rfl (Env.le_cons (Eq.trans rfl (congrArg some (by first | rfl | (exact congrArg (Value.int .i64) (by first | omega | (dsimp only; omega)))))) eN))) ?_
     refine cj_sub (M := (fun (x : Nat × Value) => wB b (some ⟨b, 0, none⟩) x.2 false :: wS x.2 (base ++ (numB n).take x.1) :: blk bx [.int .i64 0, .int .u64 (n : Int), .string (str s), .slice sq l.length cap] 62 :: F) (0, v2)) (by (repeat (first|exact zR _|(apply zP;focus (repeat (first|exact zH _|apply zT)))|apply zD|exact zA _ _))) ?_
     refine cj_loop (fun (x : Nat × Value) => [(0, .pointer (some ⟨b, 0, none⟩)), (3, .pointer (some ⟨bx, 0, none⟩)), (5, .int .i64 (8 * (((numB n).length : Int) - 1 - x.1)))]) (fun (x : Nat × Value) => R) (fun (x : Nat × Value) => wB b (some ⟨b, 0, none⟩) x.2 false :: wS x.2 (base ++ (numB n).take x.1) :: blk bx [.int .i64 0, .int .u64 (n : Int), .string (str s), .slice sq l.length cap] 62 :: F) (fun (x : Nat × Value) => x.1 ≤ (numB n).length ∧ headed x.2) (fun (x : Nat × Value) => (numB n).length - x.1) (0, v2) (⟨by simp, hh2⟩) ?_
     rintro ⟨j, vj⟩ ⟨hj, hhj⟩
     try dsimp only
     dsimp only at hj hhj
     have htl : ((numB n).take j).length = j := by rw [List.length_take]; omega
     refine cj_seq (fun K14 hK14 => ?_)
     refine cj_seq (fun K15 hK15 => ?_)
     refine cj_region ?_
     refine rv0 rfl rfl rfl (y_move rfl) ?_
     refine rv0 rfl rfl rfl (y_geq rfl rfl) ?_
     refine rj_nil ?_
     refine hK15 _ _ _ ?_
     refine cj_cond rfl (fun hc66 => ?_) (fun hc66 => ?_)
     ·try simp only [dT, dF, nT, nF, tF, fT] at hc66
      refine cj_skip ?_
      refine hK14 _ _ _ ?_
      refine cj_seq (fun K17 hK17 => ?_)
      refine cj_block ?_
      refine cj_mix [0, 1, 2, 3, 4, 5, 6, 7] [] [8] (by kernel_rfl) (by kernel_rfl) (by kernel_rfl) rfl ?_
      refine fj_val rfl rfl rfl (wn0 rfl) (fun R1 hR1 G => (y_move rfl)) ?_
      refine fj_val rfl rfl rfl (wn0 rfl) (fun R1 hR1 G => (y_nilCheck rfl)) ?_
      refine fj_val rfl rfl rfl (wn0 rfl) (fun R1 hR1 G => (y_fieldAddr (k := 0) Try.underlying98 rfl (n := 2) (by decide) Try.sizeOf96 rfl)) ?_
      refine fj_val rfl rfl rfl (wn0 rfl) (fun R1 hR1 G => (y_fieldAddr (k := 1) Try.underlying62 rfl (n := 1) (by decide) Try.sizeOf25 rfl)) ?_
      first | refine fj_val rfl rfl rfl (wn0 rfl) (fun R1 hR1 G => (y_load ⟨Try.isAgg25, Try.sizeOf25⟩ rfl (by (repeat (first|exact zH _|apply zT));done) rfl)) ?_ | refine fj_val rfl rfl rfl (wn0 rfl) (fun R1 hR1 G => (y_load_slc ⟨Try.isAgg25, Try.sizeOf25⟩ rfl (by (repeat (first|exact zH _|apply zT));done) rfl)) ?_
      refine fj_val rfl rfl rfl (wn0 rfl) (fun R1 hR1 G => (y_move rfl)) ?_
      refine fj_val rfl rfl rfl (wn0 rfl) (fun R1 hR1 G => (y_shr rfl rfl (by omega)).to (congrArg _ (shr_nat n (8 * ((numB n).length - 1 - j)) _ (by omega) (by simp only [IntKind.bits]; omega)))) ?_
      refine fj_val rfl rfl rfl (wn0 rfl) (fun R1 hR1 G => (y_conv Try.underlying25 Try.underlying5 rfl).to (congrArg _ (wrap8 _))) ?_
      refine fj_nil ?_
      refine xj_nil ?_
      try simp only [List.cons_append, List.nil_append, List.append_nil]
      refine rj_call (wn0 rfl) rfl Try.call54 rfl (writeByte_t b _ vj false (base ++ (numB n).take j) _ (.inr rfl) hhj (by simp; omega)) (by (repeat (first|exact zN _|(apply zS;focus (repeat (first|exact zH _|apply zT)))))) (fun _ _ _ _ h => h.elim) ?_
      rintro r R' L' hR ⟨rfl, v3, hh3, rfl⟩
      rw [List.append_assoc, take_numB n j (by omega)]
      try simp only [List.cons_append, List.nil_append]
      refine rj_nil ?_
      refine hK17 _ _ _ ?_
      refine cj_env (eL 0 rfl (eL 3 rfl (eL 5 rfl eN))) ?_
      refine cj_region ?_
      refine rv0 rfl rfl rfl (y_move rfl) ?_
      first | refine rv0 rfl rfl rfl (y_sub64 rfl rfl (by (first | omega | (dsimp only; omega) | (simp; done) | (simp; omega)))) ?_ | refine rv0 rfl rfl rfl (y_sub rfl rfl) ?_
      refine rv0 rfl rfl rfl (y_assign rfl) ?_
      refine rj_nil ?_
      refine ej_on (q' := roundK _ _ _ _ _ _ _) rfl ?_
      refine ej_round ((j + 1, v3)) (⟨by dsimp only; omega, hh3⟩) (by dsimp only; omega) (eC rfl (eC rfl (Env.le_cons (Eq.trans rfl (congrArg some (by first | rfl | (exact congrArg (Value.int .i64) (by first | omega | (dsimp only; omega)))))) eN))) rfl (by (repeat (first|exact zR _|(apply zP;focus (repeat (first|exact zH _|apply zT)))|apply zD|exact zA _ _)))
     ·try simp only [dT, dF, nT, nF, tF, fT] at hc66
      refine cj_exit ?_
      refine hend _ _ _ ?_
      apply ej_end Try.results49 .nil _ [wB b (some ⟨b, 0, none⟩) vj false, wS vj (base ++ (numB n).take j)] (by (first | exact Hp.le_refl _ | assumption | exact Hp.le_trans ‹_› ‹_›)) rfl
      case hp =>
       refine ⟨rfl, some ⟨b, 0, none⟩, vj, false, base ++ (numB n).take j, .inr rfl, hhj, rfl, fun h => (by cases h), fun _ => ?_, fun _ h => (by cases h), .inr (by simp; omega)⟩
       rw [hbase, List.take_of_length_le (by omega), wr]; simp
      case hS => (repeat (first|exact zR _|(apply zP;focus (repeat (first|exact zH _|apply zT)))|apply zD|exact zA _ _))
    ·try simp only [dT, dF, nT, nF, tF, fT] at hc48
     refine cj_seq (fun K18 hK18 => ?_)
     refine cj_region ?_
     refine rv0 rfl rfl rfl (y_eql rfl rfl) ?_
     refine rv0 rfl rfl rfl (y_assign rfl) ?_
     refine rj_nil ?_
     refine hK18 _ _ _ ?_
     refine cj_env (eL 0 rfl (eL 3 rfl (eL 78 rfl eN))) ?_
     refine cj_cond rfl (fun hc78 => ?_) (fun hc78 => ?_)
     ·(try simp only [dT, dF, nT, nF, tF, fT] at hc78); subst hc78
      refine cj_seq (fun K20 hK20 => ?_)
      refine cj_region ?_
      refine rv0 rfl rfl rfl (y_move rfl) ?_
      refine rv0 rfl rfl rfl (y_nilCheck rfl) ?_
      refine rv0 rfl rfl rfl (y_fieldAddr (k := 0) Try.underlying98 rfl (n := 2) (by decide) Try.sizeOf96 rfl) ?_
      refine rj_call (wn0 rfl) rfl Try.call54 rfl (writeByte_t b q v false bs 115 hq hh (by omega)) (by (repeat (first|exact zN _|(apply zS;focus (repeat (first|exact zH _|apply zT)))))) (fun _ _ _ _ h => h.elim) ?_
      rintro r R' L' hR ⟨rfl, v1, hh1, rfl⟩
      try simp only [List.cons_append, List.nil_append]
      refine rj_nil ?_
      refine hK20 _ _ _ ?_
      refine cj_env (eL 0 rfl (eL 3 rfl eN)) ?_
      refine cj_seq (fun K21 hK21 => ?_)
      refine cj_region ?_
      refine rv0 rfl rfl rfl (y_move rfl) ?_
      refine rv0 rfl rfl rfl (y_fieldAddr (k := 2) Try.underlying62 rfl (n := 1) (by decide) Try.sizeOf9 rfl) ?_
      first | refine rv0 rfl rfl rfl (y_load ⟨Try.isAgg9, Try.sizeOf9⟩ rfl (by (repeat (first|exact zH _|apply zT));done) rfl) ?_ | refine rv0 rfl rfl rfl (y_load_slc ⟨Try.isAgg9, Try.sizeOf9⟩ rfl (by (repeat (first|exact zH _|apply zT));done) rfl) ?_
      refine rv0 rfl rfl rfl (y_slen Try.underlying9 rfl) ?_
      refine rj_call (wn0 rfl) rfl Try.call55 rfl (wSize_t b (some ⟨b, 0, none⟩) v1 false (bs ++ [115]) s.length (.inr rfl) hh1 (by simp; omega) hs0) (by (repeat (first|exact zN _|(apply zS;focus (repeat (first|exact zH _|apply zT)))))) (fun _ _ _ _ h => h.elim) ?_
      rintro r R' L' hR ⟨rfl, v2, hh2, rfl⟩
      obtain ⟨base, hbase⟩ : ∃ base, base = bs ++ [115] ++ sizeB s.length := ⟨_, rfl⟩
      have hbl2 : base.length ≤ 16777300 := by rw [hbase]; simp; omega
      have hwr : bs ++ wr (.mk 1 n s l) = base ++ s := by rw [hbase, wr]; simp
      rw [← hbase]
      try simp only [List.cons_append, List.nil_append]
      refine rj_nil ?_
      refine hK21 _ _ _ ?_
      refine cj_env (eL 0 rfl (eL 3 rfl eN)) ?_
      refine cj_seq (fun K22 hK22 => ?_)
      refine cj_seq (fun K23 hK23 => ?_)
      refine cj_draw (by kernel_rfl) (by kernel_rfl) ?_
      refine qj_val (wn0 rfl) rfl rfl (y_move rfl) ?_
      refine qj_val (wn0 rfl) rfl rfl (y_nilCheck rfl) ?_
      refine qj_val (wn0 rfl) rfl rfl (y_fieldAddr (k := 0) Try.underlying98 rfl (n := 2) (by decide) Try.sizeOf96 rfl) ?_
      refine qj_val (wn0 rfl) rfl rfl (y_call Try.call50 rfl (bLen_q b _ v2 false base) (by (repeat (first|exact zN _|(apply zS;focus (repeat (first|exact zH _|apply zT))))))) ?_
      refine qj_val (wn0 rfl) rfl rfl (y_fieldAddr (k := 2) Try.underlying62 rfl (n := 1) (by decide) Try.sizeOf9 rfl) ?_
      first | refine qj_val (wn0 rfl) rfl rfl (y_load ⟨Try.isAgg9, Try.sizeOf9⟩ rfl (by (repeat (first|exact zH _|apply zT));done) rfl) ?_ | refine qj_val (wn0 rfl) rfl rfl (y_load_slc ⟨Try.isAgg9, Try.sizeOf9⟩ rfl (by (repeat (first|exact zH _|apply zT));done) rfl) ?_
      refine qj_val (wn0 rfl) rfl rfl (y_slen Try.underlying9 rfl) ?_
      first | refine qj_val (wn0 rfl) rfl rfl (y_add64 rfl rfl (by (first | omega | (dsimp only; omega) | (simp; done) | (simp; omega)))) ?_ | refine qj_val (wn0 rfl) rfl rfl (y_add rfl rfl) ?_
      refine qj_val (wn0 rfl) rfl rfl (y_gtr rfl rfl) ?_
      refine qj_nil ?_
      refine hK23 _ _ _ ?_
      refine cj_env (eL 0 rfl (eL 3 rfl (eL 97 rfl eN))) ?_
      refine cj_cond rfl (fun hc97 => ?_) (fun hc97 => ?_)
      ·try simp only [dT, dF, nT, nF, tF, fT] at hc97
       refine cj_seq (fun K25 hK25 => ?_)
       refine cj_region ?_
       refine rv0 rfl rfl rfl (y_move rfl) ?_
       refine rv0 rfl rfl rfl (y_nilCheck rfl) ?_
       refine rv0 rfl rfl rfl (y_fieldAddr (k := 2) Try.underlying98 rfl (n := 1) (by decide) Try.sizeOf4 rfl) ?_
       refine rj_store ⟨Try.isAgg4, Try.sizeOf4⟩ (wn0 rfl) rfl rfl (by (first | rfl | assumption | (apply cutV_one; assumption))) (by (repeat (first|exact zH _|apply zT));done) rfl rfl ?_
       refine rj_nil ?_
       refine hK25 _ _ _ ?_
       refine cj_env eN ?_
       refine cj_ret ?_
       refine hret _ _ _ ?_
       apply ej_ret Try.results49 .nil _ [wB b (some ⟨b, 0, none⟩) v2 true, wS v2 base] (by (first | exact Hp.le_refl _ | assumption | exact Hp.le_trans ‹_› ‹_›)) rfl
       case hp => refine ⟨rfl, some ⟨b, 0, none⟩, v2, true, base, .inr rfl, hh2, rfl, fun h => (by cases h), fun h => (by cases h), fun _ _ => by rw [hwr, List.length_append]; (try simp at hc97); omega, .inr (by omega)⟩
       case hS => (repeat (first|exact zR _|(apply zP;focus (repeat (first|exact zH _|apply zT)))|apply zD|exact zA _ _))
      ·try simp only [dT, dF, nT, nF, tF, fT] at hc97
       refine cj_skip ?_
       refine hK22 _ _ _ ?_
       refine cj_mix [0, 1, 2, 3, 4] [] [5] (by kernel_rfl) (by kernel_rfl) (by kernel_rfl) rfl ?_
       refine fj_val rfl rfl rfl (wn0 rfl) (fun R1 hR1 G => (y_move rfl)) ?_
       refine fj_val rfl rfl rfl (wn0 rfl) (fun R1 hR1 G => (y_nilCheck rfl)) ?_
       refine fj_val rfl rfl rfl (wn0 rfl) (fun R1 hR1 G => (y_fieldAddr (k := 0) Try.underlying98 rfl (n := 2) (by decide) Try.sizeOf96 rfl)) ?_
       refine fj_val rfl rfl rfl (wn0 rfl) (fun R1 hR1 G => (y_fieldAddr (k := 2) Try.underlying62 rfl (n := 1) (by decide) Try.sizeOf9 rfl)) ?_
       first | refine fj_val rfl rfl rfl (wn0 rfl) (fun R1 hR1 G => (y_load ⟨Try.isAgg9, Try.sizeOf9⟩ rfl (by (repeat (first|exact zH _|apply zT));done) rfl)) ?_ | refine fj_val rfl rfl rfl (wn0 rfl) (fun R1 hR1 G => (y_load_slc ⟨Try.isAgg9, Try.sizeOf9⟩ rfl (by (repeat (first|exact zH _|apply zT));done) rfl)) ?_
       refine fj_nil ?_
       refine xj_nil ?_
       try simp only [List.cons_append, List.nil_append, List.append_nil]
       refine rj_call (wn0 rfl) rfl Try.call56 rfl (writeString_t b _ v2 false base s (.inr rfl) hh2 (by omega) (by (try simp at hc97); omega)) (by (repeat (first|exact zN _|(apply zS;focus (repeat (first|exact zH _|apply zT)))))) (fun _ _ _ _ h => h.elim) ?_
       rintro r R' L' hR ⟨rfl, v3, hh3, rfl⟩
       try simp only [List.cons_append, List.nil_append]
       refine rj_nil ?_
       refine hend _ _ _ ?_
       apply ej_end Try.results49 .nil _ [wB b (some ⟨b, 0, none⟩) v3 false, wS v3 (base ++ s)] (by (first | exact Hp.le_refl _ | assumption | exact Hp.le_trans ‹_› ‹_›)) rfl
       case hp => exact ⟨rfl, some ⟨b, 0, none⟩, v3, false, base ++ s, .inr rfl, hh3, rfl, fun h => (by cases h), fun _ => hwr.symm, fun _ h => (by cases h), .inr (by (try simp at hc97 ⊢); omega)⟩
       case hS => (repeat (first|exact zR _|(apply zP;focus (repeat (first|exact zH _|apply zT)))|apply zD|exact zA _ _))
     ·try simp only [dT, dF, nT, nF, tF, fT] at hc78
      refine cj_seq (fun K26 hK26 => ?_)
      refine cj_region ?_
      refine rv0 rfl rfl rfl (y_move rfl) ?_
      refine rv0 rfl rfl rfl (y_nilCheck rfl) ?_
      refine rv0 rfl rfl rfl (y_fieldAddr (k := 0) Try.underlying98 rfl (n := 2) (by decide) Try.sizeOf96 rfl) ?_
      refine rj_call (wn0 rfl) rfl Try.call54 rfl (writeByte_t b q v false bs 108 hq hh (by omega)) (by (repeat (first|exact zN _|(apply zS;focus (repeat (first|exact zH _|apply zT)))))) (fun _ _ _ _ h => h.elim) ?_
      rintro r R' L' hR ⟨rfl, v1, hh1, rfl⟩
      try simp only [List.cons_append, List.nil_append]
      refine rj_nil ?_
      refine hK26 _ _ _ ?_
      refine cj_env (eL 0 rfl (eL 3 rfl eN)) ?_
      refine cj_seq (fun K27 hK27 => ?_)
      refine cj_region ?_
      refine rv0 rfl rfl rfl (y_move rfl) ?_
      refine rv0 rfl rfl rfl (y_fieldAddr (k := 3) Try.underlying62 rfl (n := 1) (by decide) Try.sizeOf60 rfl) ?_
      first | refine rv0 rfl rfl rfl (y_load ⟨Try.isAgg60, Try.sizeOf60⟩ rfl (by (repeat (first|exact zH _|apply zT));done) rfl) ?_ | refine rv0 rfl rfl rfl (y_load_slc ⟨Try.isAgg60, Try.sizeOf60⟩ rfl (by (repeat (first|exact zH _|apply zT));done) rfl) ?_
      first | refine rv0 rfl rfl rfl (y_len_sl Try.underlying60 rfl) ?_ | refine rv0 rfl rfl rfl (y_len_slc Try.underlying60 rfl (by (repeat (first|exact zH _|apply zT));done)) ?_
      refine rj_call (wn0 rfl) rfl Try.call55 rfl (wSize_t b (some ⟨b, 0, none⟩) v1 false (bs ++ [108]) l.length (.inr rfl) hh1 (by simp; omega) hl0) (by (repeat (first|exact zN _|(apply zS;focus (repeat (first|exact zH _|apply zT)))))) (fun _ _ _ _ h => h.elim) ?_
      rintro r R' L' hR ⟨rfl, v2, hh2, rfl⟩
      obtain ⟨base, hbase⟩ : ∃ base, base = bs ++ [108] ++ sizeB l.length := ⟨_, rfl⟩
      have hbl2 : base.length ≤ 16777300 := by rw [hbase]; simp; omega
      have hwr : bs ++ wr (.mk k n s l) = base ++ wrs l := by rw [hbase, wr, if_neg (by simpa using hc48), if_neg (by simpa using hc78)]; simp
      rw [← hbase]
      try simp only [List.cons_append, List.nil_append]
      refine rj_nil ?_
      refine hK27 _ _ _ ?_
      refine cj_env (eL 0 rfl (eL 3 rfl eN)) ?_
      refine cj_seq (fun K28 hK28 => ?_)
      refine cj_region ?_
      refine rv0 rfl rfl rfl (y_fieldAddr (k := 3) Try.underlying62 rfl (n := 1) (by decide) Try.sizeOf60 rfl) ?_
      first | refine rv0 rfl rfl rfl (y_load ⟨Try.isAgg60, Try.sizeOf60⟩ rfl (by (repeat (first|exact zH _|apply zT));done) rfl) ?_ | refine rv0 rfl rfl rfl (y_load_slc ⟨Try.isAgg60, Try.sizeOf60⟩ rfl (by (repeat (first|exact zH _|apply zT));done) rfl) ?_
      first | refine rv0 rfl rfl rfl (y_len_sl Try.underlying60 rfl) ?_ | refine rv0 rfl rfl rfl (y_len_slc Try.underlying60 rfl (by (repeat (first|exact zH _|apply zT));done)) ?_
      refine rv0 rfl rfl rfl (y_move rfl) ?_
      refine rj_nil ?_
      refine hK28 _ _ _ ?_
      refine cj_block ?_
      refine cj_env (E' := (fun (x : Nat × Option Addr × Value × Bool × List UInt8) => [(0, .pointer (some ⟨b, 0, none⟩)), (38, .slice sq l.length cap), (39, .int .i64 (l.length : Int)), (40, .int .i64 (x.1 : Int))]) (0, some ⟨b, 0, none⟩, v2, false, base)) (eC rfl (eC rfl (eC rfl (eC rfl eN)))) ?_
      refine cj_sub (M := (fun (x : Nat × Option Addr × Value × Bool × List UInt8) => wB b x.2.1 x.2.2.1 x.2.2.2.1 :: wS x.2.2.1 x.2.2.2.2 :: F) (0, some ⟨b, 0, none⟩, v2, false, base)) (by (repeat (first|exact zR _|(apply zP;focus (repeat (first|exact zH _|apply zT)))|apply zD|exact zA _ _))) ?_
      refine cj_loop (fun (x : Nat × Option Addr × Value × Bool × List UInt8) => [(0, .pointer (some ⟨b, 0, none⟩)), (38, .slice sq l.length cap), (39, .int .i64 (l.length : Int)), (40, .int .i64 (x.1 : Int))]) (fun (x : Nat × Option Addr × Value × Bool × List UInt8) => R) (fun (x : Nat × Option Addr × Value × Bool × List UInt8) => wB b x.2.1 x.2.2.1 x.2.2.2.1 :: wS x.2.2.1 x.2.2.2.2 :: F) (fun (x : Nat × Option Addr × Value × Bool × List UInt8) => x.1 ≤ l.length ∧ own1 b x.2.1 ∧ headed x.2.2.1 ∧ (x.2.2.2.1 = false → x.2.2.2.2 = base ++ wrs (l.take x.1)) ∧ (x.2.2.2.1 = true → 16777216 < (base ++ wrs (l.take x.1)).length) ∧ x.2.2.2.2.length ≤ 16777316) (fun (x : Nat × Option Addr × Value × Bool × List UInt8) => l.length - x.1) (0, some ⟨b, 0, none⟩, v2, false, base) (⟨by simp, .inr rfl, hh2, fun _ => by simp [wrs], fun h => (by cases h), by dsimp only; omega⟩) ?_
      rintro ⟨i, qi, vi, badi, bsi⟩ ⟨hi, hqi, hhi, hki, hbi, hli⟩
      try dsimp only
      dsimp only at hi hqi hhi hki hbi hli
      refine cj_seq (fun K29 hK29 => ?_)
      refine cj_region ?_
      refine rv0 rfl rfl rfl (y_lss rfl rfl) ?_
      refine rj_nil ?_
      refine hK29 _ _ _ ?_
      refine cj_seq (fun K30 hK30 => ?_)
      refine cj_cond rfl (fun hc41 => ?_) (fun hc41 => ?_)
      ·try simp only [dT, dF, nT, nF, tF, fT] at hc41
       refine cj_skip ?_
       refine hK30 _ _ _ ?_
       refine cj_seq (fun K32 hK32 => ?_)
       refine cj_block ?_
       refine cj_seq (fun K33 hK33 => ?_)
       refine cj_region ?_
       obtain ⟨x1, hx1⟩ : ∃ x, l[i]? = some x := ⟨l[i]'(by omega), by simp⟩
       obtain ⟨bb, off, cs, rfl, hc4, hrep, hcell⟩ := hl.at hx1
       have hm1 := List.mem_of_getElem? hx1
       obtain ⟨k1, n1, s1, l1, q1, cap1, rfl, rfl, hs1, hl1⟩ := hrep.inv
       first | refine rv0 rfl rfl rfl (y_indexAddr Try.underlying60 Try.sizeOf62 rfl rfl (by (first | omega | (dsimp only; omega) | (simp; done) | (simp; omega)))) ?_ | refine rv0 rfl rfl rfl (y_index_slc Try.underlying60 Try.sizeOf62 rfl rfl (by (repeat (first|exact zH _|apply zT));done) (by (first | omega | (dsimp only; omega) | (simp; done) | (simp; omega)))) ?_
       refine rv0 rfl rfl rfl ((y_loads_ro ⟨Try.isAgg62, Try.sizeOf62⟩ hc4 rfl (fun j u hj => by simpa using hcell j u hj))) ?_
       refine rj_alloc (wn0 rfl) rfl Try.zeroValue62 rfl (fun b7 => ?_)
       refine rj_stores ⟨Try.isAgg62, Try.sizeOf62⟩ rfl (wn0 rfl) rfl rfl (by (first | (simp [Value.oneCell']; done) | (intro u hu; simp only [List.mem_cons, List.not_mem_nil, or_false] at hu; rcases hu with rfl | rfl | rfl | rfl <;> first | rfl | assumption))) (by (repeat (first|exact zH _|apply zT));done) (by (simp)) rfl ?_
       refine rj_nil ?_
       refine hK33 _ _ _ ?_
       refine cj_env (eL 0 rfl (eL 7 rfl (eL 38 rfl (eL 39 rfl (eL 40 rfl eN))))) ?_
       refine cj_region ?_
       refine rv0 rfl rfl rfl (y_move rfl) ?_
       first | refine rv0 rfl rfl rfl (y_loads_blk ⟨Try.isAgg62, Try.sizeOf62⟩ rfl (by (repeat (first|exact zH _|apply zT));done) rfl rfl) ?_ | refine rv0 rfl rfl rfl (y_loads_slc ⟨Try.isAgg62, Try.sizeOf62⟩ rfl (by (repeat (first|exact zH _|apply zT));done) rfl rfl (by (first | omega | (dsimp only; omega) | (simp; done) | (simp; omega)))) ?_
       refine rj_call (wn0 rfl) rfl Try.call49 rfl (ih (SizeOf.sizeOf (Nd.mk k1 n1 s1 l1)) (by have := List.sizeOf_lt_of_mem hm1; simp at hN this ⊢; omega) _ _ b qi vi badi bsi (Nat.le_refl _) hrep (hkids _ hm1) hqi hhi hli) (by (repeat (first|exact zN _|(apply zS;focus (repeat (first|exact zH _|apply zT)))))) (fun _ _ _ _ h => h.elim) ?_
       rintro r R' L' hR ⟨rfl, q', v', bad', bs', hq', hh', rfl, w1, w2, w3, w4⟩
       have w5 : bad' = false → badi = false := fun h => by cases hb : badi; rfl; have hw := w1 hb; rw [hw] at h; cases h
       have w6 : bad' = true → 16777216 < (base ++ wrs (l.take (i + 1))).length := fun h => by cases hb : badi; have := w3 hb h; rw [hki hb] at this; rw [wrs_take hx1, ← List.append_assoc]; exact this; have := hbi hb; rw [wrs_take hx1]; simp at this ⊢; omega
       try simp only [List.cons_append, List.nil_append]
       refine rj_nil ?_
       refine hK32 _ _ _ ?_
       refine cj_env (eL 0 rfl (eL 38 rfl (eL 39 rfl (eL 40 rfl eN)))) ?_
       refine cj_region ?_
       first | refine rv0 rfl rfl rfl (y_add64 rfl rfl (by (first | omega | (dsimp only; omega) | (simp; done) | (simp; omega)))) ?_ | refine rv0 rfl rfl rfl (y_add rfl rfl) ?_
       refine rv0 rfl rfl rfl (y_move rfl) ?_
       refine rj_nil ?_
       refine ej_on (q' := roundK _ _ _ _ _ _ _) rfl ?_
       refine ej_round ((i + 1, q', v', bad', bs')) (⟨by dsimp only; omega, hq', hh', fun hf => by dsimp only at hf ⊢; rw [w2 hf, hki (w5 hf), wrs_take hx1, List.append_assoc], fun ht => w6 ht, by dsimp only; omega⟩) (by dsimp only; omega) (eC rfl (eC rfl (eC rfl (eC rfl eN)))) rfl (by (repeat (first|exact zR _|(apply zP;focus (repeat (first|exact zH _|apply zT)))|apply zD|exact zA _ _)))
      ·try simp only [dT, dF, nT, nF, tF, fT] at hc41
       refine cj_exit ?_
       refine hend _ _ _ ?_
       apply ej_end Try.results49 .nil _ [wB b qi vi badi, wS vi bsi] (by (first | exact Hp.le_refl _ | assumption | exact Hp.le_trans ‹_› ‹_›)) rfl
       case hp =>
        refine ⟨rfl, qi, vi, badi, bsi, hqi, hhi, rfl, fun h => (by cases h), fun h => ?_, fun _ h => ?_, .inr hli⟩
        · rw [hwr, hki h, List.take_of_length_le (by omega)]
        · rw [hwr]; have := hbi h; rwa [List.take_of_length_le (by omega)] at this
       case hS => (repeat (first|exact zR _|(apply zP;focus (repeat (first|exact zH _|apply zT)))|apply zD|exact zA _ _))
/-- a node's bytes, if it is right and they are not too many -/
noncomputable def writeM (x : Nd) : List UInt8 × Bool := if rightB 20 x = true ∧ (wr x).length ≤ 16777216 then (wr x, true) else ([], false)
theorem write_t {R : Hp} (x : Nd) (cx : List Value) (hx : RepN R x cx) (hok : OkN x) : QTri Try.prog 46 [.agg ⟨cx⟩] R [] (.tuple #[.string (str (writeM x).1), .bool (writeM x).2]) := by
  obtain ⟨k, n, s, l, q, cap, rfl, rfl, hs, hl⟩ := hx.inv
  obtain ⟨x, hxe⟩ : ∃ x, x = Nd.mk k n s l := ⟨_, rfl⟩
  have h2 := wr_len x
  refine Tri.q ?_
  refine tri_of Try.func46 rfl Try.ntmps46 rfl (fun σ F Q hret hend hpan => ?_)
  try simp only [List.cons_append, List.nil_append]
  refine cj_env (eL 0 rfl eN) ?_
  refine cj_seq (fun K1 hK1 => ?_)
  refine cj_region ?_
  refine rj_box (wn0 rfl) rfl rfl rfl (fun b1 => ?_)
  refine rv0 rfl rfl rfl (y_assign rfl) ?_
  refine rv0 rfl rfl rfl (y_assign rfl) ?_
  refine rj_nil ?_
  refine hK1 _ _ _ ?_
  refine cj_env (eL 1 rfl eN) ?_
  refine cj_seq (fun K2 hK2 => ?_)
  refine cj_seq (fun K3 hK3 => ?_)
  refine cj_region ?_
  first | refine rv0 rfl rfl rfl (y_loads_blk ⟨Try.isAgg62, Try.sizeOf62⟩ rfl (by (repeat (first|exact zH _|apply zT));done) rfl rfl) ?_ | refine rv0 rfl rfl rfl (y_loads_slc ⟨Try.isAgg62, Try.sizeOf62⟩ rfl (by (repeat (first|exact zH _|apply zT));done) rfl rfl (by (first | omega | (dsimp only; omega) | (simp; done) | (simp; omega)))) ?_
  refine rv0 rfl rfl rfl (y_call Try.call48 rfl (isRight_q _ _ hx) (by (repeat (first|exact zN _|(apply zS;focus (repeat (first|exact zH _|apply zT))))))) ?_
  refine rv0 rfl rfl rfl (y_not rfl) ?_
  refine rj_nil ?_
  refine hK3 _ _ _ ?_
  refine cj_cond rfl (fun hc7 => ?_) (fun hc7 => ?_)
  ·(try simp only [dT, dF, nT, nF, tF, fT] at hc7); have hr : ¬ rightB 20 x = true := by rw [hxe]; simpa using hc7
   refine cj_seq (fun K5 hK5 => ?_)
   refine cj_region ?_
   refine rv0 rfl rfl rfl (y_assign rfl) ?_
   refine rv0 rfl rfl rfl (y_assign rfl) ?_
   refine rj_nil ?_
   refine hK5 _ _ _ ?_
   refine cj_env (eL 2 rfl (eL 3 rfl eN)) ?_
   refine cj_ret ?_
   refine hret _ _ _ ?_
   apply ej_ret Try.results46 (.cons (rv_tmp rfl) (.cons (rv_tmp rfl) .nil)) _ [] (by (first | exact Hp.le_refl _ | assumption | exact Hp.le_trans ‹_› ‹_›)) rfl
   case hp => rw [← hxe, show writeM x = ([], false) by unfold writeM; rw [if_neg (fun h => hr h.1)]]; exact ⟨rfl, rfl, rfl⟩
   case hS => (repeat (first|exact zR _|(apply zP;focus (repeat (first|exact zH _|apply zT)))|apply zD|exact zA _ _))
  ·(try simp only [dT, dF, nT, nF, tF, fT] at hc7); have hr : rightB 20 x = true := by rw [hxe]; simpa using hc7
   refine cj_skip ?_
   refine hK2 _ _ _ ?_
   refine cj_env (eL 1 rfl eN) ?_
   refine cj_seq (fun K6 hK6 => ?_)
   refine cj_region ?_
   refine rj_alloc (wn0 rfl) rfl Try.zeroValue98 rfl (fun bw => ?_)
   refine rj_add (A := wS (.slice none 0 0) []) (slc_nil _ _) ?_
   refine rj_nil ?_
   refine hK6 _ _ _ ?_
   refine cj_seq (fun K7 hK7 => ?_)
   refine cj_region ?_
   first | refine rv0 rfl rfl rfl (y_loads_blk ⟨Try.isAgg62, Try.sizeOf62⟩ rfl (by (repeat (first|exact zH _|apply zT));done) rfl rfl) ?_ | refine rv0 rfl rfl rfl (y_loads_slc ⟨Try.isAgg62, Try.sizeOf62⟩ rfl (by (repeat (first|exact zH _|apply zT));done) rfl rfl (by (first | omega | (dsimp only; omega) | (simp; done) | (simp; omega)))) ?_
   refine rj_call (wn0 rfl) rfl Try.call49 rfl (wNode_t _ _ _ bw none (.slice none 0 0) false [] (Nat.le_refl _) hx hok (.inl rfl) headed_nil (by simp)) (by (repeat (first|exact zN _|(apply zS;focus (repeat (first|exact zH _|apply zT)))))) (fun _ _ _ _ h => h.elim) ?_
   rintro r R' L' hR ⟨rfl, q', v', bad', bs', hq', hh', rfl, w1, w2, w3, w4⟩
   rw [← hxe] at w2 w3
   simp only [List.nil_append] at w2 w3
   try simp only [List.cons_append, List.nil_append]
   refine rj_nil ?_
   refine hK7 _ _ _ ?_
   refine cj_env (eL 4 rfl eN) ?_
   refine cj_seq (fun K8 hK8 => ?_)
   refine cj_seq (fun K9 hK9 => ?_)
   refine cj_region ?_
   refine rv0 rfl rfl rfl (y_fieldAddr (k := 2) Try.underlying98 rfl (n := 1) (by decide) Try.sizeOf4 rfl) ?_
   first | refine rv0 rfl rfl rfl (y_load ⟨Try.isAgg4, Try.sizeOf4⟩ rfl (by (repeat (first|exact zH _|apply zT));done) rfl) ?_ | refine rv0 rfl rfl rfl (y_load_slc ⟨Try.isAgg4, Try.sizeOf4⟩ rfl (by (repeat (first|exact zH _|apply zT));done) rfl) ?_
   refine rv0 rfl rfl rfl (y_move rfl) ?_
   refine rj_part 12 rfl (fun hg12 => ?_) (fun hg12 => ?_)
   ·(try simp only [dT, dF, nT, nF, tF, fT] at hg12); have hr2 : ¬ (wr x).length ≤ 16777216 := by have := w3 trivial (by simpa using hg12); omega
    refine rj_skip (wn2 rfl rfl rfl rfl rfl) rfl rfl ?_
    refine rj_skip (wn2 rfl rfl rfl rfl rfl) rfl rfl ?_
    refine rj_skip (wn2 rfl rfl rfl rfl rfl) rfl rfl ?_
    refine rv0 rfl rfl rfl (y_pick_t rfl rfl) ?_
    refine rj_nil ?_
    refine hK9 _ _ _ ?_
    refine cj_env (eL 4 rfl (eL 16 rfl eN)) ?_
    refine cj_cond_t rfl ?_
    refine cj_seq (fun K10 hK10 => ?_)
    refine cj_region ?_
    refine rv0 rfl rfl rfl (y_assign rfl) ?_
    refine rv0 rfl rfl rfl (y_assign rfl) ?_
    refine rj_nil ?_
    refine hK10 _ _ _ ?_
    refine cj_ret ?_
    refine hret _ _ _ ?_
    apply ej_ret Try.results46 (.cons (rv_tmp rfl) (.cons (rv_tmp rfl) .nil)) _ [] (by (first | exact Hp.le_refl _ | assumption | exact Hp.le_trans ‹_› ‹_›)) rfl
    case hp => rw [← hxe, show writeM x = ([], false) by unfold writeM; rw [if_neg (fun h => hr2 h.2)]]; exact ⟨rfl, rfl, rfl⟩
    case hS => (repeat (first|exact zR _|(apply zP;focus (repeat (first|exact zH _|apply zT)))|apply zD|exact zA _ _))
   ·(try simp only [dT, dF, nT, nF, tF, fT] at hg12); have e1 : bs' = wr x := w2 (by simpa using hg12)
    subst e1
    refine rj_val (wn1 rfl rfl rfl rfl) rfl rfl (y_fieldAddr (k := 0) Try.underlying98 rfl (n := 2) (by decide) Try.sizeOf96 rfl) ?_
    refine rj_val (wn1 rfl rfl rfl rfl) rfl rfl (y_call Try.call50 rfl (bLen_q bw q' v' bad' (wr x)) (by (repeat (first|exact zN _|(apply zS;focus (repeat (first|exact zH _|apply zT))))))) ?_
    refine rj_val (wn1 rfl rfl rfl rfl) rfl rfl (y_gtr rfl rfl) ?_
    refine rv0 rfl rfl rfl (y_pick_f rfl rfl) ?_
    refine rj_nil ?_
    refine hK9 _ _ _ ?_
    refine cj_env (eL 4 rfl (eL 16 rfl eN)) ?_
    refine cj_cond rfl (fun hc16 => ?_) (fun hc16 => ?_)
    ·try simp only [dT, dF, nT, nF, tF, fT] at hc16
     refine cj_seq (fun K12 hK12 => ?_)
     refine cj_region ?_
     refine rv0 rfl rfl rfl (y_assign rfl) ?_
     refine rv0 rfl rfl rfl (y_assign rfl) ?_
     refine rj_nil ?_
     refine hK12 _ _ _ ?_
     refine cj_ret ?_
     refine hret _ _ _ ?_
     apply ej_ret Try.results46 (.cons (rv_tmp rfl) (.cons (rv_tmp rfl) .nil)) _ [] (by (first | exact Hp.le_refl _ | assumption | exact Hp.le_trans ‹_› ‹_›)) rfl
     case hp => rw [← hxe, show writeM x = ([], false) by unfold writeM; rw [if_neg (fun h => by have := h.2; (try simp at hc16); omega)]]; exact ⟨rfl, rfl, rfl⟩
     case hS => (repeat (first|exact zR _|(apply zP;focus (repeat (first|exact zH _|apply zT)))|apply zD|exact zA _ _))
    ·try simp only [dT, dF, nT, nF, tF, fT] at hc16
     refine cj_skip ?_
     refine hK8 _ _ _ ?_
     refine cj_seq (fun K13 hK13 => ?_)
     refine cj_region ?_
     refine rv0 rfl rfl rfl (y_fieldAddr (k := 0) Try.underlying98 rfl (n := 2) (by decide) Try.sizeOf96 rfl) ?_
     refine rj_call (wn0 rfl) rfl Try.call51 rfl (bString_t bw q' v' bad' (wr x) hh' (by omega) (by (try simp at hc16); omega)) (by (repeat (first|exact zN _|(apply zS;focus (repeat (first|exact zH _|apply zT)))))) (fun _ _ _ _ h => h.elim) ?_
     rintro r R' L' hR ⟨rfl, rfl, rfl⟩
     try simp only [List.cons_append, List.nil_append]
     refine rv0 rfl rfl rfl (y_assign rfl) ?_
     refine rv0 rfl rfl rfl (y_assign rfl) ?_
     refine rj_nil ?_
     refine hK13 _ _ _ ?_
     refine cj_env (eL 2 rfl (eL 3 rfl eN)) ?_
     refine cj_ret ?_
     refine hret _ _ _ ?_
     apply ej_ret Try.results46 (.cons (rv_tmp rfl) (.cons (rv_tmp rfl) .nil)) _ [] (by (first | exact Hp.le_refl _ | assumption | exact Hp.le_trans ‹_› ‹_›)) rfl
     case hp => rw [← hxe, show writeM x = (wr x, true) by unfold writeM; rw [if_pos ⟨hr, by (try simp at hc16); omega⟩]]; exact ⟨rfl, rfl, rfl⟩
     case hS => (repeat (first|exact zR _|(apply zP;focus (repeat (first|exact zH _|apply zT)))|apply zD|exact zA _ _))
end V
end Go.Proofs.Ytcgjlhhfldkdaaa
