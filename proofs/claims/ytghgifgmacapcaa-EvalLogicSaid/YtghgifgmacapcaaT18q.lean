/- The document's times and sign, walked. -/
import Derived.Test.YtghgifgmacapcaaT18o
set_option linter.unusedSimpArgs false
set_option linter.unusedVariables false
set_option maxRecDepth 100000
namespace Go.Proofs.Ytghgifgmacapcaa
open Go.RowKit
namespace V
set_option maxHeartbeats 4000000
theorem wrap_mod (n : Int) : ∃ k : Int, IntKind.i64.wrap n = n + k * 18446744073709551616 ∧ inI (IntKind.i64.wrap n) := by
  unfold inI
  simp only [IntKind.wrap, IntKind.signed, IntKind.bits]
  simp
  refine ⟨⟨-((n + 9223372036854775808) / 18446744073709551616), ?_⟩, ?_⟩ <;> (split <;> omega)
theorem times_yes {a b : Int} (ha : inI a) (hb : inI b) (hb0 : b ≠ 0) (h1 : IntKind.i64.wrap ((IntKind.i64.wrap (a * b)).tdiv b) = a) (h2 : ¬ (a = -1 ∧ b = -9223372036854775808)) (h3 : ¬ (b = -1 ∧ a = -9223372036854775808)) : inI (a * b) := by
  obtain ⟨k, hk, hp⟩ := wrap_mod (a * b)
  generalize IntKind.i64.wrap (a * b) = p at *
  by_cases hs : p = -9223372036854775808 ∧ b = -1
  · obtain ⟨rfl, rfl⟩ := hs
    exfalso
    have : IntKind.i64.wrap ((-9223372036854775808 : Int).tdiv (-1)) = -9223372036854775808 := by decide
    rw [this] at h1
    exact h3 ⟨rfl, h1.symm⟩
  · have hq : inI (p.tdiv b) := (quo_in hp hb0).2 hs
    rw [wrap_i64_in hq] at h1
    have hm := Int.tmod_add_mul_tdiv p b
    rw [h1] at hm
    have hr : (p.tmod b).natAbs = p.natAbs % b.natAbs := Int.natAbs_tmod p b
    have hr2 := Nat.mod_lt p.natAbs (show 0 < b.natAbs by omega)
    have hc : b * a = a * b := Int.mul_comm b a
    rw [hc] at hm
    generalize a * b = m at *
    unfold inI at *
    omega
theorem times_in {a b : Int} (ha : inI a) (hb : inI b) (ha0 : a ≠ 0) (hb0 : b ≠ 0) (h : inI (a * b)) : IntKind.i64.wrap ((IntKind.i64.wrap (a * b)).tdiv b) = a ∧ ¬ (a = -1 ∧ b = -9223372036854775808) ∧ ¬ (b = -1 ∧ a = -9223372036854775808) := by
  refine ⟨?_, ?_, ?_⟩
  · rw [wrap_i64_in h, Int.mul_tdiv_cancel _ hb0, wrap_i64_in ha]
  · rintro ⟨rfl, rfl⟩; revert h; decide
  · rintro ⟨rfl, rfl⟩; revert h; decide
theorem addP_ok {n m : Int} (h : inI n) (e : m = n) : addP n = tupOf [.int .i64 m, .bool true] := by unfold addP; rw [if_pos h, e]
theorem addP_no {n : Int} (h : ¬ inI n) : addP n = tupOf [.int .i64 0, .bool false] := by unfold addP; rw [if_neg h]
theorem rtimes_q {R : Hp} (a b : Int) (ha : inI a) (hb : inI b) : QTri Try.prog 83 [.int .i64 a, .int .i64 b] R [] (addP (a * b)) := by
  refine Tri.q2 ?_
  refine tri_of Try.func83 rfl Try.ntmps83 rfl (fun σ F Q hret hend hpan => ?_)
  try simp only [List.cons_append, List.nil_append]
  refine cj_env (eL 0 rfl (eL 1 rfl eN)) ?_
  refine cj_seq (fun K1 hK1 => ?_)
  refine cj_region ?_
  refine rv0 rfl rfl rfl (y_assign rfl) ?_
  refine rv0 rfl rfl rfl (y_assign rfl) ?_
  refine rj_nil ?_
  refine hK1 _ _ _ ?_
  refine cj_seq (fun K2 hK2 => ?_)
  refine cj_seq (fun K3 hK3 => ?_)
  refine cj_region ?_
  refine rv0 rfl rfl rfl (y_move rfl) ?_
  refine rv0 rfl rfl rfl (y_eql rfl rfl) ?_
  refine rv0 rfl rfl rfl (y_move rfl) ?_
  refine rj_part 9 rfl (fun hg9 => ?_) (fun hg9 => ?_)
  ·obtain rfl : a = 0 := by simpa using hg9
   refine rj_skip (wn2 rfl rfl rfl rfl rfl) rfl rfl ?_
   refine rj_skip (wn2 rfl rfl rfl rfl rfl) rfl rfl ?_
   refine rv0 rfl rfl rfl (y_pick_t rfl rfl) ?_
   refine rj_nil ?_
   refine hK3 _ _ _ ?_
   refine cj_env (eL 0 rfl (eL 1 rfl (eL 12 rfl eN))) ?_
   refine cj_cond_t rfl ?_
   refine cj_seq (fun K4 hK4 => ?_)
   refine cj_region ?_
   refine rv0 rfl rfl rfl (y_assign rfl) ?_
   refine rv0 rfl rfl rfl (y_assign rfl) ?_
   refine rj_nil ?_
   refine hK4 _ _ _ ?_
   refine cj_env (eL 4 rfl (eL 5 rfl eN)) ?_
   refine cj_ret ?_
   refine hret _ _ _ ?_
   apply ej_ret Try.results83 (.cons (rv_tmp rfl) (.cons (rv_tmp rfl) .nil)) _ [] (by (first | exact Hp.le_refl _ | assumption | exact Hp.le_trans ‹_› ‹_›)) rfl
   case hp => refine ⟨?_, rfl⟩; rw [Int.zero_mul]; rfl
   case hS => (repeat (first|exact zR _|(apply zP;focus (repeat (first|exact zH _|apply zT)))|apply zD|exact zA _ _))
  ·have ha0 : a ≠ 0 := by simpa using hg9
   refine rj_val (wn1 rfl rfl rfl rfl) rfl rfl (y_move rfl) ?_
   refine rj_val (wn1 rfl rfl rfl rfl) rfl rfl (y_eql rfl rfl) ?_
   refine rv0 rfl rfl rfl (y_pick_f rfl rfl) ?_
   refine rj_nil ?_
   refine hK3 _ _ _ ?_
   refine cj_env (eL 0 rfl (eL 1 rfl (eL 12 rfl eN))) ?_
   refine cj_cond rfl (fun hc12 => ?_) (fun hc12 => ?_)
   ·obtain rfl : b = 0 := by simpa using hc12
    refine cj_seq (fun K6 hK6 => ?_)
    refine cj_region ?_
    refine rv0 rfl rfl rfl (y_assign rfl) ?_
    refine rv0 rfl rfl rfl (y_assign rfl) ?_
    refine rj_nil ?_
    refine hK6 _ _ _ ?_
    refine cj_env (eL 4 rfl (eL 5 rfl eN)) ?_
    refine cj_ret ?_
    refine hret _ _ _ ?_
    apply ej_ret Try.results83 (.cons (rv_tmp rfl) (.cons (rv_tmp rfl) .nil)) _ [] (by (first | exact Hp.le_refl _ | assumption | exact Hp.le_trans ‹_› ‹_›)) rfl
    case hp => refine ⟨?_, rfl⟩; rw [Int.mul_zero]; rfl
    case hS => (repeat (first|exact zR _|(apply zP;focus (repeat (first|exact zH _|apply zT)))|apply zD|exact zA _ _))
   ·have hb0 : b ≠ 0 := by simpa using hc12
    have hin : inI (a * b) ↔ _ := ⟨times_in ha hb ha0 hb0, fun h => times_yes ha hb hb0 h.1 h.2.1 h.2.2⟩
    refine cj_skip ?_
    refine hK2 _ _ _ ?_
    refine cj_seq (fun K7 hK7 => ?_)
    refine cj_region ?_
    refine rv0 rfl rfl rfl (y_move rfl) ?_
    refine rv0 rfl rfl rfl (y_move rfl) ?_
    refine rv0 rfl rfl rfl ((y_mul rfl rfl)) ?_
    refine rv0 rfl rfl rfl (y_assign rfl) ?_
    refine rj_nil ?_
    refine hK7 _ _ _ ?_
    refine cj_env (eL 0 rfl (eL 1 rfl (eL 6 rfl eN))) ?_
    refine cj_seq (fun K8 hK8 => ?_)
    refine cj_seq (fun K9 hK9 => ?_)
    refine cj_region ?_
    refine rv0 rfl rfl rfl (y_move rfl) ?_
    refine rv0 rfl rfl rfl (y_move rfl) ?_
    refine rv0 rfl rfl rfl ((y_quo rfl rfl hb0)) ?_
    refine rv0 rfl rfl rfl (y_move rfl) ?_
    refine rv0 rfl rfl rfl (y_neq rfl rfl) ?_
    refine rv0 rfl rfl rfl (y_move rfl) ?_
    refine rj_part 21 rfl (fun hg21 => ?_) (fun hg21 => ?_)
    ·try simp only [dT, dF, nT, nF, tF, fT] at hg21
     refine rj_skip (wn2 rfl rfl rfl rfl rfl) rfl rfl ?_
     refine rj_skip (wn2 rfl rfl rfl rfl rfl) rfl rfl ?_
     refine rj_skip (wn2 rfl rfl rfl rfl rfl) rfl rfl ?_
     refine rj_skip (wn3 rfl rfl rfl rfl) rfl rfl ?_
     refine rj_skip (wn3 rfl rfl rfl rfl) rfl rfl ?_
     refine rj_skip (wn2 rfl rfl rfl rfl rfl) rfl rfl ?_
     refine rv0 rfl rfl rfl (y_pick_t rfl rfl) ?_
     refine rv0 rfl rfl rfl (y_move rfl) ?_
     refine rj_skip (wn2 rfl rfl rfl rfl rfl) rfl rfl ?_
     refine rj_skip (wn2 rfl rfl rfl rfl rfl) rfl rfl ?_
     refine rj_skip (wn2 rfl rfl rfl rfl rfl) rfl rfl ?_
     refine rj_skip (wn3 rfl rfl rfl rfl) rfl rfl ?_
     refine rj_skip (wn3 rfl rfl rfl rfl) rfl rfl ?_
     refine rj_skip (wn2 rfl rfl rfl rfl rfl) rfl rfl ?_
     refine rv0 rfl rfl rfl (y_pick_t rfl rfl) ?_
     refine rj_nil ?_
     refine hK9 _ _ _ ?_
     refine cj_env (eL 6 rfl (eL 36 rfl eN)) ?_
     refine cj_cond_t rfl ?_
     refine cj_seq (fun K10 hK10 => ?_)
     refine cj_region ?_
     refine rv0 rfl rfl rfl (y_assign rfl) ?_
     refine rv0 rfl rfl rfl (y_assign rfl) ?_
     refine rj_nil ?_
     refine hK10 _ _ _ ?_
     refine cj_ret ?_
     refine hret _ _ _ ?_
     apply ej_ret Try.results83 (.cons (rv_tmp rfl) (.cons (rv_tmp rfl) .nil)) _ [] (by (first | exact Hp.le_refl _ | assumption | exact Hp.le_trans ‹_› ‹_›)) rfl
     case hp => refine ⟨?_, rfl⟩; first | (rw [addP_no (fun h => by have := hin.1 h; simp_all)]; done) | (have h := hin.2 (by simp_all); rw [addP_ok h (wrap_i64_in h)])
     case hS => (repeat (first|exact zR _|(apply zP;focus (repeat (first|exact zH _|apply zT)))|apply zD|exact zA _ _))
    ·try simp only [dT, dF, nT, nF, tF, fT] at hg21
     refine rj_val (wn1 rfl rfl rfl rfl) rfl rfl (y_move rfl) ?_
     refine rj_val (wn1 rfl rfl rfl rfl) rfl rfl (y_eql rfl rfl) ?_
     refine rj_val (wn1 rfl rfl rfl rfl) rfl rfl (y_move rfl) ?_
     refine rj_part 24 rfl (fun hg24 => ?_) (fun hg24 => ?_)
     ·try simp only [dT, dF, nT, nF, tF, fT] at hg24
      refine rj_val (wn1 rfl rfl rfl rfl) rfl rfl (y_move rfl) ?_
      refine rj_val (wn1 rfl rfl rfl rfl) rfl rfl (y_eql rfl rfl) ?_
      refine rj_val (wn1 rfl rfl rfl rfl) rfl rfl (y_pick_t rfl rfl) ?_
      refine rv0 rfl rfl rfl (y_pick_f rfl rfl) ?_
      refine rv0 rfl rfl rfl (y_move rfl) ?_
      refine rj_part 29 rfl (fun hg29 => ?_) (fun hg29 => ?_)
      ·try simp only [dT, dF, nT, nF, tF, fT] at hg29
       refine rj_skip (wn2 rfl rfl rfl rfl rfl) rfl rfl ?_
       refine rj_skip (wn2 rfl rfl rfl rfl rfl) rfl rfl ?_
       refine rj_skip (wn2 rfl rfl rfl rfl rfl) rfl rfl ?_
       refine rj_skip (wn3 rfl rfl rfl rfl) rfl rfl ?_
       refine rj_skip (wn3 rfl rfl rfl rfl) rfl rfl ?_
       refine rj_skip (wn2 rfl rfl rfl rfl rfl) rfl rfl ?_
       refine rv0 rfl rfl rfl (y_pick_t rfl rfl) ?_
       refine rj_nil ?_
       refine hK9 _ _ _ ?_
       refine cj_env (eL 6 rfl (eL 36 rfl eN)) ?_
       refine cj_cond_t rfl ?_
       refine cj_seq (fun K11 hK11 => ?_)
       refine cj_region ?_
       refine rv0 rfl rfl rfl (y_assign rfl) ?_
       refine rv0 rfl rfl rfl (y_assign rfl) ?_
       refine rj_nil ?_
       refine hK11 _ _ _ ?_
       refine cj_ret ?_
       refine hret _ _ _ ?_
       apply ej_ret Try.results83 (.cons (rv_tmp rfl) (.cons (rv_tmp rfl) .nil)) _ [] (by (first | exact Hp.le_refl _ | assumption | exact Hp.le_trans ‹_› ‹_›)) rfl
       case hp => refine ⟨?_, rfl⟩; first | (rw [addP_no (fun h => by have := hin.1 h; simp_all)]; done) | (have h := hin.2 (by simp_all); rw [addP_ok h (wrap_i64_in h)])
       case hS => (repeat (first|exact zR _|(apply zP;focus (repeat (first|exact zH _|apply zT)))|apply zD|exact zA _ _))
      ·try simp only [dT, dF, nT, nF, tF, fT] at hg29
       refine rj_val (wn1 rfl rfl rfl rfl) rfl rfl (y_move rfl) ?_
       refine rj_val (wn1 rfl rfl rfl rfl) rfl rfl (y_eql rfl rfl) ?_
       refine rj_val (wn1 rfl rfl rfl rfl) rfl rfl (y_move rfl) ?_
       refine rj_part 32 rfl (fun hg32 => ?_) (fun hg32 => ?_)
       ·try simp only [dT, dF, nT, nF, tF, fT] at hg32
        refine rj_val (wn1 rfl rfl rfl rfl) rfl rfl (y_move rfl) ?_
        refine rj_val (wn1 rfl rfl rfl rfl) rfl rfl (y_eql rfl rfl) ?_
        refine rj_val (wn1 rfl rfl rfl rfl) rfl rfl (y_pick_t rfl rfl) ?_
        refine rv0 rfl rfl rfl (y_pick_f rfl rfl) ?_
        refine rj_nil ?_
        refine hK9 _ _ _ ?_
        refine cj_env (eL 6 rfl (eL 36 rfl eN)) ?_
        refine cj_cond rfl (fun hc36 => ?_) (fun hc36 => ?_)
        ·try simp only [dT, dF, nT, nF, tF, fT] at hc36
         refine cj_seq (fun K13 hK13 => ?_)
         refine cj_region ?_
         refine rv0 rfl rfl rfl (y_assign rfl) ?_
         refine rv0 rfl rfl rfl (y_assign rfl) ?_
         refine rj_nil ?_
         refine hK13 _ _ _ ?_
         refine cj_ret ?_
         refine hret _ _ _ ?_
         apply ej_ret Try.results83 (.cons (rv_tmp rfl) (.cons (rv_tmp rfl) .nil)) _ [] (by (first | exact Hp.le_refl _ | assumption | exact Hp.le_trans ‹_› ‹_›)) rfl
         case hp => refine ⟨?_, rfl⟩; first | (rw [addP_no (fun h => by have := hin.1 h; simp_all)]; done) | (have h := hin.2 (by simp_all); rw [addP_ok h (wrap_i64_in h)])
         case hS => (repeat (first|exact zR _|(apply zP;focus (repeat (first|exact zH _|apply zT)))|apply zD|exact zA _ _))
        ·try simp only [dT, dF, nT, nF, tF, fT] at hc36
         refine cj_skip ?_
         refine hK8 _ _ _ ?_
         refine cj_seq (fun K14 hK14 => ?_)
         refine cj_region ?_
         refine rv0 rfl rfl rfl (y_move rfl) ?_
         refine rv0 rfl rfl rfl (y_assign rfl) ?_
         refine rv0 rfl rfl rfl (y_assign rfl) ?_
         refine rj_nil ?_
         refine hK14 _ _ _ ?_
         refine cj_env (eL 4 rfl (eL 5 rfl eN)) ?_
         refine cj_ret ?_
         refine hret _ _ _ ?_
         apply ej_ret Try.results83 (.cons (rv_tmp rfl) (.cons (rv_tmp rfl) .nil)) _ [] (by (first | exact Hp.le_refl _ | assumption | exact Hp.le_trans ‹_› ‹_›)) rfl
         case hp => refine ⟨?_, rfl⟩; first | (rw [addP_no (fun h => by have := hin.1 h; simp_all)]; done) | (have h := hin.2 (by simp_all); rw [addP_ok h (wrap_i64_in h)])
         case hS => (repeat (first|exact zR _|(apply zP;focus (repeat (first|exact zH _|apply zT)))|apply zD|exact zA _ _))
       ·try simp only [dT, dF, nT, nF, tF, fT] at hg32
        refine rj_skip (wn2 rfl rfl rfl rfl rfl) rfl rfl ?_
        refine rj_skip (wn2 rfl rfl rfl rfl rfl) rfl rfl ?_
        refine rj_val (wn1 rfl rfl rfl rfl) rfl rfl (y_pick_f rfl rfl) ?_
        refine rv0 rfl rfl rfl (y_pick_f rfl rfl) ?_
        refine rj_nil ?_
        refine hK9 _ _ _ ?_
        refine cj_env (eL 6 rfl (eL 36 rfl eN)) ?_
        refine cj_cond_f rfl ?_
        refine cj_skip ?_
        refine hK8 _ _ _ ?_
        refine cj_seq (fun K15 hK15 => ?_)
        refine cj_region ?_
        refine rv0 rfl rfl rfl (y_move rfl) ?_
        refine rv0 rfl rfl rfl (y_assign rfl) ?_
        refine rv0 rfl rfl rfl (y_assign rfl) ?_
        refine rj_nil ?_
        refine hK15 _ _ _ ?_
        refine cj_env (eL 4 rfl (eL 5 rfl eN)) ?_
        refine cj_ret ?_
        refine hret _ _ _ ?_
        apply ej_ret Try.results83 (.cons (rv_tmp rfl) (.cons (rv_tmp rfl) .nil)) _ [] (by (first | exact Hp.le_refl _ | assumption | exact Hp.le_trans ‹_› ‹_›)) rfl
        case hp => refine ⟨?_, rfl⟩; first | (rw [addP_no (fun h => by have := hin.1 h; simp_all)]; done) | (have h := hin.2 (by simp_all); rw [addP_ok h (wrap_i64_in h)])
        case hS => (repeat (first|exact zR _|(apply zP;focus (repeat (first|exact zH _|apply zT)))|apply zD|exact zA _ _))
     ·try simp only [dT, dF, nT, nF, tF, fT] at hg24
      refine rj_skip (wn2 rfl rfl rfl rfl rfl) rfl rfl ?_
      refine rj_skip (wn2 rfl rfl rfl rfl rfl) rfl rfl ?_
      refine rj_val (wn1 rfl rfl rfl rfl) rfl rfl (y_pick_f rfl rfl) ?_
      refine rv0 rfl rfl rfl (y_pick_f rfl rfl) ?_
      refine rv0 rfl rfl rfl (y_move rfl) ?_
      refine rj_val (wn1 rfl rfl rfl rfl) rfl rfl (y_move rfl) ?_
      refine rj_val (wn1 rfl rfl rfl rfl) rfl rfl (y_eql rfl rfl) ?_
      refine rj_val (wn1 rfl rfl rfl rfl) rfl rfl (y_move rfl) ?_
      refine rj_part 32 rfl (fun hg32 => ?_) (fun hg32 => ?_)
      ·try simp only [dT, dF, nT, nF, tF, fT] at hg32
       refine rj_val (wn1 rfl rfl rfl rfl) rfl rfl (y_move rfl) ?_
       refine rj_val (wn1 rfl rfl rfl rfl) rfl rfl (y_eql rfl rfl) ?_
       refine rj_val (wn1 rfl rfl rfl rfl) rfl rfl (y_pick_t rfl rfl) ?_
       refine rv0 rfl rfl rfl (y_pick_f rfl rfl) ?_
       refine rj_nil ?_
       refine hK9 _ _ _ ?_
       refine cj_env (eL 6 rfl (eL 36 rfl eN)) ?_
       refine cj_cond rfl (fun hc36 => ?_) (fun hc36 => ?_)
       ·try simp only [dT, dF, nT, nF, tF, fT] at hc36
        refine cj_seq (fun K17 hK17 => ?_)
        refine cj_region ?_
        refine rv0 rfl rfl rfl (y_assign rfl) ?_
        refine rv0 rfl rfl rfl (y_assign rfl) ?_
        refine rj_nil ?_
        refine hK17 _ _ _ ?_
        refine cj_ret ?_
        refine hret _ _ _ ?_
        apply ej_ret Try.results83 (.cons (rv_tmp rfl) (.cons (rv_tmp rfl) .nil)) _ [] (by (first | exact Hp.le_refl _ | assumption | exact Hp.le_trans ‹_› ‹_›)) rfl
        case hp => refine ⟨?_, rfl⟩; first | (rw [addP_no (fun h => by have := hin.1 h; simp_all)]; done) | (have h := hin.2 (by simp_all); rw [addP_ok h (wrap_i64_in h)])
        case hS => (repeat (first|exact zR _|(apply zP;focus (repeat (first|exact zH _|apply zT)))|apply zD|exact zA _ _))
       ·try simp only [dT, dF, nT, nF, tF, fT] at hc36
        refine cj_skip ?_
        refine hK8 _ _ _ ?_
        refine cj_seq (fun K18 hK18 => ?_)
        refine cj_region ?_
        refine rv0 rfl rfl rfl (y_move rfl) ?_
        refine rv0 rfl rfl rfl (y_assign rfl) ?_
        refine rv0 rfl rfl rfl (y_assign rfl) ?_
        refine rj_nil ?_
        refine hK18 _ _ _ ?_
        refine cj_env (eL 4 rfl (eL 5 rfl eN)) ?_
        refine cj_ret ?_
        refine hret _ _ _ ?_
        apply ej_ret Try.results83 (.cons (rv_tmp rfl) (.cons (rv_tmp rfl) .nil)) _ [] (by (first | exact Hp.le_refl _ | assumption | exact Hp.le_trans ‹_› ‹_›)) rfl
        case hp => refine ⟨?_, rfl⟩; first | (rw [addP_no (fun h => by have := hin.1 h; simp_all)]; done) | (have h := hin.2 (by simp_all); rw [addP_ok h (wrap_i64_in h)])
        case hS => (repeat (first|exact zR _|(apply zP;focus (repeat (first|exact zH _|apply zT)))|apply zD|exact zA _ _))
      ·try simp only [dT, dF, nT, nF, tF, fT] at hg32
       refine rj_skip (wn2 rfl rfl rfl rfl rfl) rfl rfl ?_
       refine rj_skip (wn2 rfl rfl rfl rfl rfl) rfl rfl ?_
       refine rj_val (wn1 rfl rfl rfl rfl) rfl rfl (y_pick_f rfl rfl) ?_
       refine rv0 rfl rfl rfl (y_pick_f rfl rfl) ?_
       refine rj_nil ?_
       refine hK9 _ _ _ ?_
       refine cj_env (eL 6 rfl (eL 36 rfl eN)) ?_
       refine cj_cond_f rfl ?_
       refine cj_skip ?_
       refine hK8 _ _ _ ?_
       refine cj_seq (fun K19 hK19 => ?_)
       refine cj_region ?_
       refine rv0 rfl rfl rfl (y_move rfl) ?_
       refine rv0 rfl rfl rfl (y_assign rfl) ?_
       refine rv0 rfl rfl rfl (y_assign rfl) ?_
       refine rj_nil ?_
       refine hK19 _ _ _ ?_
       refine cj_env (eL 4 rfl (eL 5 rfl eN)) ?_
       refine cj_ret ?_
       refine hret _ _ _ ?_
       apply ej_ret Try.results83 (.cons (rv_tmp rfl) (.cons (rv_tmp rfl) .nil)) _ [] (by (first | exact Hp.le_refl _ | assumption | exact Hp.le_trans ‹_› ‹_›)) rfl
       case hp => refine ⟨?_, rfl⟩; first | (rw [addP_no (fun h => by have := hin.1 h; simp_all)]; done) | (have h := hin.2 (by simp_all); rw [addP_ok h (wrap_i64_in h)])
       case hS => (repeat (first|exact zR _|(apply zP;focus (repeat (first|exact zH _|apply zT)))|apply zD|exact zA _ _))
def signV (op : Op) (a b : Vl) : Except Int Vl :=
  if a.kind = 0 ∨ b.kind = 0 then .ok Vl.zero
  else if fam op = 2 then .ok (truthV (cmpB op (cmpV a b)))
  else if op = .cat then (if a.s.length + b.s.length ≤ 200 then .ok ⟨2, 0, a.s ++ b.s⟩ else .error 28)
  else numV (reckV op a.n b.n)
def pairV : Except Int Vl → Value
  | .ok v => tupOf [.agg ⟨valC v⟩, .int .i64 0]
  | .error e => tupOf [.agg ⟨valC Vl.zero⟩, .int .i64 e]
theorem addP_split (n : Int) : ∃ m o, addP n = tupOf [.int .i64 m, .bool o] ∧ num64 n = (if o = true then .ok m else .error 26) := by
  unfold addP num64
  by_cases h : inI n
  · exact ⟨n, true, by rw [if_pos h], by rw [if_pos h]; rfl⟩
  · exact ⟨0, false, by rw [if_neg h], by rw [if_neg h]; rfl⟩
theorem num64_cases {n m : Int} {o : Bool} (h : num64 n = (if o = true then .ok m else .error 26)) : (o = true ∧ inI n ∧ m = n) ∨ (o = false ∧ ¬ inI n) := by
  unfold num64 at h
  by_cases hi : inI n
  · rw [if_pos hi] at h
    cases o
    · cases h
    · cases h; exact .inl ⟨rfl, hi, rfl⟩
  · rw [if_neg hi] at h
    cases o
    · exact .inr ⟨rfl, hi⟩
    · cases h
def signO : Op → Bool
  | .eq | .ne | .lt | .le | .gt | .ge | .add | .sub | .cat | .mul | .div | .rem => true
  | _ => false
theorem sign_q {R : Hp} (op : Op) (a b : Vl) (hop : signO op = true) (ha : sndV a) (hb : sndV b) : QTri Try.prog 73 [.string (str op.str), .agg ⟨valC a⟩, .agg ⟨valC b⟩] R [] (pairV (signV op a b)) := by
  have hal := ha.len
  have hbl := hb.len
  have hai := ha.2
  have hbi := hb.2
  refine Tri.q2 ?_
  refine tri_of Try.func73 rfl Try.ntmps73 rfl (fun σ F Q hret hend hpan => ?_)
  try simp only [List.cons_append, List.nil_append]
  refine cj_env (eL 0 rfl (eL 1 rfl (eL 2 rfl eN))) ?_
  refine cj_seq (fun K1 hK1 => ?_)
  refine cj_region ?_
  refine rj_box (wn0 rfl) rfl rfl rfl (fun b4 => ?_)
  refine rj_box (wn0 rfl) rfl rfl rfl (fun b5 => ?_)
  refine rj_alloc (wn0 rfl) rfl Try.zeroValue26 rfl (fun b6 => ?_)
  refine rv0 rfl rfl rfl (y_assign rfl) ?_
  refine rj_nil ?_
  refine hK1 _ _ _ ?_
  refine cj_env (eL 0 rfl (eL 4 rfl (eL 5 rfl (eL 6 rfl eN)))) ?_
  refine cj_seq (fun K2 hK2 => ?_)
  refine cj_seq (fun K3 hK3 => ?_)
  refine cj_region ?_
  refine rv0 rfl rfl rfl (y_fieldAddr (k := 0) Try.underlying26 rfl (n := 1) (by decide) Try.sizeOf3 rfl) ?_
  first | refine rv0 rfl rfl rfl (y_load ⟨Try.isAgg3, Try.sizeOf3⟩ rfl (by (repeat (first|exact zH _|apply zT));done) rfl) ?_ | refine rv0 rfl rfl rfl (y_load_slc ⟨Try.isAgg3, Try.sizeOf3⟩ rfl (by (repeat (first|exact zH _|apply zT));done) rfl) ?_
  refine rv0 rfl rfl rfl (y_eql rfl rfl) ?_
  refine rv0 rfl rfl rfl (y_move rfl) ?_
  refine rj_part 14 rfl (fun hg14 => ?_) (fun hg14 => ?_)
  ·have hnu : a.kind = 0 ∨ b.kind = 0 := .inl (by simpa using hg14)
   refine rj_skip (wn2 rfl rfl rfl rfl rfl) rfl rfl ?_
   refine rj_skip (wn2 rfl rfl rfl rfl rfl) rfl rfl ?_
   refine rj_skip (wn2 rfl rfl rfl rfl rfl) rfl rfl ?_
   refine rv0 rfl rfl rfl (y_pick_t rfl rfl) ?_
   refine rj_nil ?_
   refine hK3 _ _ _ ?_
   refine cj_env (eL 0 rfl (eL 4 rfl (eL 5 rfl (eL 6 rfl (eL 18 rfl eN))))) ?_
   refine cj_cond_t rfl ?_
   refine cj_seq (fun K4 hK4 => ?_)
   refine cj_region ?_
   refine rv0 rfl rfl rfl (y_build (cells := [_, _, _]) [(0, 1), (1, 1), (2, 1)] Try.underlying26 Try.zeroValue26 (fun _ => rfl) rfl rfl) ?_
   refine rj_stores_all (vs := valC (Vl.zero)) ⟨Try.isAgg26, Try.sizeOf26⟩ rfl (wn0 rfl) rfl rfl (valE.one (R := R) (x := Vl.zero) rfl) (by (repeat (first|exact zH _|apply zT));done) rfl ?_
   refine rv0 rfl rfl rfl (y_assign rfl) ?_
   refine rj_nil ?_
   refine hK4 _ _ _ ?_
   refine cj_env (eL 6 rfl (eL 7 rfl eN)) ?_
   refine cj_ret ?_
   refine hret _ _ _ ?_
   apply ej_ret Try.results73 (.cons (rv_cells ⟨Try.isAgg26, Try.sizeOf26⟩ rfl (by (repeat (first|exact zH _|apply zT));done) rfl rfl) (.cons (rv_tmp rfl) .nil)) _ [] (by (first | exact Hp.le_refl _ | assumption | exact Hp.le_trans ‹_› ‹_›)) rfl
   case hp => refine ⟨?_, rfl⟩; unfold signV; rw [if_pos hnu]; rfl
   case hS => (repeat (first|exact zR _|(apply zP;focus (repeat (first|exact zH _|apply zT)))|apply zD|exact zA _ _))
  ·have hn1 : ¬ a.kind = 0 := by simpa using hg14
   refine rj_val (wn1 rfl rfl rfl rfl) rfl rfl (y_fieldAddr (k := 0) Try.underlying26 rfl (n := 1) (by decide) Try.sizeOf3 rfl) ?_
   first | refine rj_val (wn1 rfl rfl rfl rfl) rfl rfl (y_load ⟨Try.isAgg3, Try.sizeOf3⟩ rfl (by (repeat (first|exact zH _|apply zT));done) rfl) ?_ | refine rj_val (wn1 rfl rfl rfl rfl) rfl rfl (y_load_slc ⟨Try.isAgg3, Try.sizeOf3⟩ rfl (by (repeat (first|exact zH _|apply zT));done) rfl) ?_
   refine rj_val (wn1 rfl rfl rfl rfl) rfl rfl (y_eql rfl rfl) ?_
   refine rv0 rfl rfl rfl (y_pick_f rfl rfl) ?_
   refine rj_nil ?_
   refine hK3 _ _ _ ?_
   refine cj_env (eL 0 rfl (eL 4 rfl (eL 5 rfl (eL 6 rfl (eL 18 rfl eN))))) ?_
   refine cj_condt rfl (fun hc18 => ?_) (fun hc18 => ?_)
   ·have hnu : a.kind = 0 ∨ b.kind = 0 := .inr (by simpa using hc18)
    refine cj_seq (fun K6 hK6 => ?_)
    refine cj_region ?_
    refine rv0 rfl rfl rfl (y_build (cells := [_, _, _]) [(0, 1), (1, 1), (2, 1)] Try.underlying26 Try.zeroValue26 (fun _ => rfl) rfl rfl) ?_
    refine rj_stores_all (vs := valC (Vl.zero)) ⟨Try.isAgg26, Try.sizeOf26⟩ rfl (wn0 rfl) rfl rfl (valE.one (R := R) (x := Vl.zero) rfl) (by (repeat (first|exact zH _|apply zT));done) rfl ?_
    refine rv0 rfl rfl rfl (y_assign rfl) ?_
    refine rj_nil ?_
    refine hK6 _ _ _ ?_
    refine cj_env (eL 6 rfl (eL 7 rfl eN)) ?_
    refine cj_ret ?_
    refine hret _ _ _ ?_
    apply ej_ret Try.results73 (.cons (rv_cells ⟨Try.isAgg26, Try.sizeOf26⟩ rfl (by (repeat (first|exact zH _|apply zT));done) rfl rfl) (.cons (rv_tmp rfl) .nil)) _ [] (by (first | exact Hp.le_refl _ | assumption | exact Hp.le_trans ‹_› ‹_›)) rfl
    case hp => refine ⟨?_, rfl⟩; unfold signV; rw [if_pos hnu]; rfl
    case hS => (repeat (first|exact zR _|(apply zP;focus (repeat (first|exact zH _|apply zT)))|apply zD|exact zA _ _))
   ·have hnn : ¬ (a.kind = 0 ∨ b.kind = 0) := by rintro (h|h); exact hn1 h; simp [h] at hc18
    refine cj_skip ?_
    refine hK2 _ _ _ ?_
    refine cj_seq (fun K7 hK7 => ?_)
    refine cj_region ?_
    refine rv0 rfl rfl rfl ((y_loads_all (vs := valC a) ⟨Try.isAgg26, Try.sizeOf26⟩ rfl rfl (by (repeat (first|exact zH _|apply zT));done))) ?_
    refine rv0 rfl rfl rfl ((y_loads_all (vs := valC b) ⟨Try.isAgg26, Try.sizeOf26⟩ rfl rfl (by (repeat (first|exact zH _|apply zT));done))) ?_
    refine rv0 rfl rfl rfl (y_call Try.call25 rfl (rcompare_q a b ha.1 hb.1) (by (repeat (first|exact zN _|(apply zS;focus (repeat (first|exact zH _|apply zT))))))) ?_
    refine rv0 rfl rfl rfl (y_assign rfl) ?_
    refine rj_nil ?_
    refine hK7 _ _ _ ?_
    refine cj_env (eL 0 rfl (eL 4 rfl (eL 5 rfl (eL 6 rfl (eL 8 rfl eN))))) ?_
    refine cj_seq (fun K8 hK8 => ?_)
    refine cj_region ?_
    refine rv0 rfl rfl rfl (y_assign rfl) ?_
    refine rj_nil ?_
    refine hK8 _ _ _ ?_
    refine cj_seq (fun K9 hK9 => ?_)
    refine cj_region ?_
    refine rv0 rfl rfl rfl (y_assign rfl) ?_
    refine rj_nil ?_
    refine hK9 _ _ _ ?_
    refine cj_seq (fun K10 hK10 => ?_)
    have hJ45 : ∀ (x : Int × Bool), reckV op a.n b.n = (if x.2 = true then .ok x.1 else .error 26) ∧ (fam op = 3) → EJ ⟨Try.prog, 152, σ⟩ K10 [(6, .pointer (some ⟨b6, 0, none⟩)), (9, .int .i64 x.1), (10, .bool x.2)] R (blk b6 (valC Vl.zero) 26 :: F) := by
     rintro ⟨n9, o10⟩ ⟨hre, hfam⟩
     try dsimp only
     dsimp only at hre
     refine hK10 _ _ _ ?_
     refine cj_seq (fun K11 hK11 => ?_)
     refine cj_seq (fun K12 hK12 => ?_)
     refine cj_region ?_
     refine rv0 rfl rfl rfl (y_move rfl) ?_
     refine rv0 rfl rfl rfl (y_not rfl) ?_
     refine rj_nil ?_
     refine hK12 _ _ _ ?_
     refine cj_condt rfl (fun hc148 => ?_) (fun hc148 => ?_)
     ·obtain rfl : o10 = false := by simpa using hc148
      refine cj_seq (fun K14 hK14 => ?_)
      refine cj_region ?_
      refine rv0 rfl rfl rfl (y_build (cells := [_, _, _]) [(0, 1), (1, 1), (2, 1)] Try.underlying26 Try.zeroValue26 (fun _ => rfl) rfl rfl) ?_
      refine rj_stores_all (vs := valC (Vl.zero)) ⟨Try.isAgg26, Try.sizeOf26⟩ rfl (wn0 rfl) rfl rfl (valE.one (R := R) (x := Vl.zero) rfl) (by (repeat (first|exact zH _|apply zT));done) rfl ?_
      refine rv0 rfl rfl rfl (y_assign rfl) ?_
      refine rj_nil ?_
      refine hK14 _ _ _ ?_
      refine cj_env (eL 6 rfl (eL 7 rfl eN)) ?_
      refine cj_ret ?_
      refine hret _ _ _ ?_
      apply ej_ret Try.results73 (.cons (rv_cells ⟨Try.isAgg26, Try.sizeOf26⟩ rfl (by (repeat (first|exact zH _|apply zT));done) rfl rfl) (.cons (rv_tmp rfl) .nil)) _ [] (by (first | exact Hp.le_refl _ | assumption | exact Hp.le_trans ‹_› ‹_›)) rfl
      case hp => refine ⟨?_, rfl⟩; unfold signV; rw [if_neg hnn, if_neg (by omega), if_neg (by rintro rfl; simp [fam] at hfam), hre]; rfl
      case hS => (repeat (first|exact zR _|(apply zP;focus (repeat (first|exact zH _|apply zT)))|apply zD|exact zA _ _))
     ·obtain rfl : o10 = true := by simpa using hc148
      refine cj_skip ?_
      refine hK11 _ _ _ ?_
      refine cj_env (eL 6 rfl (eL 9 rfl eN)) ?_
      refine cj_seq (fun K15 hK15 => ?_)
      refine cj_region ?_
      refine rv0 rfl rfl rfl (y_move rfl) ?_
      refine rv0 rfl rfl rfl (y_call Try.call69 rfl (rnumber_q _) (by (repeat (first|exact zN _|(apply zS;focus (repeat (first|exact zH _|apply zT))))))) ?_
      refine rj_stores_all (vs := valC (⟨1, n9, []⟩)) ⟨Try.isAgg26, Try.sizeOf26⟩ rfl (wn0 rfl) rfl rfl (valE.one (R := R) (x := ⟨1, n9, []⟩) rfl) (by (repeat (first|exact zH _|apply zT));done) rfl ?_
      refine rv0 rfl rfl rfl (y_assign rfl) ?_
      refine rj_nil ?_
      refine hK15 _ _ _ ?_
      refine cj_env (eL 6 rfl (eL 7 rfl eN)) ?_
      refine cj_ret ?_
      refine hret _ _ _ ?_
      apply ej_ret Try.results73 (.cons (rv_cells ⟨Try.isAgg26, Try.sizeOf26⟩ rfl (by (repeat (first|exact zH _|apply zT));done) rfl rfl) (.cons (rv_tmp rfl) .nil)) _ [] (by (first | exact Hp.le_refl _ | assumption | exact Hp.le_trans ‹_› ‹_›)) rfl
      case hp => refine ⟨?_, rfl⟩; unfold signV; rw [if_neg hnn, if_neg (by omega), if_neg (by rintro rfl; simp [fam] at hfam), hre]; rfl
      case hS => (repeat (first|exact zR _|(apply zP;focus (repeat (first|exact zH _|apply zT)))|apply zD|exact zA _ _))
    refine cj_seq (fun K16 hK16 => ?_)
    refine cj_region ?_
    refine rv0 rfl rfl rfl (y_move rfl) ?_
    refine rj_nil ?_
    refine hK16 _ _ _ ?_
    refine cj_block ?_
    refine cj_seq (fun K17 hK17 => ?_)
    refine cj_region ?_
    refine rv0 rfl rfl rfl (y_seql rfl rfl) ?_
    refine rv0 rfl rfl rfl (y_assign rfl) ?_
    refine rj_nil ?_
    refine hK17 _ _ _ ?_
    refine cj_condt rfl (fun hc24 => ?_) (fun hc24 => ?_)
    ·have e : op = .eq := Op.is hc24 rfl
     refine cj_seq (fun K19 hK19 => ?_)
     refine cj_region ?_
     refine rv0 rfl rfl rfl (y_move rfl) ?_
     refine rv0 rfl rfl rfl (y_eql rfl rfl) ?_
     refine rv0 rfl rfl rfl (y_call Try.call72 rfl (rtruth_q _) (by (repeat (first|exact zN _|(apply zS;focus (repeat (first|exact zH _|apply zT))))))) ?_
     refine rj_stores_all (vs := valC (truthV (decide (cmpV a b = 0)))) ⟨Try.isAgg26, Try.sizeOf26⟩ rfl (wn0 rfl) rfl rfl (valE.one (R := R) (x := truthV (decide (cmpV a b = 0))) rfl) (by (repeat (first|exact zH _|apply zT));done) rfl ?_
     refine rv0 rfl rfl rfl (y_assign rfl) ?_
     refine rj_nil ?_
     refine hK19 _ _ _ ?_
     refine cj_env (eL 6 rfl (eL 7 rfl eN)) ?_
     refine cj_ret ?_
     refine hret _ _ _ ?_
     apply ej_ret Try.results73 (.cons (rv_cells ⟨Try.isAgg26, Try.sizeOf26⟩ rfl (by (repeat (first|exact zH _|apply zT));done) rfl rfl) (.cons (rv_tmp rfl) .nil)) _ [] (by (first | exact Hp.le_refl _ | assumption | exact Hp.le_trans ‹_› ‹_›)) rfl
     case hp => refine ⟨?_, rfl⟩; unfold signV; first | (rw [if_neg hnn, e, if_neg (by decide), if_pos rfl, if_neg h200]; rfl) | (rw [if_neg hnn, e, if_neg (by decide), if_pos rfl, if_pos h200]; rfl) | (rw [if_neg hnn, e, if_neg (by decide), if_neg (by decide), hb0]; rfl) | (exact absurd (e.symm.trans e2) (by decide)) | (rw [if_neg hnn, e, if_neg (by decide), if_neg (by decide), hb1, reckV_rem (by decide), Int.tmod_neg, Int.tmod_one]; rfl) | (rw [if_neg hnn, e]; rfl)
     case hS => (repeat (first|exact zR _|(apply zP;focus (repeat (first|exact zH _|apply zT)))|apply zD|exact zA _ _))
    ·have neq : ¬ op = .eq := by rintro rfl; simp [Op.str] at hc24
     refine cj_seq (fun K20 hK20 => ?_)
     refine cj_region ?_
     refine rv0 rfl rfl rfl (y_seql rfl rfl) ?_
     refine rv0 rfl rfl rfl (y_assign rfl) ?_
     refine rj_nil ?_
     refine hK20 _ _ _ ?_
     refine cj_env (eL 0 rfl (eL 4 rfl (eL 5 rfl (eL 6 rfl (eL 8 rfl (eL 9 rfl (eL 10 rfl (eL 23 rfl (eL 29 rfl eN))))))))) ?_
     refine cj_condt rfl (fun hc29 => ?_) (fun hc29 => ?_)
     ·have e : op = .ne := Op.is hc29 rfl
      refine cj_seq (fun K22 hK22 => ?_)
      refine cj_region ?_
      refine rv0 rfl rfl rfl (y_move rfl) ?_
      refine rv0 rfl rfl rfl (y_neq rfl rfl) ?_
      refine rv0 rfl rfl rfl (y_call Try.call72 rfl (rtruth_q _) (by (repeat (first|exact zN _|(apply zS;focus (repeat (first|exact zH _|apply zT))))))) ?_
      refine rj_stores_all (vs := valC (truthV (!decide (cmpV a b = 0)))) ⟨Try.isAgg26, Try.sizeOf26⟩ rfl (wn0 rfl) rfl rfl (valE.one (R := R) (x := truthV (!decide (cmpV a b = 0))) rfl) (by (repeat (first|exact zH _|apply zT));done) rfl ?_
      refine rv0 rfl rfl rfl (y_assign rfl) ?_
      refine rj_nil ?_
      refine hK22 _ _ _ ?_
      refine cj_env (eL 6 rfl (eL 7 rfl eN)) ?_
      refine cj_ret ?_
      refine hret _ _ _ ?_
      apply ej_ret Try.results73 (.cons (rv_cells ⟨Try.isAgg26, Try.sizeOf26⟩ rfl (by (repeat (first|exact zH _|apply zT));done) rfl rfl) (.cons (rv_tmp rfl) .nil)) _ [] (by (first | exact Hp.le_refl _ | assumption | exact Hp.le_trans ‹_› ‹_›)) rfl
      case hp => refine ⟨?_, rfl⟩; unfold signV; first | (rw [if_neg hnn, e, if_neg (by decide), if_pos rfl, if_neg h200]; rfl) | (rw [if_neg hnn, e, if_neg (by decide), if_pos rfl, if_pos h200]; rfl) | (rw [if_neg hnn, e, if_neg (by decide), if_neg (by decide), hb0]; rfl) | (exact absurd (e.symm.trans e2) (by decide)) | (rw [if_neg hnn, e, if_neg (by decide), if_neg (by decide), hb1, reckV_rem (by decide), Int.tmod_neg, Int.tmod_one]; rfl) | (rw [if_neg hnn, e]; rfl)
      case hS => (repeat (first|exact zR _|(apply zP;focus (repeat (first|exact zH _|apply zT)))|apply zD|exact zA _ _))
     ·have nne : ¬ op = .ne := by rintro rfl; simp [Op.str] at hc29
      refine cj_seq (fun K23 hK23 => ?_)
      refine cj_region ?_
      refine rv0 rfl rfl rfl (y_seql rfl rfl) ?_
      refine rv0 rfl rfl rfl (y_assign rfl) ?_
      refine rj_nil ?_
      refine hK23 _ _ _ ?_
      refine cj_condt rfl (fun hc34 => ?_) (fun hc34 => ?_)
      ·have e : op = .lt := Op.is hc34 rfl
       refine cj_seq (fun K25 hK25 => ?_)
       refine cj_region ?_
       refine rv0 rfl rfl rfl (y_move rfl) ?_
       refine rv0 rfl rfl rfl (y_lss rfl rfl) ?_
       refine rv0 rfl rfl rfl (y_call Try.call72 rfl (rtruth_q _) (by (repeat (first|exact zN _|(apply zS;focus (repeat (first|exact zH _|apply zT))))))) ?_
       refine rj_stores_all (vs := valC (truthV (decide (cmpV a b < 0)))) ⟨Try.isAgg26, Try.sizeOf26⟩ rfl (wn0 rfl) rfl rfl (valE.one (R := R) (x := truthV (decide (cmpV a b < 0))) rfl) (by (repeat (first|exact zH _|apply zT));done) rfl ?_
       refine rv0 rfl rfl rfl (y_assign rfl) ?_
       refine rj_nil ?_
       refine hK25 _ _ _ ?_
       refine cj_env (eL 6 rfl (eL 7 rfl eN)) ?_
       refine cj_ret ?_
       refine hret _ _ _ ?_
       apply ej_ret Try.results73 (.cons (rv_cells ⟨Try.isAgg26, Try.sizeOf26⟩ rfl (by (repeat (first|exact zH _|apply zT));done) rfl rfl) (.cons (rv_tmp rfl) .nil)) _ [] (by (first | exact Hp.le_refl _ | assumption | exact Hp.le_trans ‹_› ‹_›)) rfl
       case hp => refine ⟨?_, rfl⟩; unfold signV; first | (rw [if_neg hnn, e, if_neg (by decide), if_pos rfl, if_neg h200]; rfl) | (rw [if_neg hnn, e, if_neg (by decide), if_pos rfl, if_pos h200]; rfl) | (rw [if_neg hnn, e, if_neg (by decide), if_neg (by decide), hb0]; rfl) | (exact absurd (e.symm.trans e2) (by decide)) | (rw [if_neg hnn, e, if_neg (by decide), if_neg (by decide), hb1, reckV_rem (by decide), Int.tmod_neg, Int.tmod_one]; rfl) | (rw [if_neg hnn, e]; rfl)
       case hS => (repeat (first|exact zR _|(apply zP;focus (repeat (first|exact zH _|apply zT)))|apply zD|exact zA _ _))
      ·have nlt : ¬ op = .lt := by rintro rfl; simp [Op.str] at hc34
       refine cj_seq (fun K26 hK26 => ?_)
       refine cj_region ?_
       refine rv0 rfl rfl rfl (y_seql rfl rfl) ?_
       refine rv0 rfl rfl rfl (y_assign rfl) ?_
       refine rj_nil ?_
       refine hK26 _ _ _ ?_
       refine cj_env (eL 0 rfl (eL 4 rfl (eL 5 rfl (eL 6 rfl (eL 8 rfl (eL 9 rfl (eL 10 rfl (eL 23 rfl (eL 39 rfl eN))))))))) ?_
       refine cj_condt rfl (fun hc39 => ?_) (fun hc39 => ?_)
       ·have e : op = .le := Op.is hc39 rfl
        refine cj_seq (fun K28 hK28 => ?_)
        refine cj_region ?_
        refine rv0 rfl rfl rfl (y_move rfl) ?_
        refine rv0 rfl rfl rfl (y_leq rfl rfl) ?_
        refine rv0 rfl rfl rfl (y_call Try.call72 rfl (rtruth_q _) (by (repeat (first|exact zN _|(apply zS;focus (repeat (first|exact zH _|apply zT))))))) ?_
        refine rj_stores_all (vs := valC (truthV (decide (cmpV a b ≤ 0)))) ⟨Try.isAgg26, Try.sizeOf26⟩ rfl (wn0 rfl) rfl rfl (valE.one (R := R) (x := truthV (decide (cmpV a b ≤ 0))) rfl) (by (repeat (first|exact zH _|apply zT));done) rfl ?_
        refine rv0 rfl rfl rfl (y_assign rfl) ?_
        refine rj_nil ?_
        refine hK28 _ _ _ ?_
        refine cj_env (eL 6 rfl (eL 7 rfl eN)) ?_
        refine cj_ret ?_
        refine hret _ _ _ ?_
        apply ej_ret Try.results73 (.cons (rv_cells ⟨Try.isAgg26, Try.sizeOf26⟩ rfl (by (repeat (first|exact zH _|apply zT));done) rfl rfl) (.cons (rv_tmp rfl) .nil)) _ [] (by (first | exact Hp.le_refl _ | assumption | exact Hp.le_trans ‹_› ‹_›)) rfl
        case hp => refine ⟨?_, rfl⟩; unfold signV; first | (rw [if_neg hnn, e, if_neg (by decide), if_pos rfl, if_neg h200]; rfl) | (rw [if_neg hnn, e, if_neg (by decide), if_pos rfl, if_pos h200]; rfl) | (rw [if_neg hnn, e, if_neg (by decide), if_neg (by decide), hb0]; rfl) | (exact absurd (e.symm.trans e2) (by decide)) | (rw [if_neg hnn, e, if_neg (by decide), if_neg (by decide), hb1, reckV_rem (by decide), Int.tmod_neg, Int.tmod_one]; rfl) | (rw [if_neg hnn, e]; rfl)
        case hS => (repeat (first|exact zR _|(apply zP;focus (repeat (first|exact zH _|apply zT)))|apply zD|exact zA _ _))
       ·have nle : ¬ op = .le := by rintro rfl; simp [Op.str] at hc39
        refine cj_seq (fun K29 hK29 => ?_)
        refine cj_region ?_
        refine rv0 rfl rfl rfl (y_seql rfl rfl) ?_
        refine rv0 rfl rfl rfl (y_assign rfl) ?_
        refine rj_nil ?_
        refine hK29 _ _ _ ?_
        refine cj_condt rfl (fun hc44 => ?_) (fun hc44 => ?_)
        ·have e : op = .gt := Op.is hc44 rfl
         refine cj_seq (fun K31 hK31 => ?_)
         refine cj_region ?_
         refine rv0 rfl rfl rfl (y_move rfl) ?_
         refine rv0 rfl rfl rfl (y_gtr rfl rfl) ?_
         refine rv0 rfl rfl rfl (y_call Try.call72 rfl (rtruth_q _) (by (repeat (first|exact zN _|(apply zS;focus (repeat (first|exact zH _|apply zT))))))) ?_
         refine rj_stores_all (vs := valC (truthV (decide (cmpV a b > 0)))) ⟨Try.isAgg26, Try.sizeOf26⟩ rfl (wn0 rfl) rfl rfl (valE.one (R := R) (x := truthV (decide (cmpV a b > 0))) rfl) (by (repeat (first|exact zH _|apply zT));done) rfl ?_
         refine rv0 rfl rfl rfl (y_assign rfl) ?_
         refine rj_nil ?_
         refine hK31 _ _ _ ?_
         refine cj_env (eL 6 rfl (eL 7 rfl eN)) ?_
         refine cj_ret ?_
         refine hret _ _ _ ?_
         apply ej_ret Try.results73 (.cons (rv_cells ⟨Try.isAgg26, Try.sizeOf26⟩ rfl (by (repeat (first|exact zH _|apply zT));done) rfl rfl) (.cons (rv_tmp rfl) .nil)) _ [] (by (first | exact Hp.le_refl _ | assumption | exact Hp.le_trans ‹_› ‹_›)) rfl
         case hp => refine ⟨?_, rfl⟩; unfold signV; first | (rw [if_neg hnn, e, if_neg (by decide), if_pos rfl, if_neg h200]; rfl) | (rw [if_neg hnn, e, if_neg (by decide), if_pos rfl, if_pos h200]; rfl) | (rw [if_neg hnn, e, if_neg (by decide), if_neg (by decide), hb0]; rfl) | (exact absurd (e.symm.trans e2) (by decide)) | (rw [if_neg hnn, e, if_neg (by decide), if_neg (by decide), hb1, reckV_rem (by decide), Int.tmod_neg, Int.tmod_one]; rfl) | (rw [if_neg hnn, e]; rfl)
         case hS => (repeat (first|exact zR _|(apply zP;focus (repeat (first|exact zH _|apply zT)))|apply zD|exact zA _ _))
        ·have ngt : ¬ op = .gt := by rintro rfl; simp [Op.str] at hc44
         refine cj_seq (fun K32 hK32 => ?_)
         refine cj_region ?_
         refine rv0 rfl rfl rfl (y_seql rfl rfl) ?_
         refine rv0 rfl rfl rfl (y_assign rfl) ?_
         refine rj_nil ?_
         refine hK32 _ _ _ ?_
         refine cj_env (eL 0 rfl (eL 4 rfl (eL 5 rfl (eL 6 rfl (eL 8 rfl (eL 9 rfl (eL 10 rfl (eL 23 rfl (eL 49 rfl eN))))))))) ?_
         refine cj_condt rfl (fun hc49 => ?_) (fun hc49 => ?_)
         ·have e : op = .ge := Op.is hc49 rfl
          refine cj_seq (fun K34 hK34 => ?_)
          refine cj_region ?_
          refine rv0 rfl rfl rfl (y_move rfl) ?_
          refine rv0 rfl rfl rfl (y_geq rfl rfl) ?_
          refine rv0 rfl rfl rfl (y_call Try.call72 rfl (rtruth_q _) (by (repeat (first|exact zN _|(apply zS;focus (repeat (first|exact zH _|apply zT))))))) ?_
          refine rj_stores_all (vs := valC (truthV (decide (cmpV a b ≥ 0)))) ⟨Try.isAgg26, Try.sizeOf26⟩ rfl (wn0 rfl) rfl rfl (valE.one (R := R) (x := truthV (decide (cmpV a b ≥ 0))) rfl) (by (repeat (first|exact zH _|apply zT));done) rfl ?_
          refine rv0 rfl rfl rfl (y_assign rfl) ?_
          refine rj_nil ?_
          refine hK34 _ _ _ ?_
          refine cj_env (eL 6 rfl (eL 7 rfl eN)) ?_
          refine cj_ret ?_
          refine hret _ _ _ ?_
          apply ej_ret Try.results73 (.cons (rv_cells ⟨Try.isAgg26, Try.sizeOf26⟩ rfl (by (repeat (first|exact zH _|apply zT));done) rfl rfl) (.cons (rv_tmp rfl) .nil)) _ [] (by (first | exact Hp.le_refl _ | assumption | exact Hp.le_trans ‹_› ‹_›)) rfl
          case hp => refine ⟨?_, rfl⟩; unfold signV; first | (rw [if_neg hnn, e, if_neg (by decide), if_pos rfl, if_neg h200]; rfl) | (rw [if_neg hnn, e, if_neg (by decide), if_pos rfl, if_pos h200]; rfl) | (rw [if_neg hnn, e, if_neg (by decide), if_neg (by decide), hb0]; rfl) | (exact absurd (e.symm.trans e2) (by decide)) | (rw [if_neg hnn, e, if_neg (by decide), if_neg (by decide), hb1, reckV_rem (by decide), Int.tmod_neg, Int.tmod_one]; rfl) | (rw [if_neg hnn, e]; rfl)
          case hS => (repeat (first|exact zR _|(apply zP;focus (repeat (first|exact zH _|apply zT)))|apply zD|exact zA _ _))
         ·have nge : ¬ op = .ge := by rintro rfl; simp [Op.str] at hc49
          refine cj_seq (fun K35 hK35 => ?_)
          refine cj_region ?_
          refine rv0 rfl rfl rfl (y_seql rfl rfl) ?_
          refine rv0 rfl rfl rfl (y_assign rfl) ?_
          refine rj_nil ?_
          refine hK35 _ _ _ ?_
          refine cj_env (eL 0 rfl (eL 4 rfl (eL 5 rfl (eL 6 rfl (eL 9 rfl (eL 10 rfl (eL 23 rfl (eL 54 rfl eN)))))))) ?_
          refine cj_condt rfl (fun hc54 => ?_) (fun hc54 => ?_)
          ·have e : op = .cat := Op.is hc54 rfl
           refine cj_seq (fun K37 hK37 => ?_)
           refine cj_seq (fun K38 hK38 => ?_)
           refine cj_region ?_
           refine rv0 rfl rfl rfl (y_fieldAddr (k := 2) Try.underlying26 rfl (n := 1) (by decide) Try.sizeOf9 rfl) ?_
           first | refine rv0 rfl rfl rfl (y_load ⟨Try.isAgg9, Try.sizeOf9⟩ rfl (by (repeat (first|exact zH _|apply zT));done) rfl) ?_ | refine rv0 rfl rfl rfl (y_load_slc ⟨Try.isAgg9, Try.sizeOf9⟩ rfl (by (repeat (first|exact zH _|apply zT));done) rfl) ?_
           refine rv0 rfl rfl rfl (y_slen Try.underlying9 rfl) ?_
           refine rv0 rfl rfl rfl (y_fieldAddr (k := 2) Try.underlying26 rfl (n := 1) (by decide) Try.sizeOf9 rfl) ?_
           first | refine rv0 rfl rfl rfl (y_load ⟨Try.isAgg9, Try.sizeOf9⟩ rfl (by (repeat (first|exact zH _|apply zT));done) rfl) ?_ | refine rv0 rfl rfl rfl (y_load_slc ⟨Try.isAgg9, Try.sizeOf9⟩ rfl (by (repeat (first|exact zH _|apply zT));done) rfl) ?_
           refine rv0 rfl rfl rfl (y_slen Try.underlying9 rfl) ?_
           first | refine rv0 rfl rfl rfl (y_add64 rfl rfl (by (first | omega | (dsimp only; omega) | (simp; done) | (simp; omega)))) ?_ | refine rv0 rfl rfl rfl (y_add rfl rfl) ?_
           refine rv0 rfl rfl rfl (y_gtr rfl rfl) ?_
           refine rj_nil ?_
           refine hK38 _ _ _ ?_
           refine cj_env (eL 4 rfl (eL 5 rfl (eL 6 rfl (eL 63 rfl eN)))) ?_
           refine cj_condt rfl (fun hc63 => ?_) (fun hc63 => ?_)
           ·have h200 : ¬ a.s.length + b.s.length ≤ 200 := by (try simp at hc63); omega
            refine cj_seq (fun K40 hK40 => ?_)
            refine cj_region ?_
            refine rv0 rfl rfl rfl (y_build (cells := [_, _, _]) [(0, 1), (1, 1), (2, 1)] Try.underlying26 Try.zeroValue26 (fun _ => rfl) rfl rfl) ?_
            refine rj_stores_all (vs := valC (Vl.zero)) ⟨Try.isAgg26, Try.sizeOf26⟩ rfl (wn0 rfl) rfl rfl (valE.one (R := R) (x := Vl.zero) rfl) (by (repeat (first|exact zH _|apply zT));done) rfl ?_
            refine rv0 rfl rfl rfl (y_assign rfl) ?_
            refine rj_nil ?_
            refine hK40 _ _ _ ?_
            refine cj_env (eL 6 rfl (eL 7 rfl eN)) ?_
            refine cj_ret ?_
            refine hret _ _ _ ?_
            apply ej_ret Try.results73 (.cons (rv_cells ⟨Try.isAgg26, Try.sizeOf26⟩ rfl (by (repeat (first|exact zH _|apply zT));done) rfl rfl) (.cons (rv_tmp rfl) .nil)) _ [] (by (first | exact Hp.le_refl _ | assumption | exact Hp.le_trans ‹_› ‹_›)) rfl
            case hp => refine ⟨?_, rfl⟩; unfold signV; first | (rw [if_neg hnn, e, if_neg (by decide), if_pos rfl, if_neg h200]; rfl) | (rw [if_neg hnn, e, if_neg (by decide), if_pos rfl, if_pos h200]; rfl) | (rw [if_neg hnn, e, if_neg (by decide), if_neg (by decide), hb0]; rfl) | (exact absurd (e.symm.trans e2) (by decide)) | (rw [if_neg hnn, e, if_neg (by decide), if_neg (by decide), hb1, reckV_rem (by decide), Int.tmod_neg, Int.tmod_one]; rfl) | (rw [if_neg hnn, e]; rfl)
            case hS => (repeat (first|exact zR _|(apply zP;focus (repeat (first|exact zH _|apply zT)))|apply zD|exact zA _ _))
           ·have h200 : a.s.length + b.s.length ≤ 200 := by (try simp at hc63); omega
            refine cj_skip ?_
            refine hK37 _ _ _ ?_
            refine cj_seq (fun K41 hK41 => ?_)
            refine cj_region ?_
            refine rv0 rfl rfl rfl (y_fieldAddr (k := 2) Try.underlying26 rfl (n := 1) (by decide) Try.sizeOf9 rfl) ?_
            first | refine rv0 rfl rfl rfl (y_load ⟨Try.isAgg9, Try.sizeOf9⟩ rfl (by (repeat (first|exact zH _|apply zT));done) rfl) ?_ | refine rv0 rfl rfl rfl (y_load_slc ⟨Try.isAgg9, Try.sizeOf9⟩ rfl (by (repeat (first|exact zH _|apply zT));done) rfl) ?_
            refine rv0 rfl rfl rfl (y_fieldAddr (k := 2) Try.underlying26 rfl (n := 1) (by decide) Try.sizeOf9 rfl) ?_
            first | refine rv0 rfl rfl rfl (y_load ⟨Try.isAgg9, Try.sizeOf9⟩ rfl (by (repeat (first|exact zH _|apply zT));done) rfl) ?_ | refine rv0 rfl rfl rfl (y_load_slc ⟨Try.isAgg9, Try.sizeOf9⟩ rfl (by (repeat (first|exact zH _|apply zT));done) rfl) ?_
            refine rv0 rfl rfl rfl ((y_sadd rfl rfl (by omega))) ?_
            refine rv0 rfl rfl rfl (y_build (cells := [_, _, _]) [(0, 1), (1, 1), (2, 1)] Try.underlying26 Try.zeroValue26 (fun _ => rfl) rfl rfl) ?_
            refine rj_stores_all (vs := valC (⟨2, 0, a.s ++ b.s⟩)) ⟨Try.isAgg26, Try.sizeOf26⟩ rfl (wn0 rfl) rfl rfl (valE.one (R := R) (x := ⟨2, 0, a.s ++ b.s⟩) rfl) (by (repeat (first|exact zH _|apply zT));done) rfl ?_
            refine rv0 rfl rfl rfl (y_assign rfl) ?_
            refine rj_nil ?_
            refine hK41 _ _ _ ?_
            refine cj_env (eL 6 rfl (eL 7 rfl eN)) ?_
            refine cj_ret ?_
            refine hret _ _ _ ?_
            apply ej_ret Try.results73 (.cons (rv_cells ⟨Try.isAgg26, Try.sizeOf26⟩ rfl (by (repeat (first|exact zH _|apply zT));done) rfl rfl) (.cons (rv_tmp rfl) .nil)) _ [] (by (first | exact Hp.le_refl _ | assumption | exact Hp.le_trans ‹_› ‹_›)) rfl
            case hp => refine ⟨?_, rfl⟩; unfold signV; first | (rw [if_neg hnn, e, if_neg (by decide), if_pos rfl, if_neg h200]; rfl) | (rw [if_neg hnn, e, if_neg (by decide), if_pos rfl, if_pos h200]; rfl) | (rw [if_neg hnn, e, if_neg (by decide), if_neg (by decide), hb0]; rfl) | (exact absurd (e.symm.trans e2) (by decide)) | (rw [if_neg hnn, e, if_neg (by decide), if_neg (by decide), hb1, reckV_rem (by decide), Int.tmod_neg, Int.tmod_one]; rfl) | (rw [if_neg hnn, e]; rfl)
            case hS => (repeat (first|exact zR _|(apply zP;focus (repeat (first|exact zH _|apply zT)))|apply zD|exact zA _ _))
          ·have ncat : ¬ op = .cat := by rintro rfl; simp [Op.str] at hc54
           refine cj_seq (fun K42 hK42 => ?_)
           refine cj_region ?_
           refine rv0 rfl rfl rfl (y_seql rfl rfl) ?_
           refine rv0 rfl rfl rfl (y_assign rfl) ?_
           refine rj_nil ?_
           refine hK42 _ _ _ ?_
           refine cj_condt rfl (fun hc71 => ?_) (fun hc71 => ?_)
           ·have e : op = .add := Op.is hc71 rfl
            refine cj_region ?_
            refine rv0 rfl rfl rfl (y_fieldAddr (k := 1) Try.underlying26 rfl (n := 1) (by decide) Try.sizeOf2 rfl) ?_
            first | refine rv0 rfl rfl rfl (y_load ⟨Try.isAgg2, Try.sizeOf2⟩ rfl (by (repeat (first|exact zH _|apply zT));done) rfl) ?_ | refine rv0 rfl rfl rfl (y_load_slc ⟨Try.isAgg2, Try.sizeOf2⟩ rfl (by (repeat (first|exact zH _|apply zT));done) rfl) ?_
            refine rv0 rfl rfl rfl (y_fieldAddr (k := 1) Try.underlying26 rfl (n := 1) (by decide) Try.sizeOf2 rfl) ?_
            first | refine rv0 rfl rfl rfl (y_load ⟨Try.isAgg2, Try.sizeOf2⟩ rfl (by (repeat (first|exact zH _|apply zT));done) rfl) ?_ | refine rv0 rfl rfl rfl (y_load_slc ⟨Try.isAgg2, Try.sizeOf2⟩ rfl (by (repeat (first|exact zH _|apply zT));done) rfl) ?_
            refine rv0 rfl rfl rfl (y_call Try.call70 rfl (radd_q _ _ (by first | assumption | decide) (by first | assumption | decide)) (by (repeat (first|exact zN _|(apply zS;focus (repeat (first|exact zH _|apply zT))))))) ?_
            obtain ⟨n24, o24, h24, hr24⟩ := addP_split (a.n + b.n)
            refine rj_eq 78 rfl (v' := tupOf [.int .i64 n24, .bool o24]) h24 ?_
            refine rv0 rfl rfl rfl (y_move rfl) ?_
            refine rv0 rfl rfl rfl (y_extract rfl rfl) ?_
            refine rv0 rfl rfl rfl (y_extract rfl rfl) ?_
            refine rv0 rfl rfl rfl (y_assign rfl) ?_
            refine rv0 rfl rfl rfl (y_assign rfl) ?_
            refine rj_nil ?_
            refine ej_join hJ45 ((n24, o24)) (⟨by rw [e, reckV]; exact hr24, by rw [e]; rfl⟩) (eC rfl (eC rfl (eC rfl eN))) rfl (by (repeat (first|exact zR _|(apply zP;focus (repeat (first|exact zH _|apply zT)))|apply zD|exact zA _ _)))
           ·have nadd : ¬ op = .add := by rintro rfl; simp [Op.str] at hc71
            refine cj_seq (fun K44 hK44 => ?_)
            refine cj_region ?_
            refine rv0 rfl rfl rfl (y_seql rfl rfl) ?_
            refine rv0 rfl rfl rfl (y_assign rfl) ?_
            refine rj_nil ?_
            refine hK44 _ _ _ ?_
            refine cj_env (eL 0 rfl (eL 4 rfl (eL 5 rfl (eL 6 rfl (eL 9 rfl (eL 10 rfl (eL 23 rfl (eL 81 rfl eN)))))))) ?_
            refine cj_condt rfl (fun hc81 => ?_) (fun hc81 => ?_)
            ·have e : op = .sub := Op.is hc81 rfl
             refine cj_seq (fun K46 hK46 => ?_)
             refine cj_region ?_
             refine rv0 rfl rfl rfl (y_fieldAddr (k := 1) Try.underlying26 rfl (n := 1) (by decide) Try.sizeOf2 rfl) ?_
             first | refine rv0 rfl rfl rfl (y_load ⟨Try.isAgg2, Try.sizeOf2⟩ rfl (by (repeat (first|exact zH _|apply zT));done) rfl) ?_ | refine rv0 rfl rfl rfl (y_load_slc ⟨Try.isAgg2, Try.sizeOf2⟩ rfl (by (repeat (first|exact zH _|apply zT));done) rfl) ?_
             refine rv0 rfl rfl rfl (y_eql rfl rfl) ?_
             refine rj_nil ?_
             refine hK46 _ _ _ ?_
             refine cj_env (eL 4 rfl (eL 5 rfl (eL 6 rfl (eL 85 rfl eN)))) ?_
             refine cj_condt rfl (fun hc85 => ?_) (fun hc85 => ?_)
             ·have hmin : b.n = -9223372036854775808 := by simpa using hc85
              refine cj_seq (fun K48 hK48 => ?_)
              refine cj_region ?_
              refine rv0 rfl rfl rfl (y_fieldAddr (k := 1) Try.underlying26 rfl (n := 1) (by decide) Try.sizeOf2 rfl) ?_
              first | refine rv0 rfl rfl rfl (y_load ⟨Try.isAgg2, Try.sizeOf2⟩ rfl (by (repeat (first|exact zH _|apply zT));done) rfl) ?_ | refine rv0 rfl rfl rfl (y_load_slc ⟨Try.isAgg2, Try.sizeOf2⟩ rfl (by (repeat (first|exact zH _|apply zT));done) rfl) ?_
              refine rv0 rfl rfl rfl (y_call Try.call70 rfl (radd_q _ _ (by first | assumption | decide) (by first | assumption | decide)) (by (repeat (first|exact zN _|(apply zS;focus (repeat (first|exact zH _|apply zT))))))) ?_
              obtain ⟨n24, o24, h24, hr24⟩ := addP_split (a.n + 9223372036854775807)
              refine rj_eq 89 rfl (v' := tupOf [.int .i64 n24, .bool o24]) h24 ?_
              refine rv0 rfl rfl rfl (y_move rfl) ?_
              refine rv0 rfl rfl rfl (y_extract rfl rfl) ?_
              refine rv0 rfl rfl rfl (y_extract rfl rfl) ?_
              refine rv0 rfl rfl rfl (y_assign rfl) ?_
              refine rv0 rfl rfl rfl (y_assign rfl) ?_
              refine rj_nil ?_
              refine hK48 _ _ _ ?_
              refine cj_env (eL 4 rfl (eL 6 rfl (eL 9 rfl eN))) ?_
              refine cj_seq (fun K49 hK49 => ?_)
              refine cj_region ?_
              refine rv0 rfl rfl rfl (y_fieldAddr (k := 1) Try.underlying26 rfl (n := 1) (by decide) Try.sizeOf2 rfl) ?_
              first | refine rv0 rfl rfl rfl (y_load ⟨Try.isAgg2, Try.sizeOf2⟩ rfl (by (repeat (first|exact zH _|apply zT));done) rfl) ?_ | refine rv0 rfl rfl rfl (y_load_slc ⟨Try.isAgg2, Try.sizeOf2⟩ rfl (by (repeat (first|exact zH _|apply zT));done) rfl) ?_
              refine rv0 rfl rfl rfl (y_geq rfl rfl) ?_
              refine rj_nil ?_
              refine hK49 _ _ _ ?_
              refine cj_env (eL 6 rfl (eL 9 rfl (eL 94 rfl eN))) ?_
              refine cj_condt rfl (fun hc94 => ?_) (fun hc94 => ?_)
              ·have ha0 : 0 ≤ a.n := by simpa using hc94
               refine cj_region ?_
               refine rv0 rfl rfl rfl (y_assign rfl) ?_
               refine rj_nil ?_
               refine ej_join hJ45 ((n24, false)) (⟨by rw [e, reckV, hmin]; unfold num64; rw [if_neg (by unfold inI; omega)]; rfl, by rw [e]; rfl⟩) (eC rfl (eC rfl (eC rfl eN))) rfl (by (repeat (first|exact zR _|(apply zP;focus (repeat (first|exact zH _|apply zT)))|apply zD|exact zA _ _)))
              ·have ha0 : a.n < 0 := by (try simp at hc94); omega
               obtain ⟨rfl, hin24, rfl⟩ : o24 = true ∧ inI (a.n + 9223372036854775807) ∧ n24 = a.n + 9223372036854775807 := (num64_cases hr24).resolve_right (fun h => h.2 (by unfold inI at *; omega))
               refine cj_region ?_
               refine rv0 rfl rfl rfl (y_move rfl) ?_
               refine rv0 rfl rfl rfl ((y_add64 rfl rfl (by unfold inI at *; omega))) ?_
               refine rv0 rfl rfl rfl (y_assign rfl) ?_
               refine rv0 rfl rfl rfl (y_assign rfl) ?_
               refine rj_nil ?_
               refine ej_join hJ45 ((a.n + 9223372036854775807 + 1, true)) (⟨by rw [e, reckV, hmin]; unfold num64; rw [if_pos (by unfold inI at *; omega)]; simp; omega, by rw [e]; rfl⟩) (eC rfl (eC rfl (eC rfl eN))) rfl (by (repeat (first|exact zR _|(apply zP;focus (repeat (first|exact zH _|apply zT)))|apply zD|exact zA _ _)))
             ·have hmin : ¬ b.n = -9223372036854775808 := by simpa using hc85
              have hnb : inI (-b.n) := by unfold inI at *; omega
              refine cj_region ?_
              refine rv0 rfl rfl rfl (y_fieldAddr (k := 1) Try.underlying26 rfl (n := 1) (by decide) Try.sizeOf2 rfl) ?_
              first | refine rv0 rfl rfl rfl (y_load ⟨Try.isAgg2, Try.sizeOf2⟩ rfl (by (repeat (first|exact zH _|apply zT));done) rfl) ?_ | refine rv0 rfl rfl rfl (y_load_slc ⟨Try.isAgg2, Try.sizeOf2⟩ rfl (by (repeat (first|exact zH _|apply zT));done) rfl) ?_
              refine rv0 rfl rfl rfl (y_fieldAddr (k := 1) Try.underlying26 rfl (n := 1) (by decide) Try.sizeOf2 rfl) ?_
              first | refine rv0 rfl rfl rfl (y_load ⟨Try.isAgg2, Try.sizeOf2⟩ rfl (by (repeat (first|exact zH _|apply zT));done) rfl) ?_ | refine rv0 rfl rfl rfl (y_load_slc ⟨Try.isAgg2, Try.sizeOf2⟩ rfl (by (repeat (first|exact zH _|apply zT));done) rfl) ?_
              refine rv0 rfl rfl rfl (((y_neg rfl).to (by rw [wrap_i64_in hnb]))) ?_
              refine rv0 rfl rfl rfl (y_call Try.call70 rfl (radd_q _ _ (by first | assumption | decide) (by first | assumption | decide)) (by (repeat (first|exact zN _|(apply zS;focus (repeat (first|exact zH _|apply zT))))))) ?_
              obtain ⟨n24, o24, h24, hr24⟩ := addP_split (a.n + -b.n)
              refine rj_eq 103 rfl (v' := tupOf [.int .i64 n24, .bool o24]) h24 ?_
              refine rv0 rfl rfl rfl (y_move rfl) ?_
              refine rv0 rfl rfl rfl (y_extract rfl rfl) ?_
              refine rv0 rfl rfl rfl (y_extract rfl rfl) ?_
              refine rv0 rfl rfl rfl (y_assign rfl) ?_
              refine rv0 rfl rfl rfl (y_assign rfl) ?_
              refine rj_nil ?_
              refine ej_join hJ45 ((n24, o24)) (⟨by rw [e, reckV, Int.sub_eq_add_neg]; exact hr24, by rw [e]; rfl⟩) (eC rfl (eC rfl (eC rfl eN))) rfl (by (repeat (first|exact zR _|(apply zP;focus (repeat (first|exact zH _|apply zT)))|apply zD|exact zA _ _)))
            ·have nsub : ¬ op = .sub := by rintro rfl; simp [Op.str] at hc81
             refine cj_seq (fun K51 hK51 => ?_)
             refine cj_region ?_
             refine rv0 rfl rfl rfl (y_seql rfl rfl) ?_
             refine rv0 rfl rfl rfl (y_assign rfl) ?_
             refine rj_nil ?_
             refine hK51 _ _ _ ?_
             refine cj_condt rfl (fun hc106 => ?_) (fun hc106 => ?_)
             ·have e : op = .mul := Op.is hc106 rfl
              refine cj_region ?_
              refine rv0 rfl rfl rfl (y_fieldAddr (k := 1) Try.underlying26 rfl (n := 1) (by decide) Try.sizeOf2 rfl) ?_
              first | refine rv0 rfl rfl rfl (y_load ⟨Try.isAgg2, Try.sizeOf2⟩ rfl (by (repeat (first|exact zH _|apply zT));done) rfl) ?_ | refine rv0 rfl rfl rfl (y_load_slc ⟨Try.isAgg2, Try.sizeOf2⟩ rfl (by (repeat (first|exact zH _|apply zT));done) rfl) ?_
              refine rv0 rfl rfl rfl (y_fieldAddr (k := 1) Try.underlying26 rfl (n := 1) (by decide) Try.sizeOf2 rfl) ?_
              first | refine rv0 rfl rfl rfl (y_load ⟨Try.isAgg2, Try.sizeOf2⟩ rfl (by (repeat (first|exact zH _|apply zT));done) rfl) ?_ | refine rv0 rfl rfl rfl (y_load_slc ⟨Try.isAgg2, Try.sizeOf2⟩ rfl (by (repeat (first|exact zH _|apply zT));done) rfl) ?_
              refine rv0 rfl rfl rfl (y_call Try.call83 rfl (rtimes_q _ _ (by first | assumption | decide) (by first | assumption | decide)) (by (repeat (first|exact zN _|(apply zS;focus (repeat (first|exact zH _|apply zT))))))) ?_
              obtain ⟨n24, o24, h24, hr24⟩ := addP_split (a.n * b.n)
              refine rj_eq 113 rfl (v' := tupOf [.int .i64 n24, .bool o24]) h24 ?_
              refine rv0 rfl rfl rfl (y_move rfl) ?_
              refine rv0 rfl rfl rfl (y_extract rfl rfl) ?_
              refine rv0 rfl rfl rfl (y_extract rfl rfl) ?_
              refine rv0 rfl rfl rfl (y_assign rfl) ?_
              refine rv0 rfl rfl rfl (y_assign rfl) ?_
              refine rj_nil ?_
              refine ej_join hJ45 ((n24, o24)) (⟨by rw [e, reckV]; exact hr24, by rw [e]; rfl⟩) (eC rfl (eC rfl (eC rfl eN))) rfl (by (repeat (first|exact zR _|(apply zP;focus (repeat (first|exact zH _|apply zT)))|apply zD|exact zA _ _)))
             ·have nmul : ¬ op = .mul := by rintro rfl; simp [Op.str] at hc106
              refine cj_seq (fun K53 hK53 => ?_)
              refine cj_seq (fun K54 hK54 => ?_)
              refine cj_region ?_
              refine rv0 rfl rfl rfl (y_seql rfl rfl) ?_
              refine rv0 rfl rfl rfl (y_assign rfl) ?_
              refine rj_nil ?_
              refine hK54 _ _ _ ?_
              refine cj_env (eL 0 rfl (eL 4 rfl (eL 5 rfl (eL 6 rfl (eL 9 rfl (eL 10 rfl (eL 23 rfl (eL 116 rfl eN)))))))) ?_
              refine cj_condt rfl (fun hc116 => ?_) (fun hc116 => ?_)
              ·first | (have e : op = .div := Op.is hc116 rfl) | (have e : op = .rem := Op.is hc116 rfl)
               refine cj_skip ?_
               refine hK53 _ _ _ ?_
               refine cj_cond_t rfl ?_
               refine cj_seq (fun K56 hK56 => ?_)
               refine cj_seq (fun K57 hK57 => ?_)
               refine cj_region ?_
               refine rv0 rfl rfl rfl (y_fieldAddr (k := 1) Try.underlying26 rfl (n := 1) (by decide) Try.sizeOf2 rfl) ?_
               first | refine rv0 rfl rfl rfl (y_load ⟨Try.isAgg2, Try.sizeOf2⟩ rfl (by (repeat (first|exact zH _|apply zT));done) rfl) ?_ | refine rv0 rfl rfl rfl (y_load_slc ⟨Try.isAgg2, Try.sizeOf2⟩ rfl (by (repeat (first|exact zH _|apply zT));done) rfl) ?_
               refine rv0 rfl rfl rfl (y_eql rfl rfl) ?_
               refine rj_nil ?_
               refine hK57 _ _ _ ?_
               refine cj_env (eL 0 rfl (eL 4 rfl (eL 5 rfl (eL 6 rfl (eL 10 rfl (eL 121 rfl eN)))))) ?_
               refine cj_condt rfl (fun hc121 => ?_) (fun hc121 => ?_)
               ·have hb0 : b.n = 0 := by simpa using hc121
                refine cj_seq (fun K59 hK59 => ?_)
                refine cj_region ?_
                refine rv0 rfl rfl rfl (y_build (cells := [_, _, _]) [(0, 1), (1, 1), (2, 1)] Try.underlying26 Try.zeroValue26 (fun _ => rfl) rfl rfl) ?_
                refine rj_stores_all (vs := valC (Vl.zero)) ⟨Try.isAgg26, Try.sizeOf26⟩ rfl (wn0 rfl) rfl rfl (valE.one (R := R) (x := Vl.zero) rfl) (by (repeat (first|exact zH _|apply zT));done) rfl ?_
                refine rv0 rfl rfl rfl (y_assign rfl) ?_
                refine rj_nil ?_
                refine hK59 _ _ _ ?_
                refine cj_env (eL 6 rfl (eL 7 rfl eN)) ?_
                refine cj_ret ?_
                refine hret _ _ _ ?_
                apply ej_ret Try.results73 (.cons (rv_cells ⟨Try.isAgg26, Try.sizeOf26⟩ rfl (by (repeat (first|exact zH _|apply zT));done) rfl rfl) (.cons (rv_tmp rfl) .nil)) _ [] (by (first | exact Hp.le_refl _ | assumption | exact Hp.le_trans ‹_› ‹_›)) rfl
                case hp => refine ⟨?_, rfl⟩; unfold signV; first | (rw [if_neg hnn, e, if_neg (by decide), if_pos rfl, if_neg h200]; rfl) | (rw [if_neg hnn, e, if_neg (by decide), if_pos rfl, if_pos h200]; rfl) | (rw [if_neg hnn, e, if_neg (by decide), if_neg (by decide), hb0]; rfl) | (exact absurd (e.symm.trans e2) (by decide)) | (rw [if_neg hnn, e, if_neg (by decide), if_neg (by decide), hb1, reckV_rem (by decide), Int.tmod_neg, Int.tmod_one]; rfl) | (rw [if_neg hnn, e]; rfl)
                case hS => (repeat (first|exact zR _|(apply zP;focus (repeat (first|exact zH _|apply zT)))|apply zD|exact zA _ _))
               ·have hb0 : ¬ b.n = 0 := by simpa using hc121
                refine cj_skip ?_
                refine hK56 _ _ _ ?_
                refine cj_seq (fun K60 hK60 => ?_)
                refine cj_region ?_
                refine rv0 rfl rfl rfl (y_fieldAddr (k := 1) Try.underlying26 rfl (n := 1) (by decide) Try.sizeOf2 rfl) ?_
                first | refine rv0 rfl rfl rfl (y_load ⟨Try.isAgg2, Try.sizeOf2⟩ rfl (by (repeat (first|exact zH _|apply zT));done) rfl) ?_ | refine rv0 rfl rfl rfl (y_load_slc ⟨Try.isAgg2, Try.sizeOf2⟩ rfl (by (repeat (first|exact zH _|apply zT));done) rfl) ?_
                refine rv0 rfl rfl rfl (y_eql rfl rfl) ?_
                refine rj_nil ?_
                refine hK60 _ _ _ ?_
                refine cj_env (eL 0 rfl (eL 4 rfl (eL 5 rfl (eL 6 rfl (eL 10 rfl (eL 125 rfl eN)))))) ?_
                refine cj_condt rfl (fun hc125 => ?_) (fun hc125 => ?_)
                ·have hb1 : b.n = -1 := by simpa using hc125
                 refine cj_seq (fun K62 hK62 => ?_)
                 refine cj_seq (fun K63 hK63 => ?_)
                 refine cj_region ?_
                 refine rv0 rfl rfl rfl (y_move rfl) ?_
                 refine rv0 rfl rfl rfl (y_seql rfl rfl) ?_
                 refine rj_nil ?_
                 refine hK63 _ _ _ ?_
                 refine cj_env (eL 4 rfl (eL 6 rfl (eL 127 rfl eN))) ?_
                 refine cj_condt rfl (fun hc127 => ?_) (fun hc127 => ?_)
                 ·have e2 : op = .rem := Op.is hc127 rfl
                  refine cj_seq (fun K65 hK65 => ?_)
                  refine cj_region ?_
                  refine rv0 rfl rfl rfl (y_call Try.call69 rfl (rnumber_q _) (by (repeat (first|exact zN _|(apply zS;focus (repeat (first|exact zH _|apply zT))))))) ?_
                  refine rj_stores_all (vs := valC (⟨1, 0, []⟩)) ⟨Try.isAgg26, Try.sizeOf26⟩ rfl (wn0 rfl) rfl rfl (valE.one (R := R) (x := ⟨1, 0, []⟩) rfl) (by (repeat (first|exact zH _|apply zT));done) rfl ?_
                  refine rv0 rfl rfl rfl (y_assign rfl) ?_
                  refine rj_nil ?_
                  refine hK65 _ _ _ ?_
                  refine cj_env (eL 6 rfl (eL 7 rfl eN)) ?_
                  refine cj_ret ?_
                  refine hret _ _ _ ?_
                  apply ej_ret Try.results73 (.cons (rv_cells ⟨Try.isAgg26, Try.sizeOf26⟩ rfl (by (repeat (first|exact zH _|apply zT));done) rfl rfl) (.cons (rv_tmp rfl) .nil)) _ [] (by (first | exact Hp.le_refl _ | assumption | exact Hp.le_trans ‹_› ‹_›)) rfl
                  case hp => refine ⟨?_, rfl⟩; unfold signV; first | (rw [if_neg hnn, e, if_neg (by decide), if_pos rfl, if_neg h200]; rfl) | (rw [if_neg hnn, e, if_neg (by decide), if_pos rfl, if_pos h200]; rfl) | (rw [if_neg hnn, e, if_neg (by decide), if_neg (by decide), hb0]; rfl) | (exact absurd (e.symm.trans e2) (by decide)) | (rw [if_neg hnn, e, if_neg (by decide), if_neg (by decide), hb1, reckV_rem (by decide), Int.tmod_neg, Int.tmod_one]; rfl) | (rw [if_neg hnn, e]; rfl)
                  case hS => (repeat (first|exact zR _|(apply zP;focus (repeat (first|exact zH _|apply zT)))|apply zD|exact zA _ _))
                 ·have e2 : ¬ op = .rem := by rintro rfl; simp [Op.str] at hc127
                  refine cj_skip ?_
                  refine hK62 _ _ _ ?_
                  refine cj_region ?_
                  refine rv0 rfl rfl rfl (y_fieldAddr (k := 1) Try.underlying26 rfl (n := 1) (by decide) Try.sizeOf2 rfl) ?_
                  first | refine rv0 rfl rfl rfl (y_load ⟨Try.isAgg2, Try.sizeOf2⟩ rfl (by (repeat (first|exact zH _|apply zT));done) rfl) ?_ | refine rv0 rfl rfl rfl (y_load_slc ⟨Try.isAgg2, Try.sizeOf2⟩ rfl (by (repeat (first|exact zH _|apply zT));done) rfl) ?_
                  refine rv0 rfl rfl rfl (y_call Try.call83 rfl (rtimes_q _ _ (by first | assumption | decide) (by first | assumption | decide)) (by (repeat (first|exact zN _|(apply zS;focus (repeat (first|exact zH _|apply zT))))))) ?_
                  obtain ⟨n24, o24, h24, hr24⟩ := addP_split (a.n * -1)
                  refine rj_eq 132 rfl (v' := tupOf [.int .i64 n24, .bool o24]) h24 ?_
                  refine rv0 rfl rfl rfl (y_move rfl) ?_
                  refine rv0 rfl rfl rfl (y_extract rfl rfl) ?_
                  refine rv0 rfl rfl rfl (y_extract rfl rfl) ?_
                  refine rv0 rfl rfl rfl (y_assign rfl) ?_
                  refine rv0 rfl rfl rfl (y_assign rfl) ?_
                  refine rj_nil ?_
                  refine ej_join hJ45 ((n24, o24)) (⟨by first|(rw [e, hb1, show reckV .div a.n (-1) = num64 (a.n * -1) by simp only [reckV]; rw [if_neg (by decide), Int.tdiv_neg, Int.tdiv_one, Int.mul_neg, Int.mul_one]]; exact hr24)|exact absurd e e2, by rw [e]; rfl⟩) (eC rfl (eC rfl (eC rfl eN))) rfl (by (repeat (first|exact zR _|(apply zP;focus (repeat (first|exact zH _|apply zT)))|apply zD|exact zA _ _)))
                ·have hb1 : ¬ b.n = -1 := by simpa using hc125
                 refine cj_seq (fun K66 hK66 => ?_)
                 refine cj_region ?_
                 refine rv0 rfl rfl rfl (y_move rfl) ?_
                 refine rv0 rfl rfl rfl (y_seql rfl rfl) ?_
                 refine rj_nil ?_
                 refine hK66 _ _ _ ?_
                 refine cj_env (eL 4 rfl (eL 5 rfl (eL 6 rfl (eL 10 rfl (eL 136 rfl eN))))) ?_
                 refine cj_condt rfl (fun hc136 => ?_) (fun hc136 => ?_)
                 ·have e3 : op = .div := Op.is hc136 rfl
                  refine cj_region ?_
                  refine rv0 rfl rfl rfl (y_fieldAddr (k := 1) Try.underlying26 rfl (n := 1) (by decide) Try.sizeOf2 rfl) ?_
                  first | refine rv0 rfl rfl rfl (y_load ⟨Try.isAgg2, Try.sizeOf2⟩ rfl (by (repeat (first|exact zH _|apply zT));done) rfl) ?_ | refine rv0 rfl rfl rfl (y_load_slc ⟨Try.isAgg2, Try.sizeOf2⟩ rfl (by (repeat (first|exact zH _|apply zT));done) rfl) ?_
                  refine rv0 rfl rfl rfl (y_fieldAddr (k := 1) Try.underlying26 rfl (n := 1) (by decide) Try.sizeOf2 rfl) ?_
                  first | refine rv0 rfl rfl rfl (y_load ⟨Try.isAgg2, Try.sizeOf2⟩ rfl (by (repeat (first|exact zH _|apply zT));done) rfl) ?_ | refine rv0 rfl rfl rfl (y_load_slc ⟨Try.isAgg2, Try.sizeOf2⟩ rfl (by (repeat (first|exact zH _|apply zT));done) rfl) ?_
                  refine rv0 rfl rfl rfl ((y_quo rfl rfl hb0)) ?_
                  refine rv0 rfl rfl rfl (y_assign rfl) ?_
                  refine rj_nil ?_
                  refine ej_join hJ45 ((IntKind.i64.wrap (a.n.tdiv b.n), true)) (⟨by first|(have hin := (quo_in hai hb0).2 (fun h => hb1 h.2); rw [e, reckV_div (by decide) (by decide) (by decide) (by decide) hb0]; unfold num64; rw [if_pos hin, wrap_i64_in hin]; rfl)|exact absurd (e.symm.trans e3) (by decide), by rw [e]; rfl⟩) (eC rfl (eC rfl (eC rfl eN))) rfl (by (repeat (first|exact zR _|(apply zP;focus (repeat (first|exact zH _|apply zT)))|apply zD|exact zA _ _)))
                 ·have e3 : ¬ op = .div := by rintro rfl; simp [Op.str] at hc136
                  refine cj_region ?_
                  refine rv0 rfl rfl rfl (y_fieldAddr (k := 1) Try.underlying26 rfl (n := 1) (by decide) Try.sizeOf2 rfl) ?_
                  first | refine rv0 rfl rfl rfl (y_load ⟨Try.isAgg2, Try.sizeOf2⟩ rfl (by (repeat (first|exact zH _|apply zT));done) rfl) ?_ | refine rv0 rfl rfl rfl (y_load_slc ⟨Try.isAgg2, Try.sizeOf2⟩ rfl (by (repeat (first|exact zH _|apply zT));done) rfl) ?_
                  refine rv0 rfl rfl rfl (y_fieldAddr (k := 1) Try.underlying26 rfl (n := 1) (by decide) Try.sizeOf2 rfl) ?_
                  first | refine rv0 rfl rfl rfl (y_load ⟨Try.isAgg2, Try.sizeOf2⟩ rfl (by (repeat (first|exact zH _|apply zT));done) rfl) ?_ | refine rv0 rfl rfl rfl (y_load_slc ⟨Try.isAgg2, Try.sizeOf2⟩ rfl (by (repeat (first|exact zH _|apply zT));done) rfl) ?_
                  refine rv0 rfl rfl rfl ((y_rem rfl rfl hb0)) ?_
                  refine rv0 rfl rfl rfl (y_assign rfl) ?_
                  refine rj_nil ?_
                  refine ej_join hJ45 ((a.n.tmod b.n, true)) (⟨by first|exact absurd e e3|(rw [e, reckV_rem hb0]; rfl), by rw [e]; rfl⟩) (eC rfl (eC rfl (eC rfl eN))) rfl (by (repeat (first|exact zR _|(apply zP;focus (repeat (first|exact zH _|apply zT)))|apply zD|exact zA _ _)))
              ·first | (have ndiv : ¬ op = .div := by rintro rfl; simp [Op.str] at hc116; done) | (have nrem : ¬ op = .rem := by rintro rfl; simp [Op.str] at hc116; done)
               refine cj_region ?_
               refine rv0 rfl rfl rfl (y_seql rfl rfl) ?_
               refine rv0 rfl rfl rfl (y_assign rfl) ?_
               refine rj_nil ?_
               refine hK53 _ _ _ ?_
               refine cj_condt rfl (fun hc116 => ?_) (fun hc116 => ?_)
               ·first | (have e : op = .div := Op.is hc116 rfl) | (have e : op = .rem := Op.is hc116 rfl)
                refine cj_seq (fun K69 hK69 => ?_)
                refine cj_seq (fun K70 hK70 => ?_)
                refine cj_region ?_
                refine rv0 rfl rfl rfl (y_fieldAddr (k := 1) Try.underlying26 rfl (n := 1) (by decide) Try.sizeOf2 rfl) ?_
                first | refine rv0 rfl rfl rfl (y_load ⟨Try.isAgg2, Try.sizeOf2⟩ rfl (by (repeat (first|exact zH _|apply zT));done) rfl) ?_ | refine rv0 rfl rfl rfl (y_load_slc ⟨Try.isAgg2, Try.sizeOf2⟩ rfl (by (repeat (first|exact zH _|apply zT));done) rfl) ?_
                refine rv0 rfl rfl rfl (y_eql rfl rfl) ?_
                refine rj_nil ?_
                refine hK70 _ _ _ ?_
                refine cj_env (eL 0 rfl (eL 4 rfl (eL 5 rfl (eL 6 rfl (eL 10 rfl (eL 121 rfl eN)))))) ?_
                refine cj_condt rfl (fun hc121 => ?_) (fun hc121 => ?_)
                ·have hb0 : b.n = 0 := by simpa using hc121
                 refine cj_seq (fun K72 hK72 => ?_)
                 refine cj_region ?_
                 refine rv0 rfl rfl rfl (y_build (cells := [_, _, _]) [(0, 1), (1, 1), (2, 1)] Try.underlying26 Try.zeroValue26 (fun _ => rfl) rfl rfl) ?_
                 refine rj_stores_all (vs := valC (Vl.zero)) ⟨Try.isAgg26, Try.sizeOf26⟩ rfl (wn0 rfl) rfl rfl (valE.one (R := R) (x := Vl.zero) rfl) (by (repeat (first|exact zH _|apply zT));done) rfl ?_
                 refine rv0 rfl rfl rfl (y_assign rfl) ?_
                 refine rj_nil ?_
                 refine hK72 _ _ _ ?_
                 refine cj_env (eL 6 rfl (eL 7 rfl eN)) ?_
                 refine cj_ret ?_
                 refine hret _ _ _ ?_
                 apply ej_ret Try.results73 (.cons (rv_cells ⟨Try.isAgg26, Try.sizeOf26⟩ rfl (by (repeat (first|exact zH _|apply zT));done) rfl rfl) (.cons (rv_tmp rfl) .nil)) _ [] (by (first | exact Hp.le_refl _ | assumption | exact Hp.le_trans ‹_› ‹_›)) rfl
                 case hp => refine ⟨?_, rfl⟩; unfold signV; first | (rw [if_neg hnn, e, if_neg (by decide), if_pos rfl, if_neg h200]; rfl) | (rw [if_neg hnn, e, if_neg (by decide), if_pos rfl, if_pos h200]; rfl) | (rw [if_neg hnn, e, if_neg (by decide), if_neg (by decide), hb0]; rfl) | (exact absurd (e.symm.trans e2) (by decide)) | (rw [if_neg hnn, e, if_neg (by decide), if_neg (by decide), hb1, reckV_rem (by decide), Int.tmod_neg, Int.tmod_one]; rfl) | (rw [if_neg hnn, e]; rfl)
                 case hS => (repeat (first|exact zR _|(apply zP;focus (repeat (first|exact zH _|apply zT)))|apply zD|exact zA _ _))
                ·have hb0 : ¬ b.n = 0 := by simpa using hc121
                 refine cj_skip ?_
                 refine hK69 _ _ _ ?_
                 refine cj_seq (fun K73 hK73 => ?_)
                 refine cj_region ?_
                 refine rv0 rfl rfl rfl (y_fieldAddr (k := 1) Try.underlying26 rfl (n := 1) (by decide) Try.sizeOf2 rfl) ?_
                 first | refine rv0 rfl rfl rfl (y_load ⟨Try.isAgg2, Try.sizeOf2⟩ rfl (by (repeat (first|exact zH _|apply zT));done) rfl) ?_ | refine rv0 rfl rfl rfl (y_load_slc ⟨Try.isAgg2, Try.sizeOf2⟩ rfl (by (repeat (first|exact zH _|apply zT));done) rfl) ?_
                 refine rv0 rfl rfl rfl (y_eql rfl rfl) ?_
                 refine rj_nil ?_
                 refine hK73 _ _ _ ?_
                 refine cj_env (eL 0 rfl (eL 4 rfl (eL 5 rfl (eL 6 rfl (eL 10 rfl (eL 125 rfl eN)))))) ?_
                 refine cj_condt rfl (fun hc125 => ?_) (fun hc125 => ?_)
                 ·have hb1 : b.n = -1 := by simpa using hc125
                  refine cj_seq (fun K75 hK75 => ?_)
                  refine cj_seq (fun K76 hK76 => ?_)
                  refine cj_region ?_
                  refine rv0 rfl rfl rfl (y_move rfl) ?_
                  refine rv0 rfl rfl rfl (y_seql rfl rfl) ?_
                  refine rj_nil ?_
                  refine hK76 _ _ _ ?_
                  refine cj_env (eL 4 rfl (eL 6 rfl (eL 127 rfl eN))) ?_
                  refine cj_condt rfl (fun hc127 => ?_) (fun hc127 => ?_)
                  ·have e2 : op = .rem := Op.is hc127 rfl
                   refine cj_seq (fun K78 hK78 => ?_)
                   refine cj_region ?_
                   refine rv0 rfl rfl rfl (y_call Try.call69 rfl (rnumber_q _) (by (repeat (first|exact zN _|(apply zS;focus (repeat (first|exact zH _|apply zT))))))) ?_
                   refine rj_stores_all (vs := valC (⟨1, 0, []⟩)) ⟨Try.isAgg26, Try.sizeOf26⟩ rfl (wn0 rfl) rfl rfl (valE.one (R := R) (x := ⟨1, 0, []⟩) rfl) (by (repeat (first|exact zH _|apply zT));done) rfl ?_
                   refine rv0 rfl rfl rfl (y_assign rfl) ?_
                   refine rj_nil ?_
                   refine hK78 _ _ _ ?_
                   refine cj_env (eL 6 rfl (eL 7 rfl eN)) ?_
                   refine cj_ret ?_
                   refine hret _ _ _ ?_
                   apply ej_ret Try.results73 (.cons (rv_cells ⟨Try.isAgg26, Try.sizeOf26⟩ rfl (by (repeat (first|exact zH _|apply zT));done) rfl rfl) (.cons (rv_tmp rfl) .nil)) _ [] (by (first | exact Hp.le_refl _ | assumption | exact Hp.le_trans ‹_› ‹_›)) rfl
                   case hp => refine ⟨?_, rfl⟩; unfold signV; first | (rw [if_neg hnn, e, if_neg (by decide), if_pos rfl, if_neg h200]; rfl) | (rw [if_neg hnn, e, if_neg (by decide), if_pos rfl, if_pos h200]; rfl) | (rw [if_neg hnn, e, if_neg (by decide), if_neg (by decide), hb0]; rfl) | (exact absurd (e.symm.trans e2) (by decide)) | (rw [if_neg hnn, e, if_neg (by decide), if_neg (by decide), hb1, reckV_rem (by decide), Int.tmod_neg, Int.tmod_one]; rfl) | (rw [if_neg hnn, e]; rfl)
                   case hS => (repeat (first|exact zR _|(apply zP;focus (repeat (first|exact zH _|apply zT)))|apply zD|exact zA _ _))
                  ·have e2 : ¬ op = .rem := by rintro rfl; simp [Op.str] at hc127
                   refine cj_skip ?_
                   refine hK75 _ _ _ ?_
                   refine cj_region ?_
                   refine rv0 rfl rfl rfl (y_fieldAddr (k := 1) Try.underlying26 rfl (n := 1) (by decide) Try.sizeOf2 rfl) ?_
                   first | refine rv0 rfl rfl rfl (y_load ⟨Try.isAgg2, Try.sizeOf2⟩ rfl (by (repeat (first|exact zH _|apply zT));done) rfl) ?_ | refine rv0 rfl rfl rfl (y_load_slc ⟨Try.isAgg2, Try.sizeOf2⟩ rfl (by (repeat (first|exact zH _|apply zT));done) rfl) ?_
                   refine rv0 rfl rfl rfl (y_call Try.call83 rfl (rtimes_q _ _ (by first | assumption | decide) (by first | assumption | decide)) (by (repeat (first|exact zN _|(apply zS;focus (repeat (first|exact zH _|apply zT))))))) ?_
                   obtain ⟨n24, o24, h24, hr24⟩ := addP_split (a.n * -1)
                   refine rj_eq 132 rfl (v' := tupOf [.int .i64 n24, .bool o24]) h24 ?_
                   refine rv0 rfl rfl rfl (y_move rfl) ?_
                   refine rv0 rfl rfl rfl (y_extract rfl rfl) ?_
                   refine rv0 rfl rfl rfl (y_extract rfl rfl) ?_
                   refine rv0 rfl rfl rfl (y_assign rfl) ?_
                   refine rv0 rfl rfl rfl (y_assign rfl) ?_
                   refine rj_nil ?_
                   refine ej_join hJ45 ((n24, o24)) (⟨by first|(rw [e, hb1, show reckV .div a.n (-1) = num64 (a.n * -1) by simp only [reckV]; rw [if_neg (by decide), Int.tdiv_neg, Int.tdiv_one, Int.mul_neg, Int.mul_one]]; exact hr24)|exact absurd e e2, by rw [e]; rfl⟩) (eC rfl (eC rfl (eC rfl eN))) rfl (by (repeat (first|exact zR _|(apply zP;focus (repeat (first|exact zH _|apply zT)))|apply zD|exact zA _ _)))
                 ·have hb1 : ¬ b.n = -1 := by simpa using hc125
                  refine cj_seq (fun K79 hK79 => ?_)
                  refine cj_region ?_
                  refine rv0 rfl rfl rfl (y_move rfl) ?_
                  refine rv0 rfl rfl rfl (y_seql rfl rfl) ?_
                  refine rj_nil ?_
                  refine hK79 _ _ _ ?_
                  refine cj_env (eL 4 rfl (eL 5 rfl (eL 6 rfl (eL 10 rfl (eL 136 rfl eN))))) ?_
                  refine cj_condt rfl (fun hc136 => ?_) (fun hc136 => ?_)
                  ·have e3 : op = .div := Op.is hc136 rfl
                   refine cj_region ?_
                   refine rv0 rfl rfl rfl (y_fieldAddr (k := 1) Try.underlying26 rfl (n := 1) (by decide) Try.sizeOf2 rfl) ?_
                   first | refine rv0 rfl rfl rfl (y_load ⟨Try.isAgg2, Try.sizeOf2⟩ rfl (by (repeat (first|exact zH _|apply zT));done) rfl) ?_ | refine rv0 rfl rfl rfl (y_load_slc ⟨Try.isAgg2, Try.sizeOf2⟩ rfl (by (repeat (first|exact zH _|apply zT));done) rfl) ?_
                   refine rv0 rfl rfl rfl (y_fieldAddr (k := 1) Try.underlying26 rfl (n := 1) (by decide) Try.sizeOf2 rfl) ?_
                   first | refine rv0 rfl rfl rfl (y_load ⟨Try.isAgg2, Try.sizeOf2⟩ rfl (by (repeat (first|exact zH _|apply zT));done) rfl) ?_ | refine rv0 rfl rfl rfl (y_load_slc ⟨Try.isAgg2, Try.sizeOf2⟩ rfl (by (repeat (first|exact zH _|apply zT));done) rfl) ?_
                   refine rv0 rfl rfl rfl ((y_quo rfl rfl hb0)) ?_
                   refine rv0 rfl rfl rfl (y_assign rfl) ?_
                   refine rj_nil ?_
                   refine ej_join hJ45 ((IntKind.i64.wrap (a.n.tdiv b.n), true)) (⟨by first|(have hin := (quo_in hai hb0).2 (fun h => hb1 h.2); rw [e, reckV_div (by decide) (by decide) (by decide) (by decide) hb0]; unfold num64; rw [if_pos hin, wrap_i64_in hin]; rfl)|exact absurd (e.symm.trans e3) (by decide), by rw [e]; rfl⟩) (eC rfl (eC rfl (eC rfl eN))) rfl (by (repeat (first|exact zR _|(apply zP;focus (repeat (first|exact zH _|apply zT)))|apply zD|exact zA _ _)))
                  ·have e3 : ¬ op = .div := by rintro rfl; simp [Op.str] at hc136
                   refine cj_region ?_
                   refine rv0 rfl rfl rfl (y_fieldAddr (k := 1) Try.underlying26 rfl (n := 1) (by decide) Try.sizeOf2 rfl) ?_
                   first | refine rv0 rfl rfl rfl (y_load ⟨Try.isAgg2, Try.sizeOf2⟩ rfl (by (repeat (first|exact zH _|apply zT));done) rfl) ?_ | refine rv0 rfl rfl rfl (y_load_slc ⟨Try.isAgg2, Try.sizeOf2⟩ rfl (by (repeat (first|exact zH _|apply zT));done) rfl) ?_
                   refine rv0 rfl rfl rfl (y_fieldAddr (k := 1) Try.underlying26 rfl (n := 1) (by decide) Try.sizeOf2 rfl) ?_
                   first | refine rv0 rfl rfl rfl (y_load ⟨Try.isAgg2, Try.sizeOf2⟩ rfl (by (repeat (first|exact zH _|apply zT));done) rfl) ?_ | refine rv0 rfl rfl rfl (y_load_slc ⟨Try.isAgg2, Try.sizeOf2⟩ rfl (by (repeat (first|exact zH _|apply zT));done) rfl) ?_
                   refine rv0 rfl rfl rfl ((y_rem rfl rfl hb0)) ?_
                   refine rv0 rfl rfl rfl (y_assign rfl) ?_
                   refine rj_nil ?_
                   refine ej_join hJ45 ((a.n.tmod b.n, true)) (⟨by first|exact absurd e e3|(rw [e, reckV_rem hb0]; rfl), by rw [e]; rfl⟩) (eC rfl (eC rfl (eC rfl eN))) rfl (by (repeat (first|exact zR _|(apply zP;focus (repeat (first|exact zH _|apply zT)))|apply zD|exact zA _ _)))
               ·first | (have ndiv : ¬ op = .div := by rintro rfl; simp [Op.str] at hc116; done) | (have nrem : ¬ op = .rem := by rintro rfl; simp [Op.str] at hc116; done)
                refine cj_skip ?_
                refine ej_join hJ45 ((0, true)) (by exfalso; cases op <;> first|exact absurd rfl neq|exact absurd rfl nne|exact absurd rfl nlt|exact absurd rfl nle|exact absurd rfl ngt|exact absurd rfl nge|exact absurd rfl ncat|exact absurd rfl nadd|exact absurd rfl nsub|exact absurd rfl nmul|exact absurd rfl ndiv|exact absurd rfl nrem|(revert hop; decide)) (eC rfl (eC rfl (eC rfl eN))) rfl (by (repeat (first|exact zR _|(apply zP;focus (repeat (first|exact zH _|apply zT)))|apply zD|exact zA _ _)))
end V
end Go.Proofs.Ytghgifgmacapcaa
