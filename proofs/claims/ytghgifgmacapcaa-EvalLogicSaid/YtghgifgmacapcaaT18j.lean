/- Rows: right ones; what a kid decides alone. -/
import Derived.Test.YtghgifgmacapcaaT18i
set_option linter.unusedSimpArgs false
set_option linter.unusedVariables false
set_option maxRecDepth 100000
namespace Go.Proofs.Ytghgifgmacapcaa
open Go.RowKit
namespace V
set_option maxHeartbeats 4000000
theorem val_eq (a b : Vl) (w : World) : (binOp .eql 26 (.agg ⟨valC a⟩) (.agg ⟨valC b⟩)).run Try.prog w = .ok (.bool (decide (a = b))) w := by
  have u1 := Try.underlying3
  have a1 := Try.isAgg3
  have u2 := Try.underlying9
  have a2 := Try.isAgg9
  have u3 := Try.underlying2
  have a3 := Try.isAgg2
  have hS : Try.prog.underlying 26 = some (.struct (Try.prog.fieldsOf 26)) := by kernel_rfl
  have hp : Try.prog.stoodInHeld 26 = false := by kernel_rfl
  simp only [valC]
  rw [run_eql_struct, show (10000 : Nat) = 9999 + 1 from rfl, run_equalIn_agg w 9999 26 _ _ hS hp]
  simp only [Program.fieldsOf, Try.underlying26]
  go_simp
  obtain ⟨a1, a2, a3⟩ := a
  obtain ⟨b1, b2, b3⟩ := b
  by_cases h1 : a1 = b1 <;> by_cases h2 : a2 = b2 <;> by_cases h3 : a3 = b3 <;> simp [h1, h2, h3]
theorem val_ne (a b : Vl) (w : World) : (binOp .neq 26 (.agg ⟨valC a⟩) (.agg ⟨valC b⟩)).run Try.prog w = .ok (.bool (!decide (a = b))) w := by
  have u1 := Try.underlying3
  have a1 := Try.isAgg3
  have u2 := Try.underlying9
  have a2 := Try.isAgg9
  have u3 := Try.underlying2
  have a3 := Try.isAgg2
  have hS : Try.prog.underlying 26 = some (.struct (Try.prog.fieldsOf 26)) := by kernel_rfl
  have hp : Try.prog.stoodInHeld 26 = false := by kernel_rfl
  simp only [valC]
  rw [run_neq_struct, show (10000 : Nat) = 9999 + 1 from rfl, run_equalIn_agg w 9999 26 _ _ hS hp]
  simp only [Program.fieldsOf, Try.underlying26]
  go_simp
  obtain ⟨a1, a2, a3⟩ := a
  obtain ⟨b1, b2, b3⟩ := b
  by_cases h1 : a1 = b1 <;> by_cases h2 : a2 = b2 <;> by_cases h3 : a3 = b3 <;> simp [h1, h2, h3]
def okV (c : Cl) (v : Vl) : Bool := isV v && (decide (v.kind = 0) || decide (v.kind = c.kind))
theorem is_q {R : Hp} (v : Vl) (hs : v.s.length ≤ maxLen) : QTri Try.prog 23 [.agg ⟨valC v⟩] R [] (.bool (isV v)) := by
  refine Tri.q2 ?_
  unfold valC
  refine tri_of Try.func23 rfl Try.ntmps23 rfl (fun σ F Q hret hend hpan => ?_)
  try simp only [List.cons_append, List.nil_append]
  refine cj_env (eL 0 rfl eN) ?_
  refine cj_seq (fun K1 hK1 => ?_)
  refine cj_region ?_
  refine rj_box (wn0 rfl) rfl rfl rfl (fun b1 => ?_)
  refine rv0 rfl rfl rfl (y_assign rfl) ?_
  refine rj_nil ?_
  refine hK1 _ _ _ ?_
  refine cj_seq (fun K2 hK2 => ?_)
  refine cj_seq (fun K3 hK3 => ?_)
  refine cj_region ?_
  refine rv0 rfl rfl rfl (y_fieldAddr (k := 0) Try.underlying26 rfl (n := 1) (by decide) Try.sizeOf3 rfl) ?_
  first | refine rv0 rfl rfl rfl (y_load ⟨Try.isAgg3, Try.sizeOf3⟩ rfl (by (repeat (first|exact zH _|apply zT));done) rfl) ?_ | refine rv0 rfl rfl rfl (y_load_slc ⟨Try.isAgg3, Try.sizeOf3⟩ rfl (by (repeat (first|exact zH _|apply zT));done) rfl) ?_
  refine rj_nil ?_
  refine hK3 _ _ _ ?_
  refine cj_env (eL 1 rfl (eL 4 rfl eN)) ?_
  refine cj_block ?_
  refine cj_seq (fun K4 hK4 => ?_)
  refine cj_region ?_
  refine rv0 rfl rfl rfl (y_eql rfl rfl) ?_
  refine rv0 rfl rfl rfl (y_assign rfl) ?_
  refine rj_nil ?_
  refine hK4 _ _ _ ?_
  refine cj_cond rfl (fun hc5 => ?_) (fun hc5 => ?_)
  ·try simp only [dT, dF, nT, nF, tF, fT] at hc5
   refine cj_seq (fun K6 hK6 => ?_)
   refine cj_region ?_
   refine rv0 rfl rfl rfl (y_fieldAddr (k := 1) Try.underlying26 rfl (n := 1) (by decide) Try.sizeOf2 rfl) ?_
   first | refine rv0 rfl rfl rfl (y_load ⟨Try.isAgg2, Try.sizeOf2⟩ rfl (by (repeat (first|exact zH _|apply zT));done) rfl) ?_ | refine rv0 rfl rfl rfl (y_load_slc ⟨Try.isAgg2, Try.sizeOf2⟩ rfl (by (repeat (first|exact zH _|apply zT));done) rfl) ?_
   refine rv0 rfl rfl rfl (y_eql rfl rfl) ?_
   refine rv0 rfl rfl rfl (y_move rfl) ?_
   refine rj_part 10 rfl (fun hg10 => ?_) (fun hg10 => ?_)
   ·try simp only [dT, dF, nT, nF, tF, fT] at hg10
    refine rj_val (wn1 rfl rfl rfl rfl) rfl rfl (y_fieldAddr (k := 2) Try.underlying26 rfl (n := 1) (by decide) Try.sizeOf9 rfl) ?_
    first | refine rj_val (wn1 rfl rfl rfl rfl) rfl rfl (y_load ⟨Try.isAgg9, Try.sizeOf9⟩ rfl (by (repeat (first|exact zH _|apply zT));done) rfl) ?_ | refine rj_val (wn1 rfl rfl rfl rfl) rfl rfl (y_load_slc ⟨Try.isAgg9, Try.sizeOf9⟩ rfl (by (repeat (first|exact zH _|apply zT));done) rfl) ?_
    refine rj_val (wn1 rfl rfl rfl rfl) rfl rfl (y_seql rfl rfl) ?_
    refine rv0 rfl rfl rfl (y_pick_t rfl rfl) ?_
    refine rv0 rfl rfl rfl (y_assign rfl) ?_
    refine rj_nil ?_
    refine hK6 _ _ _ ?_
    refine cj_env (eL 2 rfl eN) ?_
    refine cj_ret ?_
    refine hret _ _ _ ?_
    apply ej_ret Try.results23 (.cons (rv_tmp rfl) .nil) _ [] (by (first | exact Hp.le_refl _ | assumption | exact Hp.le_trans ‹_› ‹_›)) rfl
    case hp => refine ⟨?_, rfl⟩; unfold isV; simp_all [tupOf] <;> (intros; omega)
    case hS => (repeat (first|exact zR _|(apply zP;focus (repeat (first|exact zH _|apply zT)))|apply zD|exact zA _ _))
   ·try simp only [dT, dF, nT, nF, tF, fT] at hg10
    refine rj_skip (wn2 rfl rfl rfl rfl rfl) rfl rfl ?_
    refine rj_skip (wn2 rfl rfl rfl rfl rfl) rfl rfl ?_
    refine rj_skip (wn2 rfl rfl rfl rfl rfl) rfl rfl ?_
    refine rv0 rfl rfl rfl (y_pick_f rfl rfl) ?_
    refine rv0 rfl rfl rfl (y_assign rfl) ?_
    refine rj_nil ?_
    refine hK6 _ _ _ ?_
    refine cj_env (eL 2 rfl eN) ?_
    refine cj_ret ?_
    refine hret _ _ _ ?_
    apply ej_ret Try.results23 (.cons (rv_tmp rfl) .nil) _ [] (by (first | exact Hp.le_refl _ | assumption | exact Hp.le_trans ‹_› ‹_›)) rfl
    case hp => refine ⟨?_, rfl⟩; unfold isV; simp_all [tupOf] <;> (intros; omega)
    case hS => (repeat (first|exact zR _|(apply zP;focus (repeat (first|exact zH _|apply zT)))|apply zD|exact zA _ _))
  ·try simp only [dT, dF, nT, nF, tF, fT] at hc5
   refine cj_seq (fun K7 hK7 => ?_)
   refine cj_region ?_
   refine rv0 rfl rfl rfl (y_eql rfl rfl) ?_
   refine rv0 rfl rfl rfl (y_assign rfl) ?_
   refine rj_nil ?_
   refine hK7 _ _ _ ?_
   refine cj_env (eL 1 rfl (eL 4 rfl (eL 15 rfl eN))) ?_
   refine cj_cond rfl (fun hc15 => ?_) (fun hc15 => ?_)
   ·try simp only [dT, dF, nT, nF, tF, fT] at hc15
    refine cj_seq (fun K9 hK9 => ?_)
    refine cj_region ?_
    refine rv0 rfl rfl rfl (y_fieldAddr (k := 2) Try.underlying26 rfl (n := 1) (by decide) Try.sizeOf9 rfl) ?_
    first | refine rv0 rfl rfl rfl (y_load ⟨Try.isAgg9, Try.sizeOf9⟩ rfl (by (repeat (first|exact zH _|apply zT));done) rfl) ?_ | refine rv0 rfl rfl rfl (y_load_slc ⟨Try.isAgg9, Try.sizeOf9⟩ rfl (by (repeat (first|exact zH _|apply zT));done) rfl) ?_
    refine rv0 rfl rfl rfl (y_seql rfl rfl) ?_
    refine rv0 rfl rfl rfl (y_assign rfl) ?_
    refine rj_nil ?_
    refine hK9 _ _ _ ?_
    refine cj_env (eL 2 rfl eN) ?_
    refine cj_ret ?_
    refine hret _ _ _ ?_
    apply ej_ret Try.results23 (.cons (rv_tmp rfl) .nil) _ [] (by (first | exact Hp.le_refl _ | assumption | exact Hp.le_trans ‹_› ‹_›)) rfl
    case hp => refine ⟨?_, rfl⟩; unfold isV; simp_all [tupOf] <;> (intros; omega)
    case hS => (repeat (first|exact zR _|(apply zP;focus (repeat (first|exact zH _|apply zT)))|apply zD|exact zA _ _))
   ·try simp only [dT, dF, nT, nF, tF, fT] at hc15
    refine cj_seq (fun K10 hK10 => ?_)
    refine cj_region ?_
    refine rv0 rfl rfl rfl (y_eql rfl rfl) ?_
    refine rv0 rfl rfl rfl (y_assign rfl) ?_
    refine rj_nil ?_
    refine hK10 _ _ _ ?_
    refine cj_env (eL 1 rfl (eL 20 rfl eN)) ?_
    refine cj_cond rfl (fun hc20 => ?_) (fun hc20 => ?_)
    ·try simp only [dT, dF, nT, nF, tF, fT] at hc20
     refine cj_seq (fun K12 hK12 => ?_)
     refine cj_region ?_
     refine rv0 rfl rfl rfl (y_fieldAddr (k := 1) Try.underlying26 rfl (n := 1) (by decide) Try.sizeOf2 rfl) ?_
     first | refine rv0 rfl rfl rfl (y_load ⟨Try.isAgg2, Try.sizeOf2⟩ rfl (by (repeat (first|exact zH _|apply zT));done) rfl) ?_ | refine rv0 rfl rfl rfl (y_load_slc ⟨Try.isAgg2, Try.sizeOf2⟩ rfl (by (repeat (first|exact zH _|apply zT));done) rfl) ?_
     refine rv0 rfl rfl rfl (y_eql rfl rfl) ?_
     refine rv0 rfl rfl rfl (y_move rfl) ?_
     refine rj_part 25 rfl (fun hg25 => ?_) (fun hg25 => ?_)
     ·try simp only [dT, dF, nT, nF, tF, fT] at hg25
      refine rj_val (wn1 rfl rfl rfl rfl) rfl rfl (y_fieldAddr (k := 2) Try.underlying26 rfl (n := 1) (by decide) Try.sizeOf9 rfl) ?_
      first | refine rj_val (wn1 rfl rfl rfl rfl) rfl rfl (y_load ⟨Try.isAgg9, Try.sizeOf9⟩ rfl (by (repeat (first|exact zH _|apply zT));done) rfl) ?_ | refine rj_val (wn1 rfl rfl rfl rfl) rfl rfl (y_load_slc ⟨Try.isAgg9, Try.sizeOf9⟩ rfl (by (repeat (first|exact zH _|apply zT));done) rfl) ?_
      refine rj_val (wn1 rfl rfl rfl rfl) rfl rfl (y_slen Try.underlying9 rfl) ?_
      refine rj_val (wn1 rfl rfl rfl rfl) rfl rfl (y_leq rfl rfl) ?_
      refine rv0 rfl rfl rfl (y_pick_t rfl rfl) ?_
      refine rv0 rfl rfl rfl (y_assign rfl) ?_
      refine rj_nil ?_
      refine hK12 _ _ _ ?_
      refine cj_env (eL 2 rfl eN) ?_
      refine cj_ret ?_
      refine hret _ _ _ ?_
      apply ej_ret Try.results23 (.cons (rv_tmp rfl) .nil) _ [] (by (first | exact Hp.le_refl _ | assumption | exact Hp.le_trans ‹_› ‹_›)) rfl
      case hp => refine ⟨?_, rfl⟩; unfold isV; simp_all [tupOf] <;> (intros; omega)
      case hS => (repeat (first|exact zR _|(apply zP;focus (repeat (first|exact zH _|apply zT)))|apply zD|exact zA _ _))
     ·try simp only [dT, dF, nT, nF, tF, fT] at hg25
      refine rj_skip (wn2 rfl rfl rfl rfl rfl) rfl rfl ?_
      refine rj_skip (wn2 rfl rfl rfl rfl rfl) rfl rfl ?_
      refine rj_skip (wn2 rfl rfl rfl rfl rfl) rfl rfl ?_
      refine rj_skip (wn2 rfl rfl rfl rfl rfl) rfl rfl ?_
      refine rv0 rfl rfl rfl (y_pick_f rfl rfl) ?_
      refine rv0 rfl rfl rfl (y_assign rfl) ?_
      refine rj_nil ?_
      refine hK12 _ _ _ ?_
      refine cj_env (eL 2 rfl eN) ?_
      refine cj_ret ?_
      refine hret _ _ _ ?_
      apply ej_ret Try.results23 (.cons (rv_tmp rfl) .nil) _ [] (by (first | exact Hp.le_refl _ | assumption | exact Hp.le_trans ‹_› ‹_›)) rfl
      case hp => refine ⟨?_, rfl⟩; unfold isV; simp_all [tupOf] <;> (intros; omega)
      case hS => (repeat (first|exact zR _|(apply zP;focus (repeat (first|exact zH _|apply zT)))|apply zD|exact zA _ _))
    ·try simp only [dT, dF, nT, nF, tF, fT] at hc20
     refine cj_skip ?_
     refine hK2 _ _ _ ?_
     refine cj_seq (fun K13 hK13 => ?_)
     refine cj_region ?_
     refine rv0 rfl rfl rfl (y_assign rfl) ?_
     refine rj_nil ?_
     refine hK13 _ _ _ ?_
     refine cj_ret ?_
     refine hret _ _ _ ?_
     apply ej_ret Try.results23 (.cons (rv_tmp rfl) .nil) _ [] (by (first | exact Hp.le_refl _ | assumption | exact Hp.le_trans ‹_› ‹_›)) rfl
     case hp => refine ⟨?_, rfl⟩; unfold isV; simp_all [tupOf] <;> (intros; omega)
     case hS => (repeat (first|exact zR _|(apply zP;focus (repeat (first|exact zH _|apply zT)))|apply zD|exact zA _ _))
theorem right1_q {R : Hp} (c : Cl) (v : Vl) (hs : v.s.length ≤ maxLen) : QTri Try.prog 58 [.agg ⟨colC c⟩, .agg ⟨valC v⟩] R [] (.bool (okV c v)) := by
  refine Tri.q2 ?_
  unfold colC
  have hvC : valC v = [.int .i64 v.kind, .int .i64 v.n, .string (str v.s)] := rfl
  refine tri_of Try.func58 rfl Try.ntmps58 rfl (fun σ F Q hret hend hpan => ?_)
  try simp only [List.cons_append, List.nil_append]
  refine cj_env (eL 0 rfl (eL 1 rfl eN)) ?_
  refine cj_seq (fun K1 hK1 => ?_)
  refine cj_region ?_
  refine rj_box (wn0 rfl) rfl rfl rfl (fun b2 => ?_)
  refine rj_box (wn0 rfl) rfl rfl rfl (fun b3 => ?_)
  refine rv0 rfl rfl rfl (y_assign rfl) ?_
  refine rj_nil ?_
  refine hK1 _ _ _ ?_
  refine cj_env (eL 2 rfl (eL 3 rfl eN)) ?_
  refine cj_seq (fun K2 hK2 => ?_)
  refine cj_seq (fun K3 hK3 => ?_)
  refine cj_region ?_
  refine rv0 rfl rfl rfl (y_fieldAddr (k := 0) Try.underlying26 rfl (n := 1) (by decide) Try.sizeOf3 rfl) ?_
  first | refine rv0 rfl rfl rfl (y_load ⟨Try.isAgg3, Try.sizeOf3⟩ rfl (by (repeat (first|exact zH _|apply zT));done) rfl) ?_ | refine rv0 rfl rfl rfl (y_load_slc ⟨Try.isAgg3, Try.sizeOf3⟩ rfl (by (repeat (first|exact zH _|apply zT));done) rfl) ?_
  refine rj_nil ?_
  refine hK3 _ _ _ ?_
  refine cj_block ?_
  refine cj_seq (fun K4 hK4 => ?_)
  refine cj_region ?_
  refine rv0 rfl rfl rfl (y_eql rfl rfl) ?_
  refine rv0 rfl rfl rfl (y_assign rfl) ?_
  refine rj_nil ?_
  refine hK4 _ _ _ ?_
  refine cj_cond rfl (fun hc7 => ?_) (fun hc7 => ?_)
  ·try simp only [dT, dF, nT, nF, tF, fT] at hc7
   refine cj_seq (fun K6 hK6 => ?_)
   refine cj_region ?_
   refine rv0 rfl rfl rfl ((y_loads_all (vs := valC v) ⟨Try.isAgg26, Try.sizeOf26⟩ rfl rfl (by (repeat (first|exact zH _|apply zT));done))) ?_
   refine rv0 rfl rfl rfl (y_build (cells := [_, _, _]) [(0, 1), (1, 1), (2, 1)] Try.underlying26 Try.zeroValue26 (fun _ => rfl) rfl rfl) ?_
   refine rv0 rfl rfl rfl ((y_steq (by kernel_rfl) rfl rfl (val_eq v Vl.zero))) ?_
   refine rv0 rfl rfl rfl (y_assign rfl) ?_
   refine rj_nil ?_
   refine hK6 _ _ _ ?_
   refine cj_env (eL 4 rfl eN) ?_
   refine cj_ret ?_
   refine hret _ _ _ ?_
   apply ej_ret Try.results58 (.cons (rv_tmp rfl) .nil) _ [] (by (first | exact Hp.le_refl _ | assumption | exact Hp.le_trans ‹_› ‹_›)) rfl
   case hp =>
    refine ⟨?_, rfl⟩; have e : decide (v = Vl.zero) = (decide (v.n = 0 ∧ v.s = [])) := by (try simp at hc7); obtain ⟨k, n, s⟩ := v; simp at hc7; subst hc7; simp [Vl.zero]
    unfold okV isV; simp_all [tupOf] <;> (intros; omega)
   case hS => (repeat (first|exact zR _|(apply zP;focus (repeat (first|exact zH _|apply zT)))|apply zD|exact zA _ _))
  ·try simp only [dT, dF, nT, nF, tF, fT] at hc7
   refine cj_seq (fun K7 hK7 => ?_)
   refine cj_region ?_
   refine rv0 rfl rfl rfl (y_eql rfl rfl) ?_
   refine rv0 rfl rfl rfl (y_assign rfl) ?_
   refine rj_nil ?_
   refine hK7 _ _ _ ?_
   refine cj_env (eL 2 rfl (eL 3 rfl (eL 12 rfl eN))) ?_
   refine cj_cond rfl (fun hc12 => ?_) (fun hc12 => ?_)
   ·try simp only [dT, dF, nT, nF, tF, fT] at hc12
    refine cj_seq (fun K9 hK9 => ?_)
    refine cj_region ?_
    refine rv0 rfl rfl rfl (y_fieldAddr (k := 1) Try.underlying66 rfl (n := 1) (by decide) Try.sizeOf3 rfl) ?_
    first | refine rv0 rfl rfl rfl (y_load ⟨Try.isAgg3, Try.sizeOf3⟩ rfl (by (repeat (first|exact zH _|apply zT));done) rfl) ?_ | refine rv0 rfl rfl rfl (y_load_slc ⟨Try.isAgg3, Try.sizeOf3⟩ rfl (by (repeat (first|exact zH _|apply zT));done) rfl) ?_
    refine rv0 rfl rfl rfl (y_eql rfl rfl) ?_
    refine rv0 rfl rfl rfl (y_move rfl) ?_
    refine rj_part 17 rfl (fun hg17 => ?_) (fun hg17 => ?_)
    ·try simp only [dT, dF, nT, nF, tF, fT] at hg17
     refine rj_val (wn1 rfl rfl rfl rfl) rfl rfl (y_fieldAddr (k := 2) Try.underlying26 rfl (n := 1) (by decide) Try.sizeOf9 rfl) ?_
     first | refine rj_val (wn1 rfl rfl rfl rfl) rfl rfl (y_load ⟨Try.isAgg9, Try.sizeOf9⟩ rfl (by (repeat (first|exact zH _|apply zT));done) rfl) ?_ | refine rj_val (wn1 rfl rfl rfl rfl) rfl rfl (y_load_slc ⟨Try.isAgg9, Try.sizeOf9⟩ rfl (by (repeat (first|exact zH _|apply zT));done) rfl) ?_
     refine rj_val (wn1 rfl rfl rfl rfl) rfl rfl (y_seql rfl rfl) ?_
     refine rv0 rfl rfl rfl (y_pick_t rfl rfl) ?_
     refine rv0 rfl rfl rfl (y_assign rfl) ?_
     refine rj_nil ?_
     refine hK9 _ _ _ ?_
     refine cj_env (eL 4 rfl eN) ?_
     refine cj_ret ?_
     refine hret _ _ _ ?_
     apply ej_ret Try.results58 (.cons (rv_tmp rfl) .nil) _ [] (by (first | exact Hp.le_refl _ | assumption | exact Hp.le_trans ‹_› ‹_›)) rfl
     case hp => refine ⟨?_, rfl⟩; unfold okV isV; simp_all [tupOf] <;> (intros; omega)
     case hS => (repeat (first|exact zR _|(apply zP;focus (repeat (first|exact zH _|apply zT)))|apply zD|exact zA _ _))
    ·try simp only [dT, dF, nT, nF, tF, fT] at hg17
     refine rj_skip (wn2 rfl rfl rfl rfl rfl) rfl rfl ?_
     refine rj_skip (wn2 rfl rfl rfl rfl rfl) rfl rfl ?_
     refine rj_skip (wn2 rfl rfl rfl rfl rfl) rfl rfl ?_
     refine rv0 rfl rfl rfl (y_pick_f rfl rfl) ?_
     refine rv0 rfl rfl rfl (y_assign rfl) ?_
     refine rj_nil ?_
     refine hK9 _ _ _ ?_
     refine cj_env (eL 4 rfl eN) ?_
     refine cj_ret ?_
     refine hret _ _ _ ?_
     apply ej_ret Try.results58 (.cons (rv_tmp rfl) .nil) _ [] (by (first | exact Hp.le_refl _ | assumption | exact Hp.le_trans ‹_› ‹_›)) rfl
     case hp => refine ⟨?_, rfl⟩; unfold okV isV; simp_all [tupOf] <;> (intros; omega)
     case hS => (repeat (first|exact zR _|(apply zP;focus (repeat (first|exact zH _|apply zT)))|apply zD|exact zA _ _))
   ·try simp only [dT, dF, nT, nF, tF, fT] at hc12
    refine cj_skip ?_
    refine hK2 _ _ _ ?_
    refine cj_seq (fun K10 hK10 => ?_)
    refine cj_region ?_
    refine rv0 rfl rfl rfl (y_fieldAddr (k := 0) Try.underlying26 rfl (n := 1) (by decide) Try.sizeOf3 rfl) ?_
    first | refine rv0 rfl rfl rfl (y_load ⟨Try.isAgg3, Try.sizeOf3⟩ rfl (by (repeat (first|exact zH _|apply zT));done) rfl) ?_ | refine rv0 rfl rfl rfl (y_load_slc ⟨Try.isAgg3, Try.sizeOf3⟩ rfl (by (repeat (first|exact zH _|apply zT));done) rfl) ?_
    refine rv0 rfl rfl rfl (y_eql rfl rfl) ?_
    refine rv0 rfl rfl rfl (y_move rfl) ?_
    refine rj_part 25 rfl (fun hg25 => ?_) (fun hg25 => ?_)
    ·try simp only [dT, dF, nT, nF, tF, fT] at hg25
     refine rj_val (wn1 rfl rfl rfl rfl) rfl rfl (y_fieldAddr (k := 1) Try.underlying66 rfl (n := 1) (by decide) Try.sizeOf3 rfl) ?_
     first | refine rj_val (wn1 rfl rfl rfl rfl) rfl rfl (y_load ⟨Try.isAgg3, Try.sizeOf3⟩ rfl (by (repeat (first|exact zH _|apply zT));done) rfl) ?_ | refine rj_val (wn1 rfl rfl rfl rfl) rfl rfl (y_load_slc ⟨Try.isAgg3, Try.sizeOf3⟩ rfl (by (repeat (first|exact zH _|apply zT));done) rfl) ?_
     refine rj_val (wn1 rfl rfl rfl rfl) rfl rfl (y_eql rfl rfl) ?_
     refine rv0 rfl rfl rfl (y_pick_t rfl rfl) ?_
     refine rv0 rfl rfl rfl (y_move rfl) ?_
     refine rj_part 30 rfl (fun hg30 => ?_) (fun hg30 => ?_)
     ·try simp only [dT, dF, nT, nF, tF, fT] at hg30
      refine rj_val (wn1 rfl rfl rfl rfl) rfl rfl (y_fieldAddr (k := 1) Try.underlying26 rfl (n := 1) (by decide) Try.sizeOf2 rfl) ?_
      first | refine rj_val (wn1 rfl rfl rfl rfl) rfl rfl (y_load ⟨Try.isAgg2, Try.sizeOf2⟩ rfl (by (repeat (first|exact zH _|apply zT));done) rfl) ?_ | refine rj_val (wn1 rfl rfl rfl rfl) rfl rfl (y_load_slc ⟨Try.isAgg2, Try.sizeOf2⟩ rfl (by (repeat (first|exact zH _|apply zT));done) rfl) ?_
      refine rj_val (wn1 rfl rfl rfl rfl) rfl rfl (y_eql rfl rfl) ?_
      refine rv0 rfl rfl rfl (y_pick_t rfl rfl) ?_
      refine rv0 rfl rfl rfl (y_move rfl) ?_
      refine rj_part 35 rfl (fun hg35 => ?_) (fun hg35 => ?_)
      ·try simp only [dT, dF, nT, nF, tF, fT] at hg35
       refine rj_val (wn1 rfl rfl rfl rfl) rfl rfl (y_fieldAddr (k := 2) Try.underlying26 rfl (n := 1) (by decide) Try.sizeOf9 rfl) ?_
       first | refine rj_val (wn1 rfl rfl rfl rfl) rfl rfl (y_load ⟨Try.isAgg9, Try.sizeOf9⟩ rfl (by (repeat (first|exact zH _|apply zT));done) rfl) ?_ | refine rj_val (wn1 rfl rfl rfl rfl) rfl rfl (y_load_slc ⟨Try.isAgg9, Try.sizeOf9⟩ rfl (by (repeat (first|exact zH _|apply zT));done) rfl) ?_
       refine rj_val (wn1 rfl rfl rfl rfl) rfl rfl (y_slen Try.underlying9 rfl) ?_
       refine rj_val (wn1 rfl rfl rfl rfl) rfl rfl (y_leq rfl rfl) ?_
       refine rv0 rfl rfl rfl (y_pick_t rfl rfl) ?_
       refine rv0 rfl rfl rfl (y_assign rfl) ?_
       refine rj_nil ?_
       refine hK10 _ _ _ ?_
       refine cj_env (eL 4 rfl eN) ?_
       refine cj_ret ?_
       refine hret _ _ _ ?_
       apply ej_ret Try.results58 (.cons (rv_tmp rfl) .nil) _ [] (by (first | exact Hp.le_refl _ | assumption | exact Hp.le_trans ‹_› ‹_›)) rfl
       case hp => refine ⟨?_, rfl⟩; unfold okV isV; simp_all [tupOf] <;> (intros; omega)
       case hS => (repeat (first|exact zR _|(apply zP;focus (repeat (first|exact zH _|apply zT)))|apply zD|exact zA _ _))
      ·try simp only [dT, dF, nT, nF, tF, fT] at hg35
       refine rj_skip (wn2 rfl rfl rfl rfl rfl) rfl rfl ?_
       refine rj_skip (wn2 rfl rfl rfl rfl rfl) rfl rfl ?_
       refine rj_skip (wn2 rfl rfl rfl rfl rfl) rfl rfl ?_
       refine rj_skip (wn2 rfl rfl rfl rfl rfl) rfl rfl ?_
       refine rv0 rfl rfl rfl (y_pick_f rfl rfl) ?_
       refine rv0 rfl rfl rfl (y_assign rfl) ?_
       refine rj_nil ?_
       refine hK10 _ _ _ ?_
       refine cj_env (eL 4 rfl eN) ?_
       refine cj_ret ?_
       refine hret _ _ _ ?_
       apply ej_ret Try.results58 (.cons (rv_tmp rfl) .nil) _ [] (by (first | exact Hp.le_refl _ | assumption | exact Hp.le_trans ‹_› ‹_›)) rfl
       case hp => refine ⟨?_, rfl⟩; unfold okV isV; simp_all [tupOf] <;> (intros; omega)
       case hS => (repeat (first|exact zR _|(apply zP;focus (repeat (first|exact zH _|apply zT)))|apply zD|exact zA _ _))
     ·try simp only [dT, dF, nT, nF, tF, fT] at hg30
      refine rj_skip (wn2 rfl rfl rfl rfl rfl) rfl rfl ?_
      refine rj_skip (wn2 rfl rfl rfl rfl rfl) rfl rfl ?_
      refine rj_skip (wn2 rfl rfl rfl rfl rfl) rfl rfl ?_
      refine rv0 rfl rfl rfl (y_pick_f rfl rfl) ?_
      refine rv0 rfl rfl rfl (y_move rfl) ?_
      refine rj_skip (wn2 rfl rfl rfl rfl rfl) rfl rfl ?_
      refine rj_skip (wn2 rfl rfl rfl rfl rfl) rfl rfl ?_
      refine rj_skip (wn2 rfl rfl rfl rfl rfl) rfl rfl ?_
      refine rj_skip (wn2 rfl rfl rfl rfl rfl) rfl rfl ?_
      refine rv0 rfl rfl rfl (y_pick_f rfl rfl) ?_
      refine rv0 rfl rfl rfl (y_assign rfl) ?_
      refine rj_nil ?_
      refine hK10 _ _ _ ?_
      refine cj_env (eL 4 rfl eN) ?_
      refine cj_ret ?_
      refine hret _ _ _ ?_
      apply ej_ret Try.results58 (.cons (rv_tmp rfl) .nil) _ [] (by (first | exact Hp.le_refl _ | assumption | exact Hp.le_trans ‹_› ‹_›)) rfl
      case hp => refine ⟨?_, rfl⟩; unfold okV isV; simp_all [tupOf] <;> (intros; omega)
      case hS => (repeat (first|exact zR _|(apply zP;focus (repeat (first|exact zH _|apply zT)))|apply zD|exact zA _ _))
    ·try simp only [dT, dF, nT, nF, tF, fT] at hg25
     refine rj_skip (wn2 rfl rfl rfl rfl rfl) rfl rfl ?_
     refine rj_skip (wn2 rfl rfl rfl rfl rfl) rfl rfl ?_
     refine rj_skip (wn2 rfl rfl rfl rfl rfl) rfl rfl ?_
     refine rv0 rfl rfl rfl (y_pick_f rfl rfl) ?_
     refine rv0 rfl rfl rfl (y_move rfl) ?_
     refine rj_skip (wn2 rfl rfl rfl rfl rfl) rfl rfl ?_
     refine rj_skip (wn2 rfl rfl rfl rfl rfl) rfl rfl ?_
     refine rj_skip (wn2 rfl rfl rfl rfl rfl) rfl rfl ?_
     refine rv0 rfl rfl rfl (y_pick_f rfl rfl) ?_
     refine rv0 rfl rfl rfl (y_move rfl) ?_
     refine rj_skip (wn2 rfl rfl rfl rfl rfl) rfl rfl ?_
     refine rj_skip (wn2 rfl rfl rfl rfl rfl) rfl rfl ?_
     refine rj_skip (wn2 rfl rfl rfl rfl rfl) rfl rfl ?_
     refine rj_skip (wn2 rfl rfl rfl rfl rfl) rfl rfl ?_
     refine rv0 rfl rfl rfl (y_pick_f rfl rfl) ?_
     refine rv0 rfl rfl rfl (y_assign rfl) ?_
     refine rj_nil ?_
     refine hK10 _ _ _ ?_
     refine cj_env (eL 4 rfl eN) ?_
     refine cj_ret ?_
     refine hret _ _ _ ?_
     apply ej_ret Try.results58 (.cons (rv_tmp rfl) .nil) _ [] (by (first | exact Hp.le_refl _ | assumption | exact Hp.le_trans ‹_› ‹_›)) rfl
     case hp => refine ⟨?_, rfl⟩; unfold okV isV; simp_all [tupOf] <;> (intros; omega)
     case hS => (repeat (first|exact zR _|(apply zP;focus (repeat (first|exact zH _|apply zT)))|apply zD|exact zA _ _))
def all2 : List Cl → List Vl → Bool
  | [], [] => true
  | c :: cs, v :: vs => okV c v && all2 cs vs
  | _, _ => false
theorem all2_iff : ∀ {cs : List Cl} {vs : List Vl}, all2 cs vs = true ↔ cs.length = vs.length ∧ ∀ (j : Nat) (c : Cl) (v : Vl), cs[j]? = some c → vs[j]? = some v → okV c v = true
  | [], [] => by simp [all2]
  | [], v :: vs => by simp [all2]
  | c :: cs, [] => by simp [all2]
  | c :: cs, v :: vs => by
    rw [all2, Bool.and_eq_true, all2_iff]
    constructor
    · rintro ⟨h1, h2, h3⟩
      refine ⟨by simp [h2], fun j x y hx hy => ?_⟩
      cases j with
      | zero => simp at hx hy; subst hx hy; exact h1
      | succ j => exact h3 j x y (by simpa using hx) (by simpa using hy)
    · rintro ⟨h1, h2⟩
      exact ⟨h2 0 c v rfl rfl, by simpa using h1, fun j x y hx hy => h2 (j + 1) x y (by simpa using hx) (by simpa using hy)⟩
theorem all2_len {cs : List Cl} {vs : List Vl} (h : ¬ cs.length = vs.length) : all2 cs vs = false := by
  cases e : all2 cs vs
  · rfl
  · exact absurd (all2_iff.1 e).1 h
theorem all2_at {cs : List Cl} {vs : List Vl} {j : Nat} {c : Cl} {v : Vl} (h1 : cs[j]? = some c) (h2 : vs[j]? = some v) (h : okV c v = false) : all2 cs vs = false := by
  cases e : all2 cs vs
  · rfl
  · have := (all2_iff.1 e).2 j c v h1 h2; rw [h] at this; cases this
theorem equalFunc_q {R : Hp} (cols : List Cl) (row : List Vl) (vc vr : Value) (hc : FrX colE R cols vc) (hr : FrX valE R row vr) (hs : ∀ v ∈ row, v.s.length ≤ maxLen) :
    QTri Try.prog 57 [vc, vr, .func (.func 58) ⟨[]⟩ ⟨[]⟩] R [] (.bool (all2 cols row)) := by
  obtain ⟨q, cap, rfl, hcap, hcm⟩ := hc.shape
  have hlb : cols.length ≤ maxLen := Nat.le_trans hcap hcm
  obtain ⟨q', cap', rfl, hcap', hcm'⟩ := hr.shape
  have hlb' : row.length ≤ maxLen := Nat.le_trans hcap' hcm'
  unfold maxLen at hlb hlb'
  refine Tri.q2 ?_
  refine tri_of Try.func57 rfl Try.ntmps57 rfl (fun σ F Q hret hend hpan => ?_)
  try simp only [List.cons_append, List.nil_append]
  refine cj_env (eL 0 rfl (eL 1 rfl (eL 2 rfl eN))) ?_
  refine cj_seq (fun K1 hK1 => ?_)
  refine cj_region ?_
  refine rv0 rfl rfl rfl (y_assign rfl) ?_
  refine rj_nil ?_
  refine hK1 _ _ _ ?_
  refine cj_seq (fun K2 hK2 => ?_)
  refine cj_seq (fun K3 hK3 => ?_)
  refine cj_region ?_
  refine rv0 rfl rfl rfl (y_move rfl) ?_
  first | refine rv0 rfl rfl rfl (y_len_sl Try.underlying35 rfl) ?_ | refine rv0 rfl rfl rfl (y_len_slc Try.underlying35 rfl (by (repeat (first|exact zH _|apply zT));done)) ?_
  refine rv0 rfl rfl rfl (y_move rfl) ?_
  first | refine rv0 rfl rfl rfl (y_len_sl Try.underlying43 rfl) ?_ | refine rv0 rfl rfl rfl (y_len_slc Try.underlying43 rfl (by (repeat (first|exact zH _|apply zT));done)) ?_
  refine rv0 rfl rfl rfl (y_neq rfl rfl) ?_
  refine rj_nil ?_
  refine hK3 _ _ _ ?_
  refine cj_env (eL 0 rfl (eL 1 rfl (eL 2 rfl (eL 14 rfl eN)))) ?_
  refine cj_cond rfl (fun hc14 => ?_) (fun hc14 => ?_)
  ·try simp only [dT, dF, nT, nF, tF, fT] at hc14
   refine cj_seq (fun K5 hK5 => ?_)
   refine cj_region ?_
   refine rv0 rfl rfl rfl (y_assign rfl) ?_
   refine rj_nil ?_
   refine hK5 _ _ _ ?_
   refine cj_env (eL 6 rfl eN) ?_
   refine cj_ret ?_
   refine hret _ _ _ ?_
   apply ej_ret Try.results57 (.cons (rv_tmp rfl) .nil) _ [] (by (first | exact Hp.le_refl _ | assumption | exact Hp.le_trans ‹_› ‹_›)) rfl
   case hp => refine ⟨?_, rfl⟩; rw [all2_len (by omega)]; rfl
   case hS => (repeat (first|exact zR _|(apply zP;focus (repeat (first|exact zH _|apply zT)))|apply zD|exact zA _ _))
  ·try simp only [dT, dF, nT, nF, tF, fT] at hc14
   refine cj_skip ?_
   refine hK2 _ _ _ ?_
   refine cj_seq (fun K6 hK6 => ?_)
   refine cj_seq (fun K7 hK7 => ?_)
   refine cj_region ?_
   refine rv0 rfl rfl rfl (y_move rfl) ?_
   first | refine rv0 rfl rfl rfl (y_len_sl Try.underlying35 rfl) ?_ | refine rv0 rfl rfl rfl (y_len_slc Try.underlying35 rfl (by (repeat (first|exact zH _|apply zT));done)) ?_
   refine rv0 rfl rfl rfl (y_move rfl) ?_
   refine rj_nil ?_
   refine hK7 _ _ _ ?_
   refine cj_block ?_
   refine cj_env (E' := (fun (x : Nat) => [(1, .slice q' row.length cap'), (2, .func (.func 58) ⟨[]⟩ ⟨[]⟩), (15, .slice q cols.length cap), (16, .int .i64 (cols.length : Int)), (17, .int .i64 (x : Int))]) 0) (eC rfl (eC rfl (eC rfl (eC rfl (eC rfl eN))))) ?_
   refine cj_sub (M := (fun (x : Nat) => F) 0) (by (repeat (first|exact zR _|(apply zP;focus (repeat (first|exact zH _|apply zT)))|apply zD|exact zA _ _))) ?_
   refine cj_loop (fun (x : Nat) => [(1, .slice q' row.length cap'), (2, .func (.func 58) ⟨[]⟩ ⟨[]⟩), (15, .slice q cols.length cap), (16, .int .i64 (cols.length : Int)), (17, .int .i64 (x : Int))]) (fun (x : Nat) => R) (fun (x : Nat) => F) (fun (x : Nat) => x ≤ cols.length ∧ (∀ (j : Nat) (c : Cl) (v : Vl), j < x → cols[j]? = some c → row[j]? = some v → okV c v = true)) (fun (x : Nat) => cols.length - x) 0 (⟨by simp, fun j c v h => by omega⟩) ?_
   rintro i ⟨hi, hall⟩
   try dsimp only
   refine cj_seq (fun K8 hK8 => ?_)
   refine cj_region ?_
   refine rv0 rfl rfl rfl (y_lss rfl rfl) ?_
   refine rj_nil ?_
   refine hK8 _ _ _ ?_
   refine cj_seq (fun K9 hK9 => ?_)
   refine cj_cond rfl (fun hc18 => ?_) (fun hc18 => ?_)
   ·try simp only [dT, dF, nT, nF, tF, fT] at hc18
    refine cj_skip ?_
    refine hK9 _ _ _ ?_
    refine cj_seq (fun K11 hK11 => ?_)
    refine cj_block ?_
    refine cj_seq (fun K12 hK12 => ?_)
    refine cj_region ?_
    obtain ⟨x, hx⟩ : ∃ x, cols[i]? = some x := ⟨cols[i]'(by omega), by simp⟩
    obtain ⟨y, hy⟩ : ∃ y, row[i]? = some y := ⟨row[i]'(by omega), by simp⟩
    obtain ⟨b, off, capx, cs, he, rfl, hcl, hcell⟩ := hc.at hx
    obtain ⟨rfl, rfl⟩ : q = some ⟨b, off, none⟩ ∧ cap = capx := by cases he; exact ⟨rfl, rfl⟩
    obtain ⟨b', off', capy, cs', he', rfl, hcl', hcell'⟩ := hr.at hy
    obtain ⟨rfl, rfl⟩ : q' = some ⟨b', off', none⟩ ∧ cap' = capy := by cases he'; exact ⟨rfl, rfl⟩
    refine rv0 rfl rfl rfl (y_move rfl) ?_
    first | refine rv0 rfl rfl rfl (y_indexAddr Try.underlying35 Try.sizeOf66 rfl rfl (by (first | omega | (dsimp only; omega) | (simp; done) | (simp; omega)))) ?_ | refine rv0 rfl rfl rfl (y_index_slc Try.underlying35 Try.sizeOf66 rfl rfl (by (repeat (first|exact zH _|apply zT));done) (by (first | omega | (dsimp only; omega) | (simp; done) | (simp; omega)))) ?_
    refine rv0 rfl rfl rfl ((y_loads_ro ⟨Try.isAgg66, Try.sizeOf66⟩ (vs := colC x) rfl rfl (fun j u hj => hcell j u hj))) ?_
    refine rj_alloc (wn0 rfl) rfl Try.zeroValue66 rfl (fun b8 => ?_)
    refine rv0 rfl rfl rfl (y_assign rfl) ?_
    refine rj_stores_all (vs := colC x) ⟨Try.isAgg66, Try.sizeOf66⟩ rfl (wn0 rfl) rfl rfl (colE.one (R := R) (x := x) rfl) (by (repeat (first|exact zH _|apply zT));done) rfl ?_
    refine rj_nil ?_
    refine hK12 _ _ _ ?_
    refine cj_env (eL 1 rfl (eL 2 rfl (eL 7 rfl (eL 8 rfl (eL 15 rfl (eL 16 rfl (eL 17 rfl eN))))))) ?_
    refine cj_seq (fun K13 hK13 => ?_)
    refine cj_region ?_
    refine rv0 rfl rfl rfl (y_move rfl) ?_
    refine rv0 rfl rfl rfl (y_move rfl) ?_
    first | refine rv0 rfl rfl rfl (y_indexAddr Try.underlying43 Try.sizeOf26 rfl rfl (by (first | omega | (dsimp only; omega) | (simp; done) | (simp; omega)))) ?_ | refine rv0 rfl rfl rfl (y_index_slc Try.underlying43 Try.sizeOf26 rfl rfl (by (repeat (first|exact zH _|apply zT));done) (by (first | omega | (dsimp only; omega) | (simp; done) | (simp; omega)))) ?_
    refine rv0 rfl rfl rfl ((y_loads_ro ⟨Try.isAgg26, Try.sizeOf26⟩ (vs := valC y) rfl rfl (fun j u hj => hcell' j u hj))) ?_
    refine rj_alloc (wn0 rfl) rfl Try.zeroValue26 rfl (fun b9 => ?_)
    refine rj_stores_all (vs := valC y) ⟨Try.isAgg26, Try.sizeOf26⟩ rfl (wn0 rfl) rfl rfl (valE.one (R := R) (x := y) rfl) (by (repeat (first|exact zH _|apply zT));done) rfl ?_
    refine rj_nil ?_
    refine hK13 _ _ _ ?_
    refine cj_env (eL 1 rfl (eL 2 rfl (eL 8 rfl (eL 9 rfl (eL 15 rfl (eL 16 rfl (eL 17 rfl eN))))))) ?_
    refine cj_seq (fun K14 hK14 => ?_)
    refine cj_region ?_
    refine rv0 rfl rfl rfl (y_move rfl) ?_
    refine rv0 rfl rfl rfl ((y_loads_all (vs := colC x) ⟨Try.isAgg66, Try.sizeOf66⟩ rfl rfl (by (repeat (first|exact zH _|apply zT));done))) ?_
    refine rv0 rfl rfl rfl ((y_loads_all (vs := valC y) ⟨Try.isAgg26, Try.sizeOf26⟩ rfl rfl (by (repeat (first|exact zH _|apply zT));done))) ?_
    refine rv0 rfl rfl rfl (y_callv rfl Try.call58 rfl (right1_q x y (hs y (List.mem_of_getElem? hy))) (by (repeat (first|exact zN _|(apply zS;focus (repeat (first|exact zH _|apply zT))))))) ?_
    refine rv0 rfl rfl rfl (y_not rfl) ?_
    refine rj_nil ?_
    refine hK14 _ _ _ ?_
    refine cj_env (eL 1 rfl (eL 2 rfl (eL 15 rfl (eL 16 rfl (eL 17 rfl (eL 30 rfl eN)))))) ?_
    refine cj_cond rfl (fun hc30 => ?_) (fun hc30 => ?_)
    ·try simp only [dT, dF, nT, nF, tF, fT] at hc30
     refine cj_seq (fun K16 hK16 => ?_)
     refine cj_region ?_
     refine rv0 rfl rfl rfl (y_assign rfl) ?_
     refine rj_nil ?_
     refine hK16 _ _ _ ?_
     refine cj_env (eL 6 rfl eN) ?_
     refine cj_ret ?_
     refine hret _ _ _ ?_
     apply ej_ret Try.results57 (.cons (rv_tmp rfl) .nil) _ [] (by (first | exact Hp.le_refl _ | assumption | exact Hp.le_trans ‹_› ‹_›)) rfl
     case hp => refine ⟨?_, rfl⟩; rw [all2_at hx hy (by simpa using hc30)]; rfl
     case hS => (repeat (first|exact zR _|(apply zP;focus (repeat (first|exact zH _|apply zT)))|apply zD|exact zA _ _))
    ·try simp only [dT, dF, nT, nF, tF, fT] at hc30
     refine cj_skip ?_
     refine hK11 _ _ _ ?_
     refine cj_region ?_
     first | refine rv0 rfl rfl rfl (y_add64 rfl rfl (by (first | omega | (dsimp only; omega) | (simp; done) | (simp; omega)))) ?_ | refine rv0 rfl rfl rfl (y_add rfl rfl) ?_
     refine rv0 rfl rfl rfl (y_move rfl) ?_
     refine rj_nil ?_
     refine ej_on (q' := roundK _ _ _ _ _ _ _) rfl ?_
     refine ej_round (i + 1) (⟨by omega, fun j c v h h1 h2 => by rcases Nat.lt_succ_iff_lt_or_eq.1 h with (h|rfl); exact hall j c v h h1 h2; rw [hx] at h1; rw [hy] at h2; cases h1; cases h2; simpa using hc30⟩) (by omega) (eC rfl (eC rfl (eC rfl (eC rfl (eC rfl eN))))) rfl (by (repeat (first|exact zR _|(apply zP;focus (repeat (first|exact zH _|apply zT)))|apply zD|exact zA _ _)))
   ·try simp only [dT, dF, nT, nF, tF, fT] at hc18
    refine cj_exit ?_
    refine hK6 _ _ _ ?_
    refine cj_env eN ?_
    refine cj_seq (fun K17 hK17 => ?_)
    refine cj_region ?_
    refine rv0 rfl rfl rfl (y_assign rfl) ?_
    refine rj_nil ?_
    refine hK17 _ _ _ ?_
    refine cj_ret ?_
    refine hret _ _ _ ?_
    apply ej_ret Try.results57 (.cons (rv_tmp rfl) .nil) _ [] (by (first | exact Hp.le_refl _ | assumption | exact Hp.le_trans ‹_› ‹_›)) rfl
    case hp => refine ⟨?_, rfl⟩; rw [all2_iff.2 ⟨by omega, fun j c v h1 h2 => hall j c v (by have := (List.getElem?_eq_some_iff.1 h1).1; omega) h1 h2⟩]; rfl
    case hS => (repeat (first|exact zR _|(apply zP;focus (repeat (first|exact zH _|apply zT)))|apply zD|exact zA _ _))
theorem right_q {R : Hp} (cols : List Cl) (row : List Vl) (vc vr : Value) (hc : FrX colE R cols vc) (hr : FrX valE R row vr) (hs : ∀ v ∈ row, v.s.length ≤ maxLen) :
    QTri Try.prog 40 [vc, vr] R [] (.bool (all2 cols row)) := by
  refine Tri.q2 ?_
  refine tri_of Try.func40 rfl Try.ntmps40 rfl (fun σ F Q hret hend hpan => ?_)
  try simp only [List.cons_append, List.nil_append]
  refine cj_env (eL 0 rfl (eL 1 rfl eN)) ?_
  refine cj_seq (fun K1 hK1 => ?_)
  refine cj_region ?_
  refine rv0 rfl rfl rfl (y_assign rfl) ?_
  refine rj_nil ?_
  refine hK1 _ _ _ ?_
  refine cj_seq (fun K2 hK2 => ?_)
  refine cj_region ?_
  refine rv0 rfl rfl rfl (y_move rfl) ?_
  refine rv0 rfl rfl rfl (y_move rfl) ?_
  refine rv0 rfl rfl rfl (y_call Try.call57 rfl (equalFunc_q cols row vc vr hc hr hs) (by (repeat (first|exact zN _|(apply zS;focus (repeat (first|exact zH _|apply zT))))))) ?_
  refine rv0 rfl rfl rfl (y_assign rfl) ?_
  refine rj_nil ?_
  refine hK2 _ _ _ ?_
  refine cj_env (eL 4 rfl eN) ?_
  refine cj_ret ?_
  refine hret _ _ _ ?_
  apply ej_ret Try.results40 (.cons (rv_tmp rfl) .nil) _ [] (by (first | exact Hp.le_refl _ | assumption | exact Hp.le_trans ‹_› ‹_›)) rfl
  case hp => exact ⟨rfl, rfl⟩
  case hS => (repeat (first|exact zR _|(apply zP;focus (repeat (first|exact zH _|apply zT)))|apply zD|exact zA _ _))
theorem rRow_q {R : Hp} (cols : List Cl) (row : List Vl) (vc vr : Value) (hc : FrX colE R cols vc) (hr : FrX valE R row vr) (hs : ∀ v ∈ row, v.s.length ≤ maxLen) :
    QTri Try.prog 43 [vc, vr] R [] (.bool (all2 cols row)) := by
  obtain ⟨q, cap, rfl, hcap, hcm⟩ := hc.shape
  have hlb : cols.length ≤ maxLen := Nat.le_trans hcap hcm
  obtain ⟨q', cap', rfl, hcap', hcm'⟩ := hr.shape
  have hlb' : row.length ≤ maxLen := Nat.le_trans hcap' hcm'
  unfold maxLen at hlb hlb'
  refine Tri.q2 ?_
  refine tri_of Try.func43 rfl Try.ntmps43 rfl (fun σ F Q hret hend hpan => ?_)
  try simp only [List.cons_append, List.nil_append]
  refine cj_env (eL 0 rfl (eL 1 rfl eN)) ?_
  refine cj_seq (fun K1 hK1 => ?_)
  refine cj_region ?_
  refine rv0 rfl rfl rfl (y_assign rfl) ?_
  refine rj_nil ?_
  refine hK1 _ _ _ ?_
  refine cj_seq (fun K2 hK2 => ?_)
  refine cj_seq (fun K3 hK3 => ?_)
  refine cj_region ?_
  refine rv0 rfl rfl rfl (y_move rfl) ?_
  first | refine rv0 rfl rfl rfl (y_len_sl Try.underlying43 rfl) ?_ | refine rv0 rfl rfl rfl (y_len_slc Try.underlying43 rfl (by (repeat (first|exact zH _|apply zT));done)) ?_
  refine rv0 rfl rfl rfl (y_move rfl) ?_
  first | refine rv0 rfl rfl rfl (y_len_sl Try.underlying35 rfl) ?_ | refine rv0 rfl rfl rfl (y_len_slc Try.underlying35 rfl (by (repeat (first|exact zH _|apply zT));done)) ?_
  refine rv0 rfl rfl rfl (y_neq rfl rfl) ?_
  refine rj_nil ?_
  refine hK3 _ _ _ ?_
  refine cj_env (eL 0 rfl (eL 1 rfl (eL 10 rfl eN))) ?_
  refine cj_cond rfl (fun hc10 => ?_) (fun hc10 => ?_)
  ·try simp only [dT, dF, nT, nF, tF, fT] at hc10
   refine cj_seq (fun K5 hK5 => ?_)
   refine cj_region ?_
   refine rv0 rfl rfl rfl (y_assign rfl) ?_
   refine rj_nil ?_
   refine hK5 _ _ _ ?_
   refine cj_env (eL 4 rfl eN) ?_
   refine cj_ret ?_
   refine hret _ _ _ ?_
   apply ej_ret Try.results43 (.cons (rv_tmp rfl) .nil) _ [] (by (first | exact Hp.le_refl _ | assumption | exact Hp.le_trans ‹_› ‹_›)) rfl
   case hp => refine ⟨?_, rfl⟩; rw [all2_len (by omega)]; rfl
   case hS => (repeat (first|exact zR _|(apply zP;focus (repeat (first|exact zH _|apply zT)))|apply zD|exact zA _ _))
  ·try simp only [dT, dF, nT, nF, tF, fT] at hc10
   refine cj_skip ?_
   refine hK2 _ _ _ ?_
   refine cj_seq (fun K6 hK6 => ?_)
   refine cj_seq (fun K7 hK7 => ?_)
   refine cj_region ?_
   refine rv0 rfl rfl rfl (y_assign rfl) ?_
   refine rj_nil ?_
   refine hK7 _ _ _ ?_
   refine cj_block ?_
   refine cj_env (E' := (fun (x : Nat) => [(0, .slice q cols.length cap), (1, .slice q' row.length cap'), (5, .int .i64 (x : Int))]) 0) (eC rfl (eC rfl (eC rfl eN))) ?_
   refine cj_sub (M := (fun (x : Nat) => F) 0) (by (repeat (first|exact zR _|(apply zP;focus (repeat (first|exact zH _|apply zT)))|apply zD|exact zA _ _))) ?_
   refine cj_loop (fun (x : Nat) => [(0, .slice q cols.length cap), (1, .slice q' row.length cap'), (5, .int .i64 (x : Int))]) (fun (x : Nat) => R) (fun (x : Nat) => F) (fun (x : Nat) => x ≤ cols.length ∧ (∀ (j : Nat) (c : Cl) (v : Vl), j < x → cols[j]? = some c → row[j]? = some v → okV c v = true)) (fun (x : Nat) => cols.length - x) 0 (⟨by simp, fun j c v h => by omega⟩) ?_
   rintro i ⟨hi, hall⟩
   try dsimp only
   refine cj_seq (fun K8 hK8 => ?_)
   refine cj_seq (fun K9 hK9 => ?_)
   refine cj_region ?_
   refine rv0 rfl rfl rfl (y_move rfl) ?_
   refine rv0 rfl rfl rfl (y_move rfl) ?_
   first | refine rv0 rfl rfl rfl (y_len_sl Try.underlying43 rfl) ?_ | refine rv0 rfl rfl rfl (y_len_slc Try.underlying43 rfl (by (repeat (first|exact zH _|apply zT));done)) ?_
   refine rv0 rfl rfl rfl (y_lss rfl rfl) ?_
   refine rj_nil ?_
   refine hK9 _ _ _ ?_
   refine cj_env (eL 0 rfl (eL 1 rfl (eL 5 rfl (eL 14 rfl eN)))) ?_
   refine cj_cond rfl (fun hc14 => ?_) (fun hc14 => ?_)
   ·try simp only [dT, dF, nT, nF, tF, fT] at hc14
    refine cj_skip ?_
    refine hK8 _ _ _ ?_
    refine cj_seq (fun K11 hK11 => ?_)
    refine cj_block ?_
    refine cj_seq (fun K12 hK12 => ?_)
    refine cj_draw (by kernel_rfl) (by kernel_rfl) ?_
    obtain ⟨x, hx⟩ : ∃ x, cols[i]? = some x := ⟨cols[i]'(by omega), by simp⟩
    obtain ⟨y, hy⟩ : ∃ y, row[i]? = some y := ⟨row[i]'(by omega), by simp⟩
    obtain ⟨b, off, capx, cs, he, rfl, hcl, hcell⟩ := hc.at hx
    obtain ⟨rfl, rfl⟩ : q = some ⟨b, off, none⟩ ∧ cap = capx := by cases he; exact ⟨rfl, rfl⟩
    obtain ⟨b', off', capy, cs', he', rfl, hcl', hcell'⟩ := hr.at hy
    obtain ⟨rfl, rfl⟩ : q' = some ⟨b', off', none⟩ ∧ cap' = capy := by cases he'; exact ⟨rfl, rfl⟩
    refine qj_val (wn0 rfl) rfl rfl (y_move rfl) ?_
    refine qj_val (wn0 rfl) rfl rfl (y_move rfl) ?_
    first | refine qj_val (wn0 rfl) rfl rfl (y_indexAddr Try.underlying43 Try.sizeOf26 rfl rfl (by (first | omega | (dsimp only; omega) | (simp; done) | (simp; omega)))) ?_ | refine qj_val (wn0 rfl) rfl rfl (y_index_slc Try.underlying43 Try.sizeOf26 rfl rfl (by (repeat (first|exact zH _|apply zT));done) (by (first | omega | (dsimp only; omega) | (simp; done) | (simp; omega)))) ?_
    refine qj_val (wn0 rfl) rfl rfl ((y_loads_ro ⟨Try.isAgg26, Try.sizeOf26⟩ (vs := valC y) rfl rfl (fun j u hj => hcell' j u hj))) ?_
    refine qj_val (wn0 rfl) rfl rfl (y_call Try.call23 rfl (is_q y (hs y (List.mem_of_getElem? hy))) (by (repeat (first|exact zN _|(apply zS;focus (repeat (first|exact zH _|apply zT))))))) ?_
    refine qj_val (wn0 rfl) rfl rfl (y_not rfl) ?_
    refine qj_val (wn0 rfl) rfl rfl (y_move rfl) ?_
    refine qj_part 23 rfl (fun hg23 => ?_) (fun hg23 => ?_)
    ·try simp only [dT, dF, nT, nF, tF, fT] at hg23
     refine qj_skip (wn2 rfl rfl rfl rfl rfl) rfl rfl ?_
     refine qj_skip (wn2 rfl rfl rfl rfl rfl) rfl rfl ?_
     refine qj_skip (wn2 rfl rfl rfl rfl rfl) rfl rfl ?_
     refine qj_skip (wn2 rfl rfl rfl rfl rfl) rfl rfl ?_
     refine qj_skip (wn2 rfl rfl rfl rfl rfl) rfl rfl ?_
     refine qj_skip (wn2 rfl rfl rfl rfl rfl) rfl rfl ?_
     refine qj_skip (wn2 rfl rfl rfl rfl rfl) rfl rfl ?_
     refine qj_skip (wn3 rfl rfl rfl rfl) rfl rfl ?_
     refine qj_skip (wn3 rfl rfl rfl rfl) rfl rfl ?_
     refine qj_skip (wn3 rfl rfl rfl rfl) rfl rfl ?_
     refine qj_skip (wn3 rfl rfl rfl rfl) rfl rfl ?_
     refine qj_skip (wn3 rfl rfl rfl rfl) rfl rfl ?_
     refine qj_skip (wn3 rfl rfl rfl rfl) rfl rfl ?_
     refine qj_skip (wn3 rfl rfl rfl rfl) rfl rfl ?_
     refine qj_skip (wn3 rfl rfl rfl rfl) rfl rfl ?_
     refine qj_skip (wn3 rfl rfl rfl rfl) rfl rfl ?_
     refine qj_skip (wn3 rfl rfl rfl rfl) rfl rfl ?_
     refine qj_skip (wn3 rfl rfl rfl rfl) rfl rfl ?_
     refine qj_skip (wn2 rfl rfl rfl rfl rfl) rfl rfl ?_
     refine qj_val (wn0 rfl) rfl rfl (y_pick_t rfl rfl) ?_
     refine qj_nil ?_
     refine hK12 _ _ _ ?_
     refine cj_env (eL 0 rfl (eL 1 rfl (eL 5 rfl (eL 43 rfl eN)))) ?_
     refine cj_cond_t rfl ?_
     refine cj_seq (fun K13 hK13 => ?_)
     refine cj_region ?_
     refine rv0 rfl rfl rfl (y_assign rfl) ?_
     refine rj_nil ?_
     refine hK13 _ _ _ ?_
     refine cj_env (eL 4 rfl eN) ?_
     refine cj_ret ?_
     refine hret _ _ _ ?_
     apply ej_ret Try.results43 (.cons (rv_tmp rfl) .nil) _ [] (by (first | exact Hp.le_refl _ | assumption | exact Hp.le_trans ‹_› ‹_›)) rfl
     case hp => refine ⟨?_, rfl⟩; first | (rw [all2_at hx hy (by clear hall hs; unfold okV; simp_all)]; rfl) | (rw [all2_iff.2 ⟨by omega, fun j c v h1 h2 => hall j c v (by have := (List.getElem?_eq_some_iff.1 h1).1; omega) h1 h2⟩]; rfl)
     case hS => (repeat (first|exact zR _|(apply zP;focus (repeat (first|exact zH _|apply zT)))|apply zD|exact zA _ _))
    ·try simp only [dT, dF, nT, nF, tF, fT] at hg23
     refine qj_val (wn1 rfl rfl rfl rfl) rfl rfl (y_move rfl) ?_
     refine qj_val (wn1 rfl rfl rfl rfl) rfl rfl (y_move rfl) ?_
     first | refine qj_val (wn1 rfl rfl rfl rfl) rfl rfl (y_indexAddr Try.underlying43 Try.sizeOf26 rfl rfl (by (first | omega | (dsimp only; omega) | (simp; done) | (simp; omega)))) ?_ | refine qj_val (wn1 rfl rfl rfl rfl) rfl rfl (y_index_slc Try.underlying43 Try.sizeOf26 rfl rfl (by (repeat (first|exact zH _|apply zT));done) (by (first | omega | (dsimp only; omega) | (simp; done) | (simp; omega)))) ?_
     refine qj_val (wn1 rfl rfl rfl rfl) rfl rfl (y_fieldAddr (k := 0) Try.underlying26 rfl (n := 1) (by decide) Try.sizeOf3 rfl) ?_
     refine qj_val (wn1 rfl rfl rfl rfl) rfl rfl ((y_load_ro ⟨Try.isAgg3, Try.sizeOf3⟩ rfl (hcell' 0 (.int .i64 y.kind) rfl))) ?_
     refine qj_val (wn1 rfl rfl rfl rfl) rfl rfl (y_neq rfl rfl) ?_
     refine qj_val (wn1 rfl rfl rfl rfl) rfl rfl (y_move rfl) ?_
     refine qj_part 30 rfl (fun hg30 => ?_) (fun hg30 => ?_)
     ·try simp only [dT, dF, nT, nF, tF, fT] at hg30
      refine qj_val (wn1 rfl rfl rfl rfl) rfl rfl (y_move rfl) ?_
      refine qj_val (wn1 rfl rfl rfl rfl) rfl rfl (y_move rfl) ?_
      first | refine qj_val (wn1 rfl rfl rfl rfl) rfl rfl (y_indexAddr Try.underlying43 Try.sizeOf26 rfl rfl (by (first | omega | (dsimp only; omega) | (simp; done) | (simp; omega)))) ?_ | refine qj_val (wn1 rfl rfl rfl rfl) rfl rfl (y_index_slc Try.underlying43 Try.sizeOf26 rfl rfl (by (repeat (first|exact zH _|apply zT));done) (by (first | omega | (dsimp only; omega) | (simp; done) | (simp; omega)))) ?_
      refine qj_val (wn1 rfl rfl rfl rfl) rfl rfl (y_fieldAddr (k := 0) Try.underlying26 rfl (n := 1) (by decide) Try.sizeOf3 rfl) ?_
      refine qj_val (wn1 rfl rfl rfl rfl) rfl rfl ((y_load_ro ⟨Try.isAgg3, Try.sizeOf3⟩ rfl (hcell' 0 (.int .i64 y.kind) rfl))) ?_
      refine qj_val (wn1 rfl rfl rfl rfl) rfl rfl (y_move rfl) ?_
      refine qj_val (wn1 rfl rfl rfl rfl) rfl rfl (y_move rfl) ?_
      first | refine qj_val (wn1 rfl rfl rfl rfl) rfl rfl (y_indexAddr Try.underlying35 Try.sizeOf66 rfl rfl (by (first | omega | (dsimp only; omega) | (simp; done) | (simp; omega)))) ?_ | refine qj_val (wn1 rfl rfl rfl rfl) rfl rfl (y_index_slc Try.underlying35 Try.sizeOf66 rfl rfl (by (repeat (first|exact zH _|apply zT));done) (by (first | omega | (dsimp only; omega) | (simp; done) | (simp; omega)))) ?_
      refine qj_val (wn1 rfl rfl rfl rfl) rfl rfl (y_fieldAddr (k := 1) Try.underlying66 rfl (n := 1) (by decide) Try.sizeOf3 rfl) ?_
      refine qj_val (wn1 rfl rfl rfl rfl) rfl rfl ((y_load_ro ⟨Try.isAgg3, Try.sizeOf3⟩ rfl (hcell 1 (.int .i64 x.kind) rfl))) ?_
      refine qj_val (wn1 rfl rfl rfl rfl) rfl rfl (y_neq rfl rfl) ?_
      refine qj_val (wn1 rfl rfl rfl rfl) rfl rfl (y_pick_t rfl rfl) ?_
      refine qj_val (wn0 rfl) rfl rfl (y_pick_f rfl rfl) ?_
      refine qj_nil ?_
      refine hK12 _ _ _ ?_
      refine cj_env (eL 0 rfl (eL 1 rfl (eL 5 rfl (eL 43 rfl eN)))) ?_
      refine cj_cond rfl (fun hc43 => ?_) (fun hc43 => ?_)
      ·try simp only [dT, dF, nT, nF, tF, fT] at hc43
       refine cj_seq (fun K15 hK15 => ?_)
       refine cj_region ?_
       refine rv0 rfl rfl rfl (y_assign rfl) ?_
       refine rj_nil ?_
       refine hK15 _ _ _ ?_
       refine cj_env (eL 4 rfl eN) ?_
       refine cj_ret ?_
       refine hret _ _ _ ?_
       apply ej_ret Try.results43 (.cons (rv_tmp rfl) .nil) _ [] (by (first | exact Hp.le_refl _ | assumption | exact Hp.le_trans ‹_› ‹_›)) rfl
       case hp => refine ⟨?_, rfl⟩; first | (rw [all2_at hx hy (by clear hall hs; unfold okV; simp_all)]; rfl) | (rw [all2_iff.2 ⟨by omega, fun j c v h1 h2 => hall j c v (by have := (List.getElem?_eq_some_iff.1 h1).1; omega) h1 h2⟩]; rfl)
       case hS => (repeat (first|exact zR _|(apply zP;focus (repeat (first|exact zH _|apply zT)))|apply zD|exact zA _ _))
      ·try simp only [dT, dF, nT, nF, tF, fT] at hc43
       refine cj_skip ?_
       refine hK11 _ _ _ ?_
       refine cj_region ?_
       refine rv0 rfl rfl rfl (y_move rfl) ?_
       first | refine rv0 rfl rfl rfl (y_add64 rfl rfl (by (first | omega | (dsimp only; omega) | (simp; done) | (simp; omega)))) ?_ | refine rv0 rfl rfl rfl (y_add rfl rfl) ?_
       refine rv0 rfl rfl rfl (y_assign rfl) ?_
       refine rj_nil ?_
       refine ej_on (q' := roundK _ _ _ _ _ _ _) rfl ?_
       refine ej_round (i + 1) (⟨by omega, fun j c v h h1 h2 => by rcases Nat.lt_succ_iff_lt_or_eq.1 h with (h|rfl); exact hall j c v h h1 h2; rw [hx] at h1; rw [hy] at h2; cases h1; cases h2; exact (by clear hall hs; unfold okV; simp_all)⟩) (by omega) (eC rfl (eC rfl (eC rfl eN))) rfl (by (repeat (first|exact zR _|(apply zP;focus (repeat (first|exact zH _|apply zT)))|apply zD|exact zA _ _)))
     ·try simp only [dT, dF, nT, nF, tF, fT] at hg30
      refine qj_skip (wn2 rfl rfl rfl rfl rfl) rfl rfl ?_
      refine qj_skip (wn2 rfl rfl rfl rfl rfl) rfl rfl ?_
      refine qj_skip (wn2 rfl rfl rfl rfl rfl) rfl rfl ?_
      refine qj_skip (wn2 rfl rfl rfl rfl rfl) rfl rfl ?_
      refine qj_skip (wn2 rfl rfl rfl rfl rfl) rfl rfl ?_
      refine qj_skip (wn2 rfl rfl rfl rfl rfl) rfl rfl ?_
      refine qj_skip (wn2 rfl rfl rfl rfl rfl) rfl rfl ?_
      refine qj_skip (wn2 rfl rfl rfl rfl rfl) rfl rfl ?_
      refine qj_skip (wn2 rfl rfl rfl rfl rfl) rfl rfl ?_
      refine qj_skip (wn2 rfl rfl rfl rfl rfl) rfl rfl ?_
      refine qj_skip (wn2 rfl rfl rfl rfl rfl) rfl rfl ?_
      refine qj_val (wn1 rfl rfl rfl rfl) rfl rfl (y_pick_f rfl rfl) ?_
      refine qj_val (wn0 rfl) rfl rfl (y_pick_f rfl rfl) ?_
      refine qj_nil ?_
      refine hK12 _ _ _ ?_
      refine cj_env (eL 0 rfl (eL 1 rfl (eL 5 rfl (eL 43 rfl eN)))) ?_
      refine cj_cond_f rfl ?_
      refine cj_skip ?_
      refine hK11 _ _ _ ?_
      refine cj_region ?_
      refine rv0 rfl rfl rfl (y_move rfl) ?_
      first | refine rv0 rfl rfl rfl (y_add64 rfl rfl (by (first | omega | (dsimp only; omega) | (simp; done) | (simp; omega)))) ?_ | refine rv0 rfl rfl rfl (y_add rfl rfl) ?_
      refine rv0 rfl rfl rfl (y_assign rfl) ?_
      refine rj_nil ?_
      refine ej_on (q' := roundK _ _ _ _ _ _ _) rfl ?_
      refine ej_round (i + 1) (⟨by omega, fun j c v h h1 h2 => by rcases Nat.lt_succ_iff_lt_or_eq.1 h with (h|rfl); exact hall j c v h h1 h2; rw [hx] at h1; rw [hy] at h2; cases h1; cases h2; exact (by clear hall hs; unfold okV; simp_all)⟩) (by omega) (eC rfl (eC rfl (eC rfl eN))) rfl (by (repeat (first|exact zR _|(apply zP;focus (repeat (first|exact zH _|apply zT)))|apply zD|exact zA _ _)))
   ·try simp only [dT, dF, nT, nF, tF, fT] at hc14
    refine cj_exit ?_
    refine hK6 _ _ _ ?_
    refine cj_env eN ?_
    refine cj_seq (fun K16 hK16 => ?_)
    refine cj_region ?_
    refine rv0 rfl rfl rfl (y_assign rfl) ?_
    refine rj_nil ?_
    refine hK16 _ _ _ ?_
    refine cj_ret ?_
    refine hret _ _ _ ?_
    apply ej_ret Try.results43 (.cons (rv_tmp rfl) .nil) _ [] (by (first | exact Hp.le_refl _ | assumption | exact Hp.le_trans ‹_› ‹_›)) rfl
    case hp => refine ⟨?_, rfl⟩; first | (rw [all2_at hx hy (by clear hall hs; unfold okV; simp_all)]; rfl) | (rw [all2_iff.2 ⟨by omega, fun j c v h1 h2 => hall j c v (by have := (List.getElem?_eq_some_iff.1 h1).1; omega) h1 h2⟩]; rfl)
    case hS => (repeat (first|exact zR _|(apply zP;focus (repeat (first|exact zH _|apply zT)))|apply zD|exact zA _ _))
end V
end Go.Proofs.Ytghgifgmacapcaa
