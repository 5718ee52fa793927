/- What the functions of package disk and of its reference do, told of the memory they touch. -/
import Derived.Test.YtcgjlhhfldkdaaaV11
import Derived.Test.YtcgjlhhfldkdaaaProg
import Derived.KernelRfl
set_option linter.unusedSimpArgs false
set_option linter.unusedVariables false
set_option maxRecDepth 100000
namespace Go.Proofs.Ytcgjlhhfldkdaaa
open Go.RowKit
namespace V
/-- a disk: its bytes, how many of them are sure, its fuel, whether that bounds, whether it is down -/
structure DK where
  b : List UInt8
  sure : Nat
  fuel : Int
  bound : Bool
  down : Bool
def DK.new : DK := ⟨[], 0, 0, false, false⟩
def DK.step (D : DK) : Bool × DK := if D.down then (false, D) else if D.bound then (if D.fuel = 0 then (false, { D with down := true }) else (true, { D with fuel := D.fuel - 1 })) else (true, D)
def DK.append (D : DK) (s : List UInt8) : Int × DK := if D.step.1 then (0, { D.step.2 with b := D.step.2.b ++ s }) else (3, D.step.2)
def DK.sync (D : DK) : Int × DK := if D.step.1 then (0, { D.step.2 with sure := D.step.2.b.length }) else (3, D.step.2)
def DK.swap (D : DK) (s : List UInt8) : Int × DK := if D.step.1 then (0, { D.step.2 with b := s, sure := s.length }) else (3, D.step.2)
def DK.setFuel (D : DK) (n : Int) : DK := { D with fuel := n, bound := decide (n ≥ 0) }
def DK.keeps (D : DK) (n : Int) : Nat := D.sure + min n.toNat (D.b.length - D.sure)
def DK.crash (D : DK) (n : Int) : DK := ⟨D.b.take (D.keeps n), D.keeps n, D.fuel, false, false⟩
def DK.ok (D : DK) (m : Nat) : Prop := D.sure ≤ D.b.length ∧ D.b.length ≤ m ∧ -9223372036854775808 ≤ D.fuel ∧ D.fuel ≤ 9223372036854775807 ∧ (D.bound = true → 0 ≤ D.fuel)
/-- the reference's: what is sure, what waits, its fuel, whether it is off -/
structure RK where
  sure : List UInt8
  wait : List UInt8
  fuel : Int
  off : Bool
def RK.new : RK := ⟨[], [], -1, false⟩
def RK.step (D : RK) : Int × RK := if D.off then (3, D) else if D.fuel = 0 then (3, { D with off := true }) else (0, { D with fuel := if D.fuel > 0 then D.fuel - 1 else D.fuel })
def RK.append (D : RK) (s : List UInt8) : Int × RK := (D.step.1, if D.step.1 = 0 then { D.step.2 with wait := D.step.2.wait ++ s } else D.step.2)
def RK.sync (D : RK) : Int × RK := (D.step.1, if D.step.1 = 0 then { D.step.2 with sure := D.step.2.sure ++ D.step.2.wait, wait := [] } else D.step.2)
def RK.swap (D : RK) (s : List UInt8) : Int × RK := (D.step.1, if D.step.1 = 0 then { D.step.2 with sure := s, wait := [] } else D.step.2)
def RK.crash (D : RK) (n : Int) : RK := ⟨D.sure ++ D.wait.take n.toNat, [], -1, false⟩

@[reducible] def dkB (b : Nat) (v : Value) (D : DK) : Asn := blk b [v, .int .i64 (D.sure : Int), .int .i64 D.fuel, .bool D.bound, .bool D.down] 54
@[reducible] def dkS (v : Value) (D : DK) : Asn := slc 5 1 v D.b.length (bytesV D.b)
set_option maxHeartbeats 1000000
theorem new_t {R : Hp} : Tri Try.prog 6 [] R [] (fun v R' L' => R = R' ∧ ∃ b u, v = .pointer (some ⟨b, 0, none⟩) ∧ L' = [dkB b u DK.new, dkS u DK.new]) := by
  refine tri_of Try.func6 rfl Try.ntmps6 rfl (fun σ F Q hret hend hpan => ?_)
  try simp only [List.cons_append, List.nil_append]
  refine cj_env eN ?_
  refine cj_seq (fun K1 hK1 => ?_)
  refine cj_region ?_
  refine rv0 rfl rfl rfl (y_assign rfl) ?_
  refine rj_nil ?_
  refine hK1 _ _ _ ?_
  refine cj_seq (fun K2 hK2 => ?_)
  refine cj_region ?_
  refine rv0 rfl rfl rfl (y_build (cells := [_, _, _, _, _]) [(0, 1), (1, 1), (2, 1), (3, 1), (4, 1)] Try.underlying54 Try.zeroValue54 (fun _ => rfl) rfl rfl) ?_
  refine rj_box (wn0 rfl) rfl rfl rfl (fun b2 => ?_)
  refine rj_add (A := dkS (.slice none 0 0) DK.new) (slc_nil _ _) ?_
  refine rv0 rfl rfl rfl (y_assign rfl) ?_
  refine rj_nil ?_
  refine hK2 _ _ _ ?_
  refine cj_ret ?_
  refine hret _ _ _ ?_
  apply ej_ret Try.results6 (.cons (rv_tmp rfl) .nil) _ [dkB b2 (.slice none 0 0) DK.new, dkS (.slice none 0 0) DK.new] (by (first | exact Hp.le_refl _ | assumption | exact Hp.le_trans ‹_› ‹_›)) rfl
  case hp => exact ⟨rfl, _, _, rfl, rfl⟩
  case hS => (repeat (first|exact zR _|(apply zP;focus (repeat (first|exact zH _|apply zT)))|apply zD|exact zA _ _))
theorem down_q {R : Hp} (b : Nat) (v : Value) (D : DK) : QTri Try.prog 31 [.pointer (some ⟨b, 0, none⟩)] R [dkB b v D] (.bool D.down) := by
  refine Tri.q ?_
  refine tri_of Try.func31 rfl Try.ntmps31 rfl (fun σ F Q hret hend hpan => ?_)
  try simp only [List.cons_append, List.nil_append]
  refine cj_env (eL 0 rfl eN) ?_
  refine cj_seq (fun K1 hK1 => ?_)
  refine cj_region ?_
  refine rv0 rfl rfl rfl (y_assign rfl) ?_
  refine rj_nil ?_
  refine hK1 _ _ _ ?_
  refine cj_seq (fun K2 hK2 => ?_)
  refine cj_region ?_
  refine rv0 rfl rfl rfl (y_move rfl) ?_
  refine rv0 rfl rfl rfl (y_peql Try.underlying29 rfl rfl) ?_
  refine rv0 rfl rfl rfl (y_move rfl) ?_
  refine rj_val (wn1 rfl rfl rfl rfl) rfl rfl (y_move rfl) ?_
  refine rj_val (wn1 rfl rfl rfl rfl) rfl rfl (y_nilCheck rfl) ?_
  refine rj_val (wn1 rfl rfl rfl rfl) rfl rfl (y_fieldAddr (k := 4) Try.underlying54 rfl (n := 1) (by decide) Try.sizeOf4 rfl) ?_
  first | refine rj_val (wn1 rfl rfl rfl rfl) rfl rfl (y_load ⟨Try.isAgg4, Try.sizeOf4⟩ rfl (by (repeat (first|exact zH _|apply zT));done) rfl) ?_ | refine rj_val (wn1 rfl rfl rfl rfl) rfl rfl (y_load_slc ⟨Try.isAgg4, Try.sizeOf4⟩ rfl (by (repeat (first|exact zH _|apply zT));done) rfl) ?_
  refine rv0 rfl rfl rfl (y_pick_f rfl rfl) ?_
  refine rv0 rfl rfl rfl (y_assign rfl) ?_
  refine rj_nil ?_
  refine hK2 _ _ _ ?_
  refine cj_env (eL 2 rfl eN) ?_
  refine cj_ret ?_
  refine hret _ _ _ ?_
  apply ej_ret Try.results31 (.cons (rv_tmp rfl) .nil) _ [dkB b v D] (by (first | exact Hp.le_refl _ | assumption | exact Hp.le_trans ‹_› ‹_›)) rfl
  case hp => exact ⟨rfl, rfl, rfl⟩
  case hS => (repeat (first|exact zR _|(apply zP;focus (repeat (first|exact zH _|apply zT)))|apply zD|exact zA _ _))
theorem step_t {R : Hp} (b : Nat) (v : Value) (D : DK) (m : Nat) (hD : D.ok m) : Tri Try.prog 35 [.pointer (some ⟨b, 0, none⟩)] R [dkB b v D] (fun r R' L' => R = R' ∧ r = .bool D.step.1 ∧ L' = [dkB b v D.step.2]) := by
  obtain ⟨h1, h2, h3, h4, h5⟩ := hD
  refine tri_of Try.func35 rfl Try.ntmps35 rfl (fun σ F Q hret hend hpan => ?_)
  try simp only [List.cons_append, List.nil_append]
  refine cj_env (eL 0 rfl eN) ?_
  refine cj_seq (fun K1 hK1 => ?_)
  refine cj_region ?_
  refine rv0 rfl rfl rfl (y_assign rfl) ?_
  refine rj_nil ?_
  refine hK1 _ _ _ ?_
  refine cj_seq (fun K2 hK2 => ?_)
  refine cj_block ?_
  refine cj_seq (fun K3 hK3 => ?_)
  refine cj_region ?_
  refine rv0 rfl rfl rfl (y_move rfl) ?_
  refine rv0 rfl rfl rfl (y_call Try.call31 rfl (down_q b v D) (by (repeat (first|exact zN _|(apply zS;focus (repeat (first|exact zH _|apply zT))))))) ?_
  refine rv0 rfl rfl rfl (y_assign rfl) ?_
  refine rj_nil ?_
  refine hK3 _ _ _ ?_
  refine cj_env (eL 0 rfl (eL 3 rfl eN)) ?_
  refine cj_cond rfl (fun hc3 => ?_) (fun hc3 => ?_)
  ·try simp only [dT, dF, nT, nF, tF, fT] at hc3
   refine cj_seq (fun K5 hK5 => ?_)
   refine cj_region ?_
   refine rv0 rfl rfl rfl (y_assign rfl) ?_
   refine rj_nil ?_
   refine hK5 _ _ _ ?_
   refine cj_ret ?_
   refine hret _ _ _ ?_
   apply ej_ret Try.results35 (.cons (rv_tmp rfl) .nil) _ _ (by (first | exact Hp.le_refl _ | assumption | exact Hp.le_trans ‹_› ‹_›)) rfl
   case hp => rw [show D.step = (false, D) by simp [DK.step, hc3]]; exact ⟨rfl, rfl, rfl⟩
   case hS => (repeat (first|exact zR _|(apply zP;focus (repeat (first|exact zH _|apply zT)))|apply zD|exact zA _ _))
  ·try simp only [dT, dF, nT, nF, tF, fT] at hc3
   refine cj_seq (fun K6 hK6 => ?_)
   refine cj_region ?_
   refine rv0 rfl rfl rfl (y_move rfl) ?_
   refine rv0 rfl rfl rfl (y_nilCheck rfl) ?_
   refine rv0 rfl rfl rfl (y_fieldAddr (k := 3) Try.underlying54 rfl (n := 1) (by decide) Try.sizeOf4 rfl) ?_
   first | refine rv0 rfl rfl rfl (y_load ⟨Try.isAgg4, Try.sizeOf4⟩ rfl (by (repeat (first|exact zH _|apply zT));done) rfl) ?_ | refine rv0 rfl rfl rfl (y_load_slc ⟨Try.isAgg4, Try.sizeOf4⟩ rfl (by (repeat (first|exact zH _|apply zT));done) rfl) ?_
   refine rv0 rfl rfl rfl (y_not rfl) ?_
   refine rv0 rfl rfl rfl (y_assign rfl) ?_
   refine rj_nil ?_
   refine hK6 _ _ _ ?_
   refine cj_env (eL 0 rfl (eL 6 rfl eN)) ?_
   refine cj_cond rfl (fun hc6 => ?_) (fun hc6 => ?_)
   ·try simp only [dT, dF, nT, nF, tF, fT] at hc6
    refine cj_seq (fun K8 hK8 => ?_)
    refine cj_region ?_
    refine rv0 rfl rfl rfl (y_assign rfl) ?_
    refine rj_nil ?_
    refine hK8 _ _ _ ?_
    refine cj_ret ?_
    refine hret _ _ _ ?_
    apply ej_ret Try.results35 (.cons (rv_tmp rfl) .nil) _ _ (by (first | exact Hp.le_refl _ | assumption | exact Hp.le_trans ‹_› ‹_›)) rfl
    case hp => rw [show D.step = (true, D) by simp [DK.step, hc3, hc6]]; exact ⟨rfl, rfl, rfl⟩
    case hS => (repeat (first|exact zR _|(apply zP;focus (repeat (first|exact zH _|apply zT)))|apply zD|exact zA _ _))
   ·(try simp only [dT, dF, nT, nF, tF, fT] at hc6); have hf := h5 hc6
    refine cj_seq (fun K9 hK9 => ?_)
    refine cj_region ?_
    refine rv0 rfl rfl rfl (y_move rfl) ?_
    refine rv0 rfl rfl rfl (y_nilCheck rfl) ?_
    refine rv0 rfl rfl rfl (y_fieldAddr (k := 2) Try.underlying54 rfl (n := 1) (by decide) Try.sizeOf3 rfl) ?_
    first | refine rv0 rfl rfl rfl (y_load ⟨Try.isAgg3, Try.sizeOf3⟩ rfl (by (repeat (first|exact zH _|apply zT));done) rfl) ?_ | refine rv0 rfl rfl rfl (y_load_slc ⟨Try.isAgg3, Try.sizeOf3⟩ rfl (by (repeat (first|exact zH _|apply zT));done) rfl) ?_
    refine rv0 rfl rfl rfl (y_eql rfl rfl) ?_
    refine rv0 rfl rfl rfl (y_assign rfl) ?_
    refine rj_nil ?_
    refine hK9 _ _ _ ?_
    refine cj_env (eL 0 rfl (eL 12 rfl eN)) ?_
    refine cj_cond rfl (fun hc12 => ?_) (fun hc12 => ?_)
    ·try simp only [dT, dF, nT, nF, tF, fT] at hc12
     refine cj_seq (fun K11 hK11 => ?_)
     refine cj_region ?_
     refine rv0 rfl rfl rfl (y_move rfl) ?_
     refine rv0 rfl rfl rfl (y_nilCheck rfl) ?_
     refine rv0 rfl rfl rfl (y_fieldAddr (k := 4) Try.underlying54 rfl (n := 1) (by decide) Try.sizeOf4 rfl) ?_
     refine rj_store ⟨Try.isAgg4, Try.sizeOf4⟩ (wn0 rfl) rfl rfl (by (first | rfl | assumption | (apply cutV_one; assumption))) (by (repeat (first|exact zH _|apply zT));done) rfl rfl ?_
     refine rj_nil ?_
     refine hK11 _ _ _ ?_
     refine cj_env eN ?_
     refine cj_seq (fun K12 hK12 => ?_)
     refine cj_region ?_
     refine rv0 rfl rfl rfl (y_assign rfl) ?_
     refine rj_nil ?_
     refine hK12 _ _ _ ?_
     refine cj_ret ?_
     refine hret _ _ _ ?_
     apply ej_ret Try.results35 (.cons (rv_tmp rfl) .nil) _ _ (by (first | exact Hp.le_refl _ | assumption | exact Hp.le_trans ‹_› ‹_›)) rfl
     case hp => rw [show D.step = (false, { D with down := true }) by simp [DK.step, hc3, hc6, hc12]]; exact ⟨rfl, rfl, rfl⟩
     case hS => (repeat (first|exact zR _|(apply zP;focus (repeat (first|exact zH _|apply zT)))|apply zD|exact zA _ _))
    ·try simp only [dT, dF, nT, nF, tF, fT] at hc12
     refine cj_skip ?_
     refine hK2 _ _ _ ?_
     refine cj_seq (fun K13 hK13 => ?_)
     refine cj_region ?_
     refine rv0 rfl rfl rfl (y_move rfl) ?_
     refine rv0 rfl rfl rfl (y_nilCheck rfl) ?_
     refine rv0 rfl rfl rfl (y_fieldAddr (k := 2) Try.underlying54 rfl (n := 1) (by decide) Try.sizeOf3 rfl) ?_
     first | refine rv0 rfl rfl rfl (y_load ⟨Try.isAgg3, Try.sizeOf3⟩ rfl (by (repeat (first|exact zH _|apply zT));done) rfl) ?_ | refine rv0 rfl rfl rfl (y_load_slc ⟨Try.isAgg3, Try.sizeOf3⟩ rfl (by (repeat (first|exact zH _|apply zT));done) rfl) ?_
     first | refine rv0 rfl rfl rfl (y_sub64 rfl rfl (by (first | omega | (dsimp only; omega) | (simp; done) | (simp; omega)))) ?_ | refine rv0 rfl rfl rfl (y_sub rfl rfl) ?_
     refine rv0 rfl rfl rfl (y_nilCheck rfl) ?_
     refine rv0 rfl rfl rfl (y_fieldAddr (k := 2) Try.underlying54 rfl (n := 1) (by decide) Try.sizeOf3 rfl) ?_
     refine rj_store ⟨Try.isAgg3, Try.sizeOf3⟩ (wn0 rfl) rfl rfl (by (first | rfl | assumption | (apply cutV_one; assumption))) (by (repeat (first|exact zH _|apply zT));done) rfl rfl ?_
     refine rj_nil ?_
     refine hK13 _ _ _ ?_
     refine cj_env eN ?_
     refine cj_seq (fun K14 hK14 => ?_)
     refine cj_region ?_
     refine rv0 rfl rfl rfl (y_assign rfl) ?_
     refine rj_nil ?_
     refine hK14 _ _ _ ?_
     refine cj_ret ?_
     refine hret _ _ _ ?_
     apply ej_ret Try.results35 (.cons (rv_tmp rfl) .nil) _ _ (by (first | exact Hp.le_refl _ | assumption | exact Hp.le_trans ‹_› ‹_›)) rfl
     case hp => rw [show D.step = (true, { D with fuel := D.fuel - 1 }) by simp [DK.step, hc3, hc6, hc12]]; exact ⟨rfl, rfl, rfl⟩
     case hS => (repeat (first|exact zR _|(apply zP;focus (repeat (first|exact zH _|apply zT)))|apply zD|exact zA _ _))
theorem DK.step_b (D : DK) : D.step.2.b = D.b ∧ D.step.2.sure = D.sure := by
  unfold DK.step; split
  · exact ⟨rfl, rfl⟩
  · split
    · split <;> exact ⟨rfl, rfl⟩
    · exact ⟨rfl, rfl⟩
theorem DK.step_ok {D : DK} {m : Nat} (h : D.ok m) : D.step.2.ok m := by
  obtain ⟨h1, h2, h3, h4, h5⟩ := h
  unfold DK.step; split
  · exact ⟨h1, h2, h3, h4, h5⟩
  · split
    · have := h5 ‹_›
      split
      · exact ⟨h1, h2, h3, h4, h5⟩
      · exact ⟨h1, h2, by simp only; omega, by simp only; omega, fun _ => by simp only; omega⟩
    · exact ⟨h1, h2, h3, h4, h5⟩
theorem append_t {R : Hp} (b : Nat) (v : Value) (D : DK) (m : Nat) (hD : D.ok m) (s : List UInt8) (hm : m + s.length ≤ 1000000000) : Tri Try.prog 37 [.pointer (some ⟨b, 0, none⟩), .string (str s)] R [dkB b v D, dkS v D]
    (fun r R' L' => R = R' ∧ r = .int .i64 (D.append s).1 ∧ ∃ u, L' = [dkB b u (D.append s).2, dkS u (D.append s).2]) := by
  have hs := D.step_b
  obtain ⟨S, hS⟩ : ∃ S, S = D.step := ⟨_, rfl⟩
  obtain ⟨h1, h2, h3, h4, h5⟩ := DK.step_ok hD
  refine tri_of Try.func37 rfl Try.ntmps37 rfl (fun σ F Q hret hend hpan => ?_)
  try simp only [List.cons_append, List.nil_append]
  refine cj_env (eL 0 rfl (eL 1 rfl eN)) ?_
  refine cj_seq (fun K1 hK1 => ?_)
  refine cj_region ?_
  refine rv0 rfl rfl rfl (y_assign rfl) ?_
  refine rj_nil ?_
  refine hK1 _ _ _ ?_
  refine cj_seq (fun K2 hK2 => ?_)
  refine cj_seq (fun K3 hK3 => ?_)
  refine cj_region ?_
  refine rv0 rfl rfl rfl (y_move rfl) ?_
  refine rj_call (wn0 rfl) rfl Try.call35 rfl (step_t b v D m hD) (by (repeat (first|exact zN _|(apply zS;focus (repeat (first|exact zH _|apply zT)))))) (fun _ _ _ _ h => h.elim) ?_
  rintro r R' L' hR ⟨rfl, rfl, rfl⟩
  rw [show dkS v D = dkS v D.step.2 by unfold dkS; rw [hs.1]]
  try simp only [List.cons_append, List.nil_append]
  refine rv0 rfl rfl rfl (y_not rfl) ?_
  refine rj_nil ?_
  refine hK3 _ _ _ ?_
  refine cj_env (eL 0 rfl (eL 1 rfl (eL 7 rfl eN))) ?_
  refine cj_cond rfl (fun hc7 => ?_) (fun hc7 => ?_)
  ·try simp only [dT, dF, nT, nF, tF, fT] at hc7
   refine cj_seq (fun K5 hK5 => ?_)
   refine cj_region ?_
   refine rv0 rfl rfl rfl (y_assign rfl) ?_
   refine rj_nil ?_
   refine hK5 _ _ _ ?_
   refine cj_env (eL 4 rfl eN) ?_
   refine cj_ret ?_
   refine hret _ _ _ ?_
   apply ej_ret Try.results37 (.cons (rv_tmp rfl) .nil) _ [dkB b v D.step.2, dkS v D.step.2] (by (first | exact Hp.le_refl _ | assumption | exact Hp.le_trans ‹_› ‹_›)) rfl
   case hp => rw [show D.append s = (3, D.step.2) by simp [DK.append, hc7]]; exact ⟨rfl, rfl, _, rfl⟩
   case hS => (repeat (first|exact zR _|(apply zP;focus (repeat (first|exact zH _|apply zT)))|apply zD|exact zA _ _))
  ·try simp only [dT, dF, nT, nF, tF, fT] at hc7
   refine cj_skip ?_
   refine hK2 _ _ _ ?_
   refine cj_seq (fun K6 hK6 => ?_)
   refine cj_region ?_
   refine rv0 rfl rfl rfl (y_move rfl) ?_
   refine rv0 rfl rfl rfl (y_move rfl) ?_
   refine rv0 rfl rfl rfl (y_nilCheck rfl) ?_
   refine rv0 rfl rfl rfl (y_fieldAddr (k := 0) Try.underlying54 rfl (n := 1) (by decide) Try.sizeOf52 rfl) ?_
   first | refine rv0 rfl rfl rfl (y_load ⟨Try.isAgg52, Try.sizeOf52⟩ rfl (by (repeat (first|exact zH _|apply zT));done) rfl) ?_ | refine rv0 rfl rfl rfl (y_load_slc ⟨Try.isAgg52, Try.sizeOf52⟩ rfl (by (repeat (first|exact zH _|apply zT));done) rfl) ?_
   refine rv0 rfl rfl rfl (y_move rfl) ?_
   refine rj_append (sz := 1) (by_ := 1) ⟨Try.underlying52, _, _, rfl, rfl, rfl, rfl, rfl⟩ (wn0 rfl) rfl rfl rfl (by (repeat (first|exact zH _|apply zT));done) (src_str Try.underlying9) rfl (by (first | omega | (dsimp only; omega) | (simp; done) | (simp; omega))) (by simp only [maxLen]; omega) (fun v14 ho14 hh14 => ?_)
   rw [bytesV_app, ← List.length_append]
   refine rv0 rfl rfl rfl (y_nilCheck rfl) ?_
   refine rv0 rfl rfl rfl (y_fieldAddr (k := 0) Try.underlying54 rfl (n := 1) (by decide) Try.sizeOf52 rfl) ?_
   refine rj_store ⟨Try.isAgg52, Try.sizeOf52⟩ (wn0 rfl) rfl rfl (by (first | rfl | assumption | (apply cutV_one; assumption))) (by (repeat (first|exact zH _|apply zT));done) rfl rfl ?_
   refine rj_nil ?_
   refine hK6 _ _ _ ?_
   refine cj_env eN ?_
   refine cj_seq (fun K7 hK7 => ?_)
   refine cj_region ?_
   refine rv0 rfl rfl rfl (y_assign rfl) ?_
   refine rj_nil ?_
   refine hK7 _ _ _ ?_
   refine cj_ret ?_
   refine hret _ _ _ ?_
   apply ej_ret Try.results37 (.cons (rv_tmp rfl) .nil) _ [dkB b v14 { D.step.2 with b := D.step.2.b ++ s }, dkS v14 { D.step.2 with b := D.step.2.b ++ s }] (by (first | exact Hp.le_refl _ | assumption | exact Hp.le_trans ‹_› ‹_›)) rfl
   case hp => rw [show D.append s = (0, { D.step.2 with b := D.step.2.b ++ s }) by simp [DK.append, hc7]]; exact ⟨rfl, rfl, _, rfl⟩
   case hS => (repeat (first|exact zR _|(apply zP;focus (repeat (first|exact zH _|apply zT)))|apply zD|exact zA _ _))
theorem sync_t {R : Hp} (b : Nat) (v : Value) (D : DK) (m : Nat) (hD : D.ok m) : Tri Try.prog 38 [.pointer (some ⟨b, 0, none⟩)] R [dkB b v D, dkS v D]
    (fun r R' L' => R = R' ∧ r = .int .i64 D.sync.1 ∧ ∃ u, L' = [dkB b u D.sync.2, dkS u D.sync.2]) := by
  have hs := D.step_b
  refine tri_of Try.func38 rfl Try.ntmps38 rfl (fun σ F Q hret hend hpan => ?_)
  try simp only [List.cons_append, List.nil_append]
  refine cj_env (eL 0 rfl eN) ?_
  refine cj_seq (fun K1 hK1 => ?_)
  refine cj_region ?_
  refine rv0 rfl rfl rfl (y_assign rfl) ?_
  refine rj_nil ?_
  refine hK1 _ _ _ ?_
  refine cj_seq (fun K2 hK2 => ?_)
  refine cj_seq (fun K3 hK3 => ?_)
  refine cj_region ?_
  refine rv0 rfl rfl rfl (y_move rfl) ?_
  refine rj_call (wn0 rfl) rfl Try.call35 rfl (step_t b v D m hD) (by (repeat (first|exact zN _|(apply zS;focus (repeat (first|exact zH _|apply zT)))))) (fun _ _ _ _ h => h.elim) ?_
  rintro r R' L' hR ⟨rfl, rfl, rfl⟩
  rw [show dkS v D = dkS v D.step.2 by unfold dkS; rw [hs.1]]
  try simp only [List.cons_append, List.nil_append]
  refine rv0 rfl rfl rfl (y_not rfl) ?_
  refine rj_nil ?_
  refine hK3 _ _ _ ?_
  refine cj_env (eL 0 rfl (eL 5 rfl eN)) ?_
  refine cj_cond rfl (fun hc5 => ?_) (fun hc5 => ?_)
  ·try simp only [dT, dF, nT, nF, tF, fT] at hc5
   refine cj_seq (fun K5 hK5 => ?_)
   refine cj_region ?_
   refine rv0 rfl rfl rfl (y_assign rfl) ?_
   refine rj_nil ?_
   refine hK5 _ _ _ ?_
   refine cj_ret ?_
   refine hret _ _ _ ?_
   apply ej_ret Try.results38 (.cons (rv_tmp rfl) .nil) _ [dkB b v D.step.2, dkS v D.step.2] (by (first | exact Hp.le_refl _ | assumption | exact Hp.le_trans ‹_› ‹_›)) rfl
   case hp => rw [show D.sync = (3, D.step.2) by simp [DK.sync, hc5]]; exact ⟨rfl, rfl, _, rfl⟩
   case hS => (repeat (first|exact zR _|(apply zP;focus (repeat (first|exact zH _|apply zT)))|apply zD|exact zA _ _))
  ·try simp only [dT, dF, nT, nF, tF, fT] at hc5
   refine cj_skip ?_
   refine hK2 _ _ _ ?_
   refine cj_seq (fun K6 hK6 => ?_)
   refine cj_region ?_
   refine rv0 rfl rfl rfl (y_move rfl) ?_
   refine rv0 rfl rfl rfl (y_move rfl) ?_
   refine rv0 rfl rfl rfl (y_nilCheck rfl) ?_
   refine rv0 rfl rfl rfl (y_fieldAddr (k := 0) Try.underlying54 rfl (n := 1) (by decide) Try.sizeOf52 rfl) ?_
   first | refine rv0 rfl rfl rfl (y_load ⟨Try.isAgg52, Try.sizeOf52⟩ rfl (by (repeat (first|exact zH _|apply zT));done) rfl) ?_ | refine rv0 rfl rfl rfl (y_load_slc ⟨Try.isAgg52, Try.sizeOf52⟩ rfl (by (repeat (first|exact zH _|apply zT));done) rfl) ?_
   first | refine rv0 rfl rfl rfl (y_len_sl Try.underlying52 rfl) ?_ | refine rv0 rfl rfl rfl (y_len_slc Try.underlying52 rfl (by (repeat (first|exact zH _|apply zT));done)) ?_
   refine rv0 rfl rfl rfl (y_nilCheck rfl) ?_
   refine rv0 rfl rfl rfl (y_fieldAddr (k := 1) Try.underlying54 rfl (n := 1) (by decide) Try.sizeOf3 rfl) ?_
   refine rj_store ⟨Try.isAgg3, Try.sizeOf3⟩ (wn0 rfl) rfl rfl (by (first | rfl | assumption | (apply cutV_one; assumption))) (by (repeat (first|exact zH _|apply zT));done) rfl rfl ?_
   refine rj_nil ?_
   refine hK6 _ _ _ ?_
   refine cj_env eN ?_
   refine cj_seq (fun K7 hK7 => ?_)
   refine cj_region ?_
   refine rv0 rfl rfl rfl (y_assign rfl) ?_
   refine rj_nil ?_
   refine hK7 _ _ _ ?_
   refine cj_ret ?_
   refine hret _ _ _ ?_
   apply ej_ret Try.results38 (.cons (rv_tmp rfl) .nil) _ [dkB b v { D.step.2 with sure := D.step.2.b.length }, dkS v D.step.2] (by (first | exact Hp.le_refl _ | assumption | exact Hp.le_trans ‹_› ‹_›)) rfl
   case hp => rw [show D.sync = (0, { D.step.2 with sure := D.step.2.b.length }) by simp [DK.sync, hc5]]; exact ⟨rfl, rfl, _, rfl⟩
   case hS => (repeat (first|exact zR _|(apply zP;focus (repeat (first|exact zH _|apply zT)))|apply zD|exact zA _ _))
theorem swap_t {R : Hp} (b : Nat) (v : Value) (D : DK) (m : Nat) (hD : D.ok m) (s : List UInt8) (hm : s.length ≤ 1000000000) : Tri Try.prog 21 [.pointer (some ⟨b, 0, none⟩), .string (str s)] R [dkB b v D, dkS v D]
    (fun r R' L' => R = R' ∧ r = .int .i64 (D.swap s).1 ∧ ∃ u, L' = [dkB b u (D.swap s).2, dkS u (D.swap s).2]) := by
  have hs := D.step_b
  refine tri_of Try.func21 rfl Try.ntmps21 rfl (fun σ F Q hret hend hpan => ?_)
  try simp only [List.cons_append, List.nil_append]
  refine cj_env (eL 0 rfl (eL 1 rfl eN)) ?_
  refine cj_seq (fun K1 hK1 => ?_)
  refine cj_region ?_
  refine rv0 rfl rfl rfl (y_assign rfl) ?_
  refine rj_nil ?_
  refine hK1 _ _ _ ?_
  refine cj_seq (fun K2 hK2 => ?_)
  refine cj_seq (fun K3 hK3 => ?_)
  refine cj_region ?_
  refine rv0 rfl rfl rfl (y_move rfl) ?_
  refine rj_call (wn0 rfl) rfl Try.call35 rfl (step_t b v D m hD) (by (repeat (first|exact zN _|(apply zS;focus (repeat (first|exact zH _|apply zT)))))) (fun _ _ _ _ h => h.elim) ?_
  rintro r R' L' hR ⟨rfl, rfl, rfl⟩
  rw [show dkS v D = dkS v D.step.2 by unfold dkS; rw [hs.1]]
  try simp only [List.cons_append, List.nil_append]
  refine rv0 rfl rfl rfl (y_not rfl) ?_
  refine rj_nil ?_
  refine hK3 _ _ _ ?_
  refine cj_env (eL 0 rfl (eL 1 rfl (eL 7 rfl eN))) ?_
  refine cj_cond rfl (fun hc7 => ?_) (fun hc7 => ?_)
  ·try simp only [dT, dF, nT, nF, tF, fT] at hc7
   refine cj_seq (fun K5 hK5 => ?_)
   refine cj_region ?_
   refine rv0 rfl rfl rfl (y_assign rfl) ?_
   refine rj_nil ?_
   refine hK5 _ _ _ ?_
   refine cj_env (eL 4 rfl eN) ?_
   refine cj_ret ?_
   refine hret _ _ _ ?_
   apply ej_ret Try.results21 (.cons (rv_tmp rfl) .nil) _ [dkB b v D.step.2, dkS v D.step.2] (by (first | exact Hp.le_refl _ | assumption | exact Hp.le_trans ‹_› ‹_›)) rfl
   case hp => rw [show D.swap s = (3, D.step.2) by simp [DK.swap, hc7]]; exact ⟨rfl, rfl, _, rfl⟩
   case hS => (repeat (first|exact zR _|(apply zP;focus (repeat (first|exact zH _|apply zT)))|apply zD|exact zA _ _))
  ·try simp only [dT, dF, nT, nF, tF, fT] at hc7
   refine cj_skip ?_
   refine hK2 _ _ _ ?_
   refine cj_seq (fun K6 hK6 => ?_)
   refine cj_region ?_
   refine rv0 rfl rfl rfl (y_move rfl) ?_
   refine rv0 rfl rfl rfl (y_move rfl) ?_
   refine rv0 rfl rfl rfl (y_move rfl) ?_
   refine rj_bytes (wn0 rfl) rfl Try.underlying9 Try.underlying52 Try.underlying5 rfl (by simp only [maxLen]; omega) (fun v11 ho11 => ?_)
   refine rv0 rfl rfl rfl (y_move rfl) ?_
   refine rv0 rfl rfl rfl (y_slen Try.underlying9 rfl) ?_
   refine rv0 rfl rfl rfl (y_nilCheck rfl) ?_
   refine rv0 rfl rfl rfl (y_fieldAddr (k := 0) Try.underlying54 rfl (n := 1) (by decide) Try.sizeOf52 rfl) ?_
   refine rj_store ⟨Try.isAgg52, Try.sizeOf52⟩ (wn0 rfl) rfl rfl (by (first | rfl | assumption | (apply cutV_one; assumption))) (by (repeat (first|exact zH _|apply zT));done) rfl rfl ?_
   refine rv0 rfl rfl rfl (y_nilCheck rfl) ?_
   refine rv0 rfl rfl rfl (y_fieldAddr (k := 1) Try.underlying54 rfl (n := 1) (by decide) Try.sizeOf3 rfl) ?_
   refine rj_store ⟨Try.isAgg3, Try.sizeOf3⟩ (wn0 rfl) rfl rfl (by (first | rfl | assumption | (apply cutV_one; assumption))) (by (repeat (first|exact zH _|apply zT));done) rfl rfl ?_
   refine rj_nil ?_
   refine hK6 _ _ _ ?_
   refine cj_env eN ?_
   refine cj_seq (fun K7 hK7 => ?_)
   refine cj_region ?_
   refine rv0 rfl rfl rfl (y_assign rfl) ?_
   refine rj_nil ?_
   refine hK7 _ _ _ ?_
   refine cj_ret ?_
   refine hret _ _ _ ?_
   apply ej_ret Try.results21 (.cons (rv_tmp rfl) .nil) _ [dkB b v11 { D.step.2 with b := s, sure := s.length }, dkS v11 { D.step.2 with b := s }] (by (first | exact Hp.le_refl _ | assumption | exact Hp.le_trans ‹_› ‹_›)) rfl
   case hp => rw [show D.swap s = (0, { D.step.2 with b := s, sure := s.length }) by simp [DK.swap, hc7]]; exact ⟨rfl, rfl, _, rfl⟩
   case hS => (repeat (first|exact zR _|(apply zP;focus (repeat (first|exact zH _|apply zT)))|apply zD|exact zA _ _))
theorem read_q {R : Hp} (b : Nat) (v : Value) (D : DK) : QTri Try.prog 18 [.pointer (some ⟨b, 0, none⟩)] R [dkB b v D, dkS v D]
    (.tuple #[.string (str (if D.down then [] else D.b)), .int .i64 (if D.down then 3 else 0)]) := by
  refine Tri.q ?_
  refine tri_of Try.func18 rfl Try.ntmps18 rfl (fun σ F Q hret hend hpan => ?_)
  try simp only [List.cons_append, List.nil_append]
  refine cj_env (eL 0 rfl eN) ?_
  refine cj_seq (fun K1 hK1 => ?_)
  refine cj_region ?_
  refine rv0 rfl rfl rfl (y_assign rfl) ?_
  refine rv0 rfl rfl rfl (y_assign rfl) ?_
  refine rj_nil ?_
  refine hK1 _ _ _ ?_
  refine cj_seq (fun K2 hK2 => ?_)
  refine cj_seq (fun K3 hK3 => ?_)
  refine cj_region ?_
  refine rv0 rfl rfl rfl (y_move rfl) ?_
  refine rv0 rfl rfl rfl (y_call Try.call31 rfl (down_q b v D) (by (repeat (first|exact zN _|(apply zS;focus (repeat (first|exact zH _|apply zT))))))) ?_
  refine rj_nil ?_
  refine hK3 _ _ _ ?_
  refine cj_env (eL 0 rfl (eL 5 rfl eN)) ?_
  refine cj_cond rfl (fun hc5 => ?_) (fun hc5 => ?_)
  ·try simp only [dT, dF, nT, nF, tF, fT] at hc5
   refine cj_seq (fun K5 hK5 => ?_)
   refine cj_region ?_
   refine rv0 rfl rfl rfl (y_assign rfl) ?_
   refine rv0 rfl rfl rfl (y_assign rfl) ?_
   refine rj_nil ?_
   refine hK5 _ _ _ ?_
   refine cj_ret ?_
   refine hret _ _ _ ?_
   apply ej_ret Try.results18 (.cons (rv_tmp rfl) (.cons (rv_tmp rfl) .nil)) _ [dkB b v D, dkS v D] (by (first | exact Hp.le_refl _ | assumption | exact Hp.le_trans ‹_› ‹_›)) rfl
   case hp => rw [hc5]; exact ⟨rfl, rfl, rfl⟩
   case hS => (repeat (first|exact zR _|(apply zP;focus (repeat (first|exact zH _|apply zT)))|apply zD|exact zA _ _))
  ·try simp only [dT, dF, nT, nF, tF, fT] at hc5
   refine cj_skip ?_
   refine hK2 _ _ _ ?_
   refine cj_seq (fun K6 hK6 => ?_)
   refine cj_region ?_
   refine rv0 rfl rfl rfl (y_move rfl) ?_
   refine rv0 rfl rfl rfl (y_nilCheck rfl) ?_
   refine rv0 rfl rfl rfl (y_fieldAddr (k := 0) Try.underlying54 rfl (n := 1) (by decide) Try.sizeOf52 rfl) ?_
   first | refine rv0 rfl rfl rfl (y_load ⟨Try.isAgg52, Try.sizeOf52⟩ rfl (by (repeat (first|exact zH _|apply zT));done) rfl) ?_ | refine rv0 rfl rfl rfl (y_load_slc ⟨Try.isAgg52, Try.sizeOf52⟩ rfl (by (repeat (first|exact zH _|apply zT));done) rfl) ?_
   refine rv0 rfl rfl rfl (y_str_slc Try.underlying52 Try.underlying5 Try.underlying9 rfl (by (repeat (first|exact zH _|apply zT));done)) ?_
   refine rv0 rfl rfl rfl (y_assign rfl) ?_
   refine rv0 rfl rfl rfl (y_assign rfl) ?_
   refine rj_nil ?_
   refine hK6 _ _ _ ?_
   refine cj_env (eL 2 rfl (eL 3 rfl eN)) ?_
   refine cj_ret ?_
   refine hret _ _ _ ?_
   apply ej_ret Try.results18 (.cons (rv_tmp rfl) (.cons (rv_tmp rfl) .nil)) _ [dkB b v D, dkS v D] (by (first | exact Hp.le_refl _ | assumption | exact Hp.le_trans ‹_› ‹_›)) rfl
   case hp => rw [hc5]; exact ⟨rfl, rfl, rfl⟩
   case hS => (repeat (first|exact zR _|(apply zP;focus (repeat (first|exact zH _|apply zT)))|apply zD|exact zA _ _))
theorem waits_q {R : Hp} (b : Nat) (v : Value) (D : DK) (h : D.sure ≤ D.b.length ∧ D.b.length ≤ 1000000000) : QTri Try.prog 28 [.pointer (some ⟨b, 0, none⟩)] R [dkB b v D, dkS v D] (.int .i64 ((D.b.length : Int) - D.sure)) := by
  refine Tri.q ?_
  refine tri_of Try.func28 rfl Try.ntmps28 rfl (fun σ F Q hret hend hpan => ?_)
  try simp only [List.cons_append, List.nil_append]
  refine cj_env (eL 0 rfl eN) ?_
  refine cj_seq (fun K1 hK1 => ?_)
  refine cj_region ?_
  refine rv0 rfl rfl rfl (y_assign rfl) ?_
  refine rj_nil ?_
  refine hK1 _ _ _ ?_
  refine cj_seq (fun K2 hK2 => ?_)
  refine cj_seq (fun K3 hK3 => ?_)
  refine cj_region ?_
  refine rv0 rfl rfl rfl (y_move rfl) ?_
  refine rv0 rfl rfl rfl (y_peql Try.underlying29 rfl rfl) ?_
  refine rj_nil ?_
  refine hK3 _ _ _ ?_
  refine cj_cond rfl (fun hc4 => ?_) (fun hc4 => ?_)
  · cases hc4
  ·try simp only [dT, dF, nT, nF, tF, fT] at hc4
   refine cj_skip ?_
   refine hK2 _ _ _ ?_
   refine cj_env (eL 0 rfl eN) ?_
   refine cj_seq (fun K5 hK5 => ?_)
   refine cj_draw (by kernel_rfl) (by kernel_rfl) ?_
   refine qj_val (wn0 rfl) rfl rfl (y_move rfl) ?_
   refine qj_val (wn0 rfl) rfl rfl (y_nilCheck rfl) ?_
   refine qj_val (wn0 rfl) rfl rfl (y_fieldAddr (k := 0) Try.underlying54 rfl (n := 1) (by decide) Try.sizeOf52 rfl) ?_
   first | refine qj_val (wn0 rfl) rfl rfl (y_load ⟨Try.isAgg52, Try.sizeOf52⟩ rfl (by (repeat (first|exact zH _|apply zT));done) rfl) ?_ | refine qj_val (wn0 rfl) rfl rfl (y_load_slc ⟨Try.isAgg52, Try.sizeOf52⟩ rfl (by (repeat (first|exact zH _|apply zT));done) rfl) ?_
   first | refine qj_val (wn0 rfl) rfl rfl (y_len_sl Try.underlying52 rfl) ?_ | refine qj_val (wn0 rfl) rfl rfl (y_len_slc Try.underlying52 rfl (by (repeat (first|exact zH _|apply zT));done)) ?_
   refine qj_val (wn0 rfl) rfl rfl (y_move rfl) ?_
   refine qj_val (wn0 rfl) rfl rfl (y_nilCheck rfl) ?_
   refine qj_val (wn0 rfl) rfl rfl (y_fieldAddr (k := 1) Try.underlying54 rfl (n := 1) (by decide) Try.sizeOf3 rfl) ?_
   first | refine qj_val (wn0 rfl) rfl rfl (y_load ⟨Try.isAgg3, Try.sizeOf3⟩ rfl (by (repeat (first|exact zH _|apply zT));done) rfl) ?_ | refine qj_val (wn0 rfl) rfl rfl (y_load_slc ⟨Try.isAgg3, Try.sizeOf3⟩ rfl (by (repeat (first|exact zH _|apply zT));done) rfl) ?_
   first | refine qj_val (wn0 rfl) rfl rfl (y_sub64 rfl rfl (by (first | omega | (dsimp only; omega) | (simp; done) | (simp; omega)))) ?_ | refine qj_val (wn0 rfl) rfl rfl (y_sub rfl rfl) ?_
   refine qj_val (wn0 rfl) rfl rfl (y_assign rfl) ?_
   refine qj_nil ?_
   refine hK5 _ _ _ ?_
   refine cj_env (eL 2 rfl eN) ?_
   refine cj_ret ?_
   refine hret _ _ _ ?_
   apply ej_ret Try.results28 (.cons (rv_tmp rfl) .nil) _ [dkB b v D, dkS v D] (by (first | exact Hp.le_refl _ | assumption | exact Hp.le_trans ‹_› ‹_›)) rfl
   case hp => exact ⟨rfl, rfl, rfl⟩
   case hS => (repeat (first|exact zR _|(apply zP;focus (repeat (first|exact zH _|apply zT)))|apply zD|exact zA _ _))
theorem keeps_eq (D : DK) (n : Int) (h : D.sure ≤ D.b.length) : (D.sure : Int) + min (max n 0) ((D.b.length : Int) - D.sure) = (D.keeps n : Nat) := by
  unfold DK.keeps; omega
theorem crash_t {R : Hp} (b : Nat) (v : Value) (D : DK) (m : Nat) (hD : D.ok m) (hm : m ≤ 1000000000) (n : Int) : Tri Try.prog 11 [.pointer (some ⟨b, 0, none⟩), .int .i64 n] R [dkB b v D, dkS v D]
    (fun r R' L' => R = R' ∧ ∃ u, L' = [dkB b u (D.crash n), dkS u (D.crash n)]) := by
  obtain ⟨h1, h2, h3, h4, h5⟩ := hD
  have hk := keeps_eq D n h1
  have hk2 : D.keeps n ≤ D.b.length := by unfold DK.keeps; omega
  refine tri_of Try.func11 rfl Try.ntmps11 rfl (fun σ F Q hret hend hpan => ?_)
  try simp only [List.cons_append, List.nil_append]
  refine cj_env (eL 0 rfl (eL 1 rfl eN)) ?_
  refine cj_pure (A := dkS v D) (by (repeat (first|exact zH _|apply zT));done) slc_one (fun ho => ?_)
  refine cj_seq (fun K1 hK1 => ?_)
  refine cj_seq (fun K2 hK2 => ?_)
  refine cj_region ?_
  refine rv0 rfl rfl rfl (y_move rfl) ?_
  refine rv0 rfl rfl rfl (y_peql Try.underlying29 rfl rfl) ?_
  refine rj_nil ?_
  refine hK2 _ _ _ ?_
  refine cj_cond rfl (fun hc5 => ?_) (fun hc5 => ?_)
  · cases hc5
  ·try simp only [dT, dF, nT, nF, tF, fT] at hc5
   refine cj_skip ?_
   refine hK1 _ _ _ ?_
   refine cj_seq (fun K4 hK4 => ?_)
   refine cj_mix [0, 1, 2, 3, 4, 5, 6, 7, 8, 9, 10, 11] [] [12] (by kernel_rfl) (by kernel_rfl) (by kernel_rfl) rfl ?_
   refine fj_val rfl rfl rfl (wn0 rfl) (fun R1 hR1 G => (y_move rfl)) ?_
   refine fj_val rfl rfl rfl (wn0 rfl) (fun R1 hR1 G => (y_nilCheck rfl)) ?_
   refine fj_val rfl rfl rfl (wn0 rfl) (fun R1 hR1 G => (y_fieldAddr (k := 1) Try.underlying54 rfl (n := 1) (by decide) Try.sizeOf3 rfl)) ?_
   first | refine fj_val rfl rfl rfl (wn0 rfl) (fun R1 hR1 G => (y_load ⟨Try.isAgg3, Try.sizeOf3⟩ rfl (by (repeat (first|exact zH _|apply zT));done) rfl)) ?_ | refine fj_val rfl rfl rfl (wn0 rfl) (fun R1 hR1 G => (y_load_slc ⟨Try.isAgg3, Try.sizeOf3⟩ rfl (by (repeat (first|exact zH _|apply zT));done) rfl)) ?_
   refine fj_val rfl rfl rfl (wn0 rfl) (fun R1 hR1 G => (y_move rfl)) ?_
   refine fj_val rfl rfl rfl (wn0 rfl) (fun R1 hR1 G => (y_max rfl rfl)) ?_
   refine fj_val rfl rfl rfl (wn0 rfl) (fun R1 hR1 G => (y_move rfl)) ?_
   refine fj_val rfl rfl rfl (wn0 rfl) (fun R1 hR1 G => (y_call Try.call28 rfl (waits_q b v D ⟨h1, by omega⟩) (by (repeat (first|exact zN _|(apply zS;focus (repeat (first|exact zH _|apply zT)))))))) ?_
   refine fj_val rfl rfl rfl (wn0 rfl) (fun R1 hR1 G => (y_min rfl rfl)) ?_
   refine fj_val rfl rfl rfl (wn0 rfl) (fun R1 hR1 G => (y_add64 rfl rfl (by omega)).to (congrArg _ hk)) ?_
   refine fj_val rfl rfl rfl (wn0 rfl) (fun R1 hR1 G => (y_nilCheck rfl)) ?_
   refine fj_val rfl rfl rfl (wn0 rfl) (fun R1 hR1 G => (y_fieldAddr (k := 1) Try.underlying54 rfl (n := 1) (by decide) Try.sizeOf3 rfl)) ?_
   refine fj_nil ?_
   refine xj_nil ?_
   try simp only [List.cons_append, List.nil_append, List.append_nil]
   refine rj_store ⟨Try.isAgg3, Try.sizeOf3⟩ (wn0 rfl) rfl rfl (by (first | rfl | assumption | (apply cutV_one; assumption))) (by (repeat (first|exact zH _|apply zT));done) rfl rfl ?_
   refine rj_nil ?_
   refine hK4 _ _ _ ?_
   refine cj_env (eL 0 rfl eN) ?_
   refine cj_seq (fun K5 hK5 => ?_)
   refine cj_mix [0, 1, 2, 3, 4, 5, 6, 7, 8, 9, 10, 11] [] [12] (by kernel_rfl) (by kernel_rfl) (by kernel_rfl) rfl ?_
   refine fj_val rfl rfl rfl (wn0 rfl) (fun R1 hR1 G => (y_move rfl)) ?_
   refine fj_val rfl rfl rfl (wn0 rfl) (fun R1 hR1 G => (y_move rfl)) ?_
   refine fj_val rfl rfl rfl (wn0 rfl) (fun R1 hR1 G => (y_nilCheck rfl)) ?_
   refine fj_val rfl rfl rfl (wn0 rfl) (fun R1 hR1 G => (y_fieldAddr (k := 0) Try.underlying54 rfl (n := 1) (by decide) Try.sizeOf52 rfl)) ?_
   first | refine fj_val rfl rfl rfl (wn0 rfl) (fun R1 hR1 G => (y_load ⟨Try.isAgg52, Try.sizeOf52⟩ rfl (by (repeat (first|exact zH _|apply zT));done) rfl)) ?_ | refine fj_val rfl rfl rfl (wn0 rfl) (fun R1 hR1 G => (y_load_slc ⟨Try.isAgg52, Try.sizeOf52⟩ rfl (by (repeat (first|exact zH _|apply zT));done) rfl)) ?_
   refine fj_val rfl rfl rfl (wn0 rfl) (fun R1 hR1 G => (y_move rfl)) ?_
   refine fj_val rfl rfl rfl (wn0 rfl) (fun R1 hR1 G => (y_nilCheck rfl)) ?_
   refine fj_val rfl rfl rfl (wn0 rfl) (fun R1 hR1 G => (y_fieldAddr (k := 1) Try.underlying54 rfl (n := 1) (by decide) Try.sizeOf3 rfl)) ?_
   first | refine fj_val rfl rfl rfl (wn0 rfl) (fun R1 hR1 G => (y_load ⟨Try.isAgg3, Try.sizeOf3⟩ rfl (by (repeat (first|exact zH _|apply zT));done) rfl)) ?_ | refine fj_val rfl rfl rfl (wn0 rfl) (fun R1 hR1 G => (y_load_slc ⟨Try.isAgg3, Try.sizeOf3⟩ rfl (by (repeat (first|exact zH _|apply zT));done) rfl)) ?_
   refine fj_val rfl rfl rfl (wn0 rfl) (fun R1 hR1 G => (y_slice_slc Try.underlying52 Try.sizeOf5 rfl (by (repeat (first|exact zH _|apply zT));done) rfl ⟨_, rfl⟩ (by (first | omega | (dsimp only; omega) | (simp; done) | (simp; omega))))) ?_
   refine fj_val rfl rfl rfl (wn0 rfl) (fun R1 hR1 G => (y_nilCheck rfl)) ?_
   refine fj_val rfl rfl rfl (wn0 rfl) (fun R1 hR1 G => (y_fieldAddr (k := 0) Try.underlying54 rfl (n := 1) (by decide) Try.sizeOf52 rfl)) ?_
   refine fj_nil ?_
   refine xj_nil ?_
   try simp only [List.cons_append, List.nil_append, List.append_nil]
   refine rj_store ⟨Try.isAgg52, Try.sizeOf52⟩ (wn0 rfl) rfl rfl (by (first | rfl | assumption | (apply cutV_one; assumption))) (by (repeat (first|exact zH _|apply zT));done) rfl rfl ?_
   refine rj_nil ?_
   refine hK5 _ _ _ ?_
   refine cj_env (eL 0 rfl eN) ?_
   refine cj_region ?_
   refine rj_turn (A := dkS v D) (B := dkS (cutV v 0 (D.keeps n) 1) (D.crash n)) (by (repeat (first|exact zH _|apply zT));done) (slc_pre hk2) ?_
   refine rv0 rfl rfl rfl (y_move rfl) ?_
   refine rv0 rfl rfl rfl (y_move rfl) ?_
   refine rv0 rfl rfl rfl (y_nilCheck rfl) ?_
   refine rv0 rfl rfl rfl (y_fieldAddr (k := 4) Try.underlying54 rfl (n := 1) (by decide) Try.sizeOf4 rfl) ?_
   refine rj_store ⟨Try.isAgg4, Try.sizeOf4⟩ (wn0 rfl) rfl rfl (by (first | rfl | assumption | (apply cutV_one; assumption))) (by (repeat (first|exact zH _|apply zT));done) rfl rfl ?_
   refine rv0 rfl rfl rfl (y_nilCheck rfl) ?_
   refine rv0 rfl rfl rfl (y_fieldAddr (k := 3) Try.underlying54 rfl (n := 1) (by decide) Try.sizeOf4 rfl) ?_
   refine rj_store ⟨Try.isAgg4, Try.sizeOf4⟩ (wn0 rfl) rfl rfl (by (first | rfl | assumption | (apply cutV_one; assumption))) (by (repeat (first|exact zH _|apply zT));done) rfl rfl ?_
   refine rj_nil ?_
   refine hend _ _ _ ?_
   apply ej_end Try.results11 .nil _ [dkB b (cutV v 0 (D.keeps n) 1) (D.crash n), dkS (cutV v 0 (D.keeps n) 1) (D.crash n)] (by (first | exact Hp.le_refl _ | assumption | exact Hp.le_trans ‹_› ‹_›)) rfl
   case hp => exact ⟨rfl, _, rfl⟩
   case hS => (repeat (first|exact zR _|(apply zP;focus (repeat (first|exact zH _|apply zT)))|apply zD|exact zA _ _))
/-! ### the reference -/
theorem RK.step_same (D : RK) : D.step.2.sure = D.sure ∧ D.step.2.wait = D.wait := by
  unfold RK.step; split
  · exact ⟨rfl, rfl⟩
  · split <;> exact ⟨rfl, rfl⟩
theorem rcut (D : RK) (n : Int) : ((D.wait.take (min (max n 0) (D.wait.length : Int)).toNat)) = D.wait.take n.toNat := by
  rw [List.take_eq_take_iff]; omega
end V
end Go.Proofs.Ytcgjlhhfldkdaaa
