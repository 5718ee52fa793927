/- must, plus, minus, times, reckon: what is given up. -/
import Derived.Test.YtghgifgmacapcaaT18g
import Derived.Test.YtghgifgmacapcaaV18
import Derived.Shelf.Bits.Mul64
import Derived.Shelf.Small.Strs
set_option linter.unusedSimpArgs false
set_option linter.unusedVariables false
set_option maxRecDepth 100000
namespace Go.Proofs.Ytghgifgmacapcaa
open Go.RowKit
namespace V
set_option maxHeartbeats 4000000
def failE (e : Int) : PanicEntry := ⟨.iface 98 (.agg ⟨[.int .i64 e]⟩), false, false⟩
abbrev Giv (f : FuncId) (args : List Value) (R : Hp) (L : List Asn) (res : Except Int Value) : Prop := PTri failE Try.prog f args R L res
theorem must_p {R : Hp} (b : Bool) (e : Int) : Giv 66 [.bool b, .int .i64 e] R [] (if b = true then .ok (.tuple ⟨[]⟩) else .error e) := by
  refine PTri.of ?_
  refine tri_of Try.func66 rfl Try.ntmps66 rfl (fun σ F Q hret hend hpan => ?_)
  try simp only [List.cons_append, List.nil_append]
  refine cj_env (eL 0 rfl (eL 1 rfl eN)) ?_
  refine cj_seq (fun K1 hK1 => ?_)
  refine cj_region ?_
  refine rv0 rfl rfl rfl (y_move rfl) ?_
  refine rv0 rfl rfl rfl (y_not rfl) ?_
  refine rj_nil ?_
  refine hK1 _ _ _ ?_
  refine cj_cond rfl (fun hc5 => ?_) (fun hc5 => ?_)
  ·obtain rfl : b = false := by simpa using hc5
   refine cj_region ?_
   refine rv0 rfl rfl rfl (y_move rfl) ?_
   refine rv0 rfl rfl rfl (y_build (cells := [_]) [(0, 1)] Try.underlying98 Try.zeroValue98 (fun _ => rfl) rfl rfl) ?_
   refine rv0 rfl rfl rfl (y_makeInterface Try.underlying98 rfl) ?_
   refine rj_panic (wn0 rfl) rfl ?_
   refine hpan _ _ _ _ ?_
   refine ej_pan _ ([]) (by first | exact Hp.le_refl _ | assumption | exact Hp.le_trans ‹_› ‹_›) rfl (by (repeat (first|exact zR _|(apply zP;focus (repeat (first|exact zH _|apply zT)))|apply zD|exact zA _ _))) ?_
   exact ⟨⟨e, rfl, rfl⟩, rfl⟩
  ·obtain rfl : b = true := by simpa using hc5
   refine cj_skip ?_
   refine hend _ _ _ ?_
   apply ej_end Try.results66 .nil _ [] (by (first | exact Hp.le_refl _ | assumption | exact Hp.le_trans ‹_› ‹_›)) rfl
   case hp => exact ⟨rfl, rfl⟩
   case hS => (repeat (first|exact zR _|(apply zP;focus (repeat (first|exact zH _|apply zT)))|apply zD|exact zA _ _))
theorem must_err {b : Bool} {u : Value} {e e' : Int} (h : (if b = true then Except.ok u else .error e' : Except Int Value) = .error e) : b = false ∧ e = e' := by
  cases b
  · simp at h; exact ⟨rfl, h.symm⟩
  · simp at h
theorem must_ok {b : Bool} {u v : Value} {e' : Int} (h : (if b = true then Except.ok u else .error e' : Except Int Value) = .ok v) : b = true := by
  cases b
  · simp at h
  · rfl
def inI (n : Int) : Prop := -9223372036854775808 ≤ n ∧ n ≤ 9223372036854775807
instance (n : Int) : Decidable (inI n) := by unfold inI; infer_instance
/-- a number, if it is one -/
def num64 (n : Int) : Except Int Int := if inI n then .ok n else .error 26
def intV : Except Int Int → Except Int Value
  | .ok n => .ok (.int .i64 n)
  | .error e => .error e
theorem wrap64 {n : Int} (h : -18446744073709551616 ≤ n ∧ n < 18446744073709551616) : IntKind.i64.wrap n = if 9223372036854775807 < n then n - 18446744073709551616 else if n < -9223372036854775808 then n + 18446744073709551616 else n := by
  simp [IntKind.wrap, IntKind.signed, IntKind.bits]
  split
  · omega
  · split <;> omega
theorem wrapU {n : Int} (h : -18446744073709551616 ≤ n ∧ n < 18446744073709551616) : IntKind.u64.wrap n = if n < 0 then n + 18446744073709551616 else n := by
  simp [IntKind.wrap, IntKind.signed, IntKind.bits]
  split <;> omega
theorem num64_ok {n : Int} (h : inI n) : intV (num64 n) = .ok (.int .i64 (IntKind.i64.wrap n)) := by
  unfold num64; rw [if_pos h, wrap_i64_in h]; rfl
theorem num64_err {n : Int} (h : ¬ inI n) : intV (num64 n) = .error 26 := by
  unfold num64; rw [if_neg h]; rfl
theorem plus_in {a b : Int} (ha : inI a) (hb : inI b) : inI (a + b) ↔ ((IntKind.i64.wrap (a + b) > a ↔ b > 0) ∨ b = 0) := by
  unfold inI at *
  rw [wrap64 (by omega)]
  split
  · omega
  · split <;> omega
theorem minus_in {a b : Int} (ha : inI a) (hb : inI b) : inI (a - b) ↔ ((IntKind.i64.wrap (a - b) < a ↔ b > 0) ∨ b = 0) := by
  unfold inI at *
  rw [wrap64 (by omega)]
  split
  · omega
  · split <;> omega
theorem decIff {p q : Prop} [Decidable p] [Decidable q] : (decide (decide p = decide q) = true) ↔ (p ↔ q) := by
  by_cases p <;> by_cases q <;> simp_all
theorem plus_p {R : Hp} (a b : Int) (ha : inI a) (hb : inI b) : Giv 80 [.int .i64 a, .int .i64 b] R [] (intV (num64 (a + b))) := by
  refine PTri.of ?_
  refine tri_of Try.func80 rfl Try.ntmps80 rfl (fun σ F Q hret hend hpan => ?_)
  try simp only [List.cons_append, List.nil_append]
  refine cj_env (eL 0 rfl (eL 1 rfl eN)) ?_
  refine cj_seq (fun K1 hK1 => ?_)
  refine cj_region ?_
  refine rv0 rfl rfl rfl (y_assign rfl) ?_
  refine rj_nil ?_
  refine hK1 _ _ _ ?_
  refine cj_seq (fun K2 hK2 => ?_)
  refine cj_region ?_
  refine rv0 rfl rfl rfl (y_move rfl) ?_
  refine rv0 rfl rfl rfl (y_move rfl) ?_
  refine rv0 rfl rfl rfl ((y_add rfl rfl)) ?_
  refine rv0 rfl rfl rfl (y_assign rfl) ?_
  refine rj_nil ?_
  refine hK2 _ _ _ ?_
  refine cj_env (eL 0 rfl (eL 1 rfl (eL 5 rfl eN))) ?_
  refine cj_seq (fun K3 hK3 => ?_)
  refine cj_region ?_
  refine rv0 rfl rfl rfl (y_move rfl) ?_
  refine rv0 rfl rfl rfl (y_move rfl) ?_
  refine rv0 rfl rfl rfl (y_gtr rfl rfl) ?_
  refine rv0 rfl rfl rfl (y_move rfl) ?_
  refine rv0 rfl rfl rfl (y_gtr rfl rfl) ?_
  refine rv0 rfl rfl rfl (y_beql Try.underlying4 rfl rfl) ?_
  refine rv0 rfl rfl rfl (y_move rfl) ?_
  refine rj_part 15 rfl (fun hg15 => ?_) (fun hg15 => ?_)
  ·have hin : inI (a + b) := (plus_in ha hb).2 (.inl (by simpa using hg15))
   refine rj_skip (wn2 rfl rfl rfl rfl rfl) rfl rfl ?_
   refine rj_skip (wn2 rfl rfl rfl rfl rfl) rfl rfl ?_
   refine rv0 rfl rfl rfl (y_pick_t rfl rfl) ?_
   refine rj_callp (wn0 rfl) rfl Try.call66 rfl (must_p _ 26) (by (repeat (first|exact zN _|(apply zS;focus (repeat (first|exact zH _|apply zT)))))) (fun e hpe => ?_) (fun u2_10 hu2_10 => ?_)
   · refine hpan _ _ _ _ ?_; refine ej_pan _ ([]) (by first | exact Hp.le_refl _ | assumption | exact Hp.le_trans ‹_› ‹_›) rfl (by (repeat (first|exact zR _|(apply zP;focus (repeat (first|exact zH _|apply zT)))|apply zD|exact zA _ _))) ?_; first | (exfalso; simp at hpe; done) | (obtain ⟨h1, rfl⟩ := must_err hpe; exact ⟨⟨26, num64_err (fun h => by simp [hin.1 h] at h1), rfl⟩, rfl⟩)
   refine rj_nil ?_
   refine hK3 _ _ _ ?_
   refine cj_env (eL 5 rfl eN) ?_
   refine cj_seq (fun K4 hK4 => ?_)
   refine cj_region ?_
   refine rv0 rfl rfl rfl (y_move rfl) ?_
   refine rv0 rfl rfl rfl (y_assign rfl) ?_
   refine rj_nil ?_
   refine hK4 _ _ _ ?_
   refine cj_ret ?_
   refine hret _ _ _ ?_
   apply ej_ret Try.results80 (.cons (rv_tmp rfl) .nil) _ [] (by (first | exact Hp.le_refl _ | assumption | exact Hp.le_trans ‹_› ‹_›)) rfl
   case hp => first | exact ⟨num64_ok hin, rfl⟩ | exact ⟨num64_ok (hin.2 (by have h1 := must_ok hu2_10; simpa using h1)), rfl⟩
   case hS => (repeat (first|exact zR _|(apply zP;focus (repeat (first|exact zH _|apply zT)))|apply zD|exact zA _ _))
  ·have hin : inI (a + b) ↔ b = 0 := (plus_in ha hb).trans ⟨fun h => h.resolve_left (by simpa using hg15), .inr⟩
   refine rj_val (wn1 rfl rfl rfl rfl) rfl rfl (y_move rfl) ?_
   refine rj_val (wn1 rfl rfl rfl rfl) rfl rfl (y_eql rfl rfl) ?_
   refine rv0 rfl rfl rfl (y_pick_f rfl rfl) ?_
   refine rj_callp (wn0 rfl) rfl Try.call66 rfl (must_p _ 26) (by (repeat (first|exact zN _|(apply zS;focus (repeat (first|exact zH _|apply zT)))))) (fun e hpe => ?_) (fun u2_10 hu2_10 => ?_)
   · refine hpan _ _ _ _ ?_; refine ej_pan _ ([]) (by first | exact Hp.le_refl _ | assumption | exact Hp.le_trans ‹_› ‹_›) rfl (by (repeat (first|exact zR _|(apply zP;focus (repeat (first|exact zH _|apply zT)))|apply zD|exact zA _ _))) ?_; first | (exfalso; simp at hpe; done) | (obtain ⟨h1, rfl⟩ := must_err hpe; exact ⟨⟨26, num64_err (fun h => by simp [hin.1 h] at h1), rfl⟩, rfl⟩)
   refine rj_nil ?_
   refine hK3 _ _ _ ?_
   refine cj_env (eL 5 rfl eN) ?_
   refine cj_seq (fun K5 hK5 => ?_)
   refine cj_region ?_
   refine rv0 rfl rfl rfl (y_move rfl) ?_
   refine rv0 rfl rfl rfl (y_assign rfl) ?_
   refine rj_nil ?_
   refine hK5 _ _ _ ?_
   refine cj_ret ?_
   refine hret _ _ _ ?_
   apply ej_ret Try.results80 (.cons (rv_tmp rfl) .nil) _ [] (by (first | exact Hp.le_refl _ | assumption | exact Hp.le_trans ‹_› ‹_›)) rfl
   case hp => first | exact ⟨num64_ok hin, rfl⟩ | exact ⟨num64_ok (hin.2 (by have h1 := must_ok hu2_10; simpa using h1)), rfl⟩
   case hS => (repeat (first|exact zR _|(apply zP;focus (repeat (first|exact zH _|apply zT)))|apply zD|exact zA _ _))
theorem minus_p {R : Hp} (a b : Int) (ha : inI a) (hb : inI b) : Giv 65 [.int .i64 a, .int .i64 b] R [] (intV (num64 (a - b))) := by
  refine PTri.of ?_
  refine tri_of Try.func65 rfl Try.ntmps65 rfl (fun σ F Q hret hend hpan => ?_)
  try simp only [List.cons_append, List.nil_append]
  refine cj_env (eL 0 rfl (eL 1 rfl eN)) ?_
  refine cj_seq (fun K1 hK1 => ?_)
  refine cj_region ?_
  refine rv0 rfl rfl rfl (y_assign rfl) ?_
  refine rj_nil ?_
  refine hK1 _ _ _ ?_
  refine cj_seq (fun K2 hK2 => ?_)
  refine cj_region ?_
  refine rv0 rfl rfl rfl (y_move rfl) ?_
  refine rv0 rfl rfl rfl (y_move rfl) ?_
  refine rv0 rfl rfl rfl ((y_sub rfl rfl)) ?_
  refine rv0 rfl rfl rfl (y_assign rfl) ?_
  refine rj_nil ?_
  refine hK2 _ _ _ ?_
  refine cj_env (eL 0 rfl (eL 1 rfl (eL 5 rfl eN))) ?_
  refine cj_seq (fun K3 hK3 => ?_)
  refine cj_region ?_
  refine rv0 rfl rfl rfl (y_move rfl) ?_
  refine rv0 rfl rfl rfl (y_move rfl) ?_
  refine rv0 rfl rfl rfl (y_lss rfl rfl) ?_
  refine rv0 rfl rfl rfl (y_move rfl) ?_
  refine rv0 rfl rfl rfl (y_gtr rfl rfl) ?_
  refine rv0 rfl rfl rfl (y_beql Try.underlying4 rfl rfl) ?_
  refine rv0 rfl rfl rfl (y_move rfl) ?_
  refine rj_part 15 rfl (fun hg15 => ?_) (fun hg15 => ?_)
  ·have hin : inI (a - b) := (minus_in ha hb).2 (.inl (by simpa using hg15))
   refine rj_skip (wn2 rfl rfl rfl rfl rfl) rfl rfl ?_
   refine rj_skip (wn2 rfl rfl rfl rfl rfl) rfl rfl ?_
   refine rv0 rfl rfl rfl (y_pick_t rfl rfl) ?_
   refine rj_callp (wn0 rfl) rfl Try.call66 rfl (must_p _ 26) (by (repeat (first|exact zN _|(apply zS;focus (repeat (first|exact zH _|apply zT)))))) (fun e hpe => ?_) (fun u2_10 hu2_10 => ?_)
   · refine hpan _ _ _ _ ?_; refine ej_pan _ ([]) (by first | exact Hp.le_refl _ | assumption | exact Hp.le_trans ‹_› ‹_›) rfl (by (repeat (first|exact zR _|(apply zP;focus (repeat (first|exact zH _|apply zT)))|apply zD|exact zA _ _))) ?_; first | (exfalso; simp at hpe; done) | (obtain ⟨h1, rfl⟩ := must_err hpe; exact ⟨⟨26, num64_err (fun h => by simp [hin.1 h] at h1), rfl⟩, rfl⟩)
   refine rj_nil ?_
   refine hK3 _ _ _ ?_
   refine cj_env (eL 5 rfl eN) ?_
   refine cj_seq (fun K4 hK4 => ?_)
   refine cj_region ?_
   refine rv0 rfl rfl rfl (y_move rfl) ?_
   refine rv0 rfl rfl rfl (y_assign rfl) ?_
   refine rj_nil ?_
   refine hK4 _ _ _ ?_
   refine cj_ret ?_
   refine hret _ _ _ ?_
   apply ej_ret Try.results65 (.cons (rv_tmp rfl) .nil) _ [] (by (first | exact Hp.le_refl _ | assumption | exact Hp.le_trans ‹_› ‹_›)) rfl
   case hp => first | exact ⟨num64_ok hin, rfl⟩ | exact ⟨num64_ok (hin.2 (by have h1 := must_ok hu2_10; simpa using h1)), rfl⟩
   case hS => (repeat (first|exact zR _|(apply zP;focus (repeat (first|exact zH _|apply zT)))|apply zD|exact zA _ _))
  ·have hin : inI (a - b) ↔ b = 0 := (minus_in ha hb).trans ⟨fun h => h.resolve_left (by simpa using hg15), .inr⟩
   refine rj_val (wn1 rfl rfl rfl rfl) rfl rfl (y_move rfl) ?_
   refine rj_val (wn1 rfl rfl rfl rfl) rfl rfl (y_eql rfl rfl) ?_
   refine rv0 rfl rfl rfl (y_pick_f rfl rfl) ?_
   refine rj_callp (wn0 rfl) rfl Try.call66 rfl (must_p _ 26) (by (repeat (first|exact zN _|(apply zS;focus (repeat (first|exact zH _|apply zT)))))) (fun e hpe => ?_) (fun u2_10 hu2_10 => ?_)
   · refine hpan _ _ _ _ ?_; refine ej_pan _ ([]) (by first | exact Hp.le_refl _ | assumption | exact Hp.le_trans ‹_› ‹_›) rfl (by (repeat (first|exact zR _|(apply zP;focus (repeat (first|exact zH _|apply zT)))|apply zD|exact zA _ _))) ?_; first | (exfalso; simp at hpe; done) | (obtain ⟨h1, rfl⟩ := must_err hpe; exact ⟨⟨26, num64_err (fun h => by simp [hin.1 h] at h1), rfl⟩, rfl⟩)
   refine rj_nil ?_
   refine hK3 _ _ _ ?_
   refine cj_env (eL 5 rfl eN) ?_
   refine cj_seq (fun K5 hK5 => ?_)
   refine cj_region ?_
   refine rv0 rfl rfl rfl (y_move rfl) ?_
   refine rv0 rfl rfl rfl (y_assign rfl) ?_
   refine rj_nil ?_
   refine hK5 _ _ _ ?_
   refine cj_ret ?_
   refine hret _ _ _ ?_
   apply ej_ret Try.results65 (.cons (rv_tmp rfl) .nil) _ [] (by (first | exact Hp.le_refl _ | assumption | exact Hp.le_trans ‹_› ‹_›)) rfl
   case hp => first | exact ⟨num64_ok hin, rfl⟩ | exact ⟨num64_ok (hin.2 (by have h1 := must_ok hu2_10; simpa using h1)), rfl⟩
   case hS => (repeat (first|exact zR _|(apply zP;focus (repeat (first|exact zH _|apply zT)))|apply zD|exact zA _ _))
/-! ### products -/
def ren18 : Go.Shelf.Ren := ⟨fun n => if n = 264 then 85 else if n = 106 then 48 else if n = 213 then 76 else 84, fun t => if t = 53 then 116 else if t = 46 then 120 else if t = 3 then 3 else 9, fun g => g⟩
theorem lay264 : Lays.n264 Try.prog ren18 where
  mixed := by kernel_rfl
  f264 := by kernel_rfl
  t46 := Try.underlying120
  a46 := Try.isAgg120
  z46 := Try.sizeOf120
  v46 := Try.zeroValue120
  t53 := Try.underlying116
  a53 := Try.isAgg116
  z53 := Try.sizeOf116
  v53 := Try.zeroValue116
theorem lay106 : Lays.n106 Try.prog ren18 where
  mixed := by kernel_rfl
  f106 := by kernel_rfl
  f213 := by kernel_rfl
  f265 := by kernel_rfl
  t3 := Try.underlying3
  a3 := Try.isAgg3
  z3 := Try.sizeOf3
  v3 := Try.zeroValue3
  t9 := Try.underlying9
  a9 := Try.isAgg9
  z9 := Try.sizeOf9
  v9 := Try.zeroValue9
theorem mul64_q {R : Hp} (x y : Nat) (hx : x < 18446744073709551616) (hy : y < 18446744073709551616) : QTri Try.prog 85 [.int .u64 (x : Int), .int .u64 (y : Int)] R [] (.tuple ⟨[.int .u64 ((x * y / 18446744073709551616 : Nat) : Int), .int .u64 ((x * y % 18446744073709551616 : Nat) : Int)]⟩) :=
  fun σ F w hs => (Any.bits_Mul64 lay264 x y hx hy w).mono fun e w' ⟨h1, h2⟩ => ⟨h1, h2 ▸ hs⟩
theorem strCompare_q {R : Hp} (a b : Bs) : QTri Try.prog 48 [.string (str a), .string (str b)] R [] (.int .i64 (Lib.compareBytes a b)) :=
  fun σ F w hs => (Any.strings_Compare lay106 (str a) (str b) w).mono fun e w' ⟨h1, h2⟩ => ⟨by simpa using h1, h2 ▸ hs⟩
theorem abs_q {R : Hp} (a : Int) (ha : inI a) : QTri Try.prog 86 [.int .i64 a] R [] (.int .u64 (a.natAbs : Int)) := by
  unfold inI at ha
  refine Tri.q ?_
  refine tri_of Try.func86 rfl Try.ntmps86 rfl (fun σ F Q hret hend hpan => ?_)
  try simp only [List.cons_append, List.nil_append]
  refine cj_env (eL 0 rfl eN) ?_
  refine cj_seq (fun K1 hK1 => ?_)
  refine cj_region ?_
  refine rv0 rfl rfl rfl (y_assign rfl) ?_
  refine rj_nil ?_
  refine hK1 _ _ _ ?_
  refine cj_seq (fun K2 hK2 => ?_)
  refine cj_seq (fun K3 hK3 => ?_)
  refine cj_region ?_
  refine rv0 rfl rfl rfl (y_move rfl) ?_
  refine rv0 rfl rfl rfl (y_lss rfl rfl) ?_
  refine rj_nil ?_
  refine hK3 _ _ _ ?_
  refine cj_cond rfl (fun hc4 => ?_) (fun hc4 => ?_)
  ·(try simp only [dT, dF, nT, nF, tF, fT] at hc4)
   refine cj_seq (fun K5 hK5 => ?_)
   refine cj_region ?_
   refine rv0 rfl rfl rfl (y_move rfl) ?_
   refine rv0 rfl rfl rfl ((y_conv Try.underlying2 Try.underlying116 rfl)) ?_
   refine rv0 rfl rfl rfl ((y_neg rfl)) ?_
   refine rv0 rfl rfl rfl (y_assign rfl) ?_
   refine rj_nil ?_
   refine hK5 _ _ _ ?_
   refine cj_env (eL 2 rfl eN) ?_
   refine cj_ret ?_
   refine hret _ _ _ ?_
   apply ej_ret Try.results86 (.cons (rv_tmp rfl) .nil) _ [] (by (first | exact Hp.le_refl _ | assumption | exact Hp.le_trans ‹_› ‹_›)) rfl
   case hp => refine ⟨?_, rfl, rfl⟩; rw [wrapU (n := a) (by omega), if_pos (by omega), wrapU (by omega), if_pos (by omega)]; simp only [tupOf]; congr 1; omega
   case hS => (repeat (first|exact zR _|(apply zP;focus (repeat (first|exact zH _|apply zT)))|apply zD|exact zA _ _))
  ·(try simp only [dT, dF, nT, nF, tF, fT] at hc4)
   refine cj_skip ?_
   refine hK2 _ _ _ ?_
   refine cj_env (eL 0 rfl eN) ?_
   refine cj_seq (fun K6 hK6 => ?_)
   refine cj_region ?_
   refine rv0 rfl rfl rfl (y_move rfl) ?_
   refine rv0 rfl rfl rfl ((y_conv Try.underlying2 Try.underlying116 rfl)) ?_
   refine rv0 rfl rfl rfl (y_assign rfl) ?_
   refine rj_nil ?_
   refine hK6 _ _ _ ?_
   refine cj_env (eL 2 rfl eN) ?_
   refine cj_ret ?_
   refine hret _ _ _ ?_
   apply ej_ret Try.results86 (.cons (rv_tmp rfl) .nil) _ [] (by (first | exact Hp.le_refl _ | assumption | exact Hp.le_trans ‹_› ‹_›)) rfl
   case hp => refine ⟨?_, rfl, rfl⟩; rw [wrapU (n := a) (by omega), if_neg (by omega)]; simp only [tupOf]; congr 1; omega
   case hS => (repeat (first|exact zR _|(apply zP;focus (repeat (first|exact zH _|apply zT)))|apply zD|exact zA _ _))
theorem num64_ok' {n m : Int} (h : inI n) (e : m = n) : intV (num64 n) = .ok (.int .i64 m) := by
  unfold num64; rw [if_pos h, e]; rfl
theorem mul_unlike {a b : Int} (h : ¬ (a < 0 ↔ b < 0)) : a * b = -((a.natAbs * b.natAbs : Nat) : Int) := by
  rw [Int.natCast_mul]
  rcases Int.lt_or_le a 0 with ha | ha <;> rcases Int.lt_or_le b 0 with hb | hb
  · exact absurd ⟨fun _ => hb, fun _ => ha⟩ h
  · rw [show ((a.natAbs : Nat) : Int) = -a by omega, show ((b.natAbs : Nat) : Int) = b by omega, Int.neg_mul, Int.neg_neg]
  · rw [show ((a.natAbs : Nat) : Int) = a by omega, show ((b.natAbs : Nat) : Int) = -b by omega, Int.mul_neg, Int.neg_neg]
  · exact absurd ⟨fun h => by omega, fun h => by omega⟩ h
theorem mul_like {a b : Int} (h : a < 0 ↔ b < 0) : a * b = ((a.natAbs * b.natAbs : Nat) : Int) := by
  rw [Int.natCast_mul]
  rcases Int.lt_or_le a 0 with ha | ha <;> rcases Int.lt_or_le b 0 with hb | hb
  · rw [show ((a.natAbs : Nat) : Int) = -a by omega, show ((b.natAbs : Nat) : Int) = -b by omega, Int.neg_mul_neg]
  · omega
  · omega
  · rw [show ((a.natAbs : Nat) : Int) = a by omega, show ((b.natAbs : Nat) : Int) = b by omega]
theorem wrap_neg {p : Nat} (h : p ≤ 9223372036854775808) : IntKind.i64.wrap (-(IntKind.i64.wrap (p : Int))) = -(p : Int) := by
  rw [wrap64 (n := (p : Int)) (by omega)]
  split
  · rw [wrap64 (by omega)]; split
    · omega
    · split <;> omega
  · rw [if_neg (by omega), wrap64 (by omega), if_neg (by omega), if_neg (by omega)]
theorem times_p {R : Hp} (a b : Int) (ha : inI a) (hb : inI b) : Giv 82 [.int .i64 a, .int .i64 b] R [] (intV (num64 (a * b))) := by
  have hal : a.natAbs < 18446744073709551616 := by unfold inI at ha; omega
  have hbl : b.natAbs < 18446744073709551616 := by unfold inI at hb; omega
  refine PTri.of ?_
  refine tri_of Try.func82 rfl Try.ntmps82 rfl (fun σ F Q hret hend hpan => ?_)
  try simp only [List.cons_append, List.nil_append]
  refine cj_env (eL 0 rfl (eL 1 rfl eN)) ?_
  refine cj_seq (fun K1 hK1 => ?_)
  refine cj_region ?_
  refine rv0 rfl rfl rfl (y_assign rfl) ?_
  refine rj_nil ?_
  refine hK1 _ _ _ ?_
  refine cj_seq (fun K2 hK2 => ?_)
  refine cj_region ?_
  refine rv0 rfl rfl rfl (y_move rfl) ?_
  refine rv0 rfl rfl rfl (y_call Try.call86 rfl (abs_q a ha) (by (repeat (first|exact zN _|(apply zS;focus (repeat (first|exact zH _|apply zT))))))) ?_
  refine rv0 rfl rfl rfl (y_move rfl) ?_
  refine rv0 rfl rfl rfl (y_call Try.call86 rfl (abs_q b hb) (by (repeat (first|exact zN _|(apply zS;focus (repeat (first|exact zH _|apply zT))))))) ?_
  refine rv0 rfl rfl rfl (y_call Try.call85 rfl (mul64_q a.natAbs b.natAbs hal hbl) (by (repeat (first|exact zN _|(apply zS;focus (repeat (first|exact zH _|apply zT))))))) ?_
  refine rv0 rfl rfl rfl (y_move rfl) ?_
  refine rv0 rfl rfl rfl (y_extract rfl rfl) ?_
  refine rv0 rfl rfl rfl (y_extract rfl rfl) ?_
  refine rv0 rfl rfl rfl (y_assign rfl) ?_
  refine rv0 rfl rfl rfl (y_assign rfl) ?_
  refine rj_nil ?_
  refine hK2 _ _ _ ?_
  refine cj_env (eL 0 rfl (eL 1 rfl (eL 5 rfl (eL 6 rfl eN)))) ?_
  refine cj_seq (fun K3 hK3 => ?_)
  refine cj_seq (fun K4 hK4 => ?_)
  refine cj_region ?_
  refine rv0 rfl rfl rfl (y_move rfl) ?_
  refine rv0 rfl rfl rfl (y_lss rfl rfl) ?_
  refine rv0 rfl rfl rfl (y_move rfl) ?_
  refine rv0 rfl rfl rfl (y_lss rfl rfl) ?_
  refine rv0 rfl rfl rfl (y_bneq Try.underlying4 rfl rfl) ?_
  refine rj_nil ?_
  refine hK4 _ _ _ ?_
  refine cj_env (eL 5 rfl (eL 6 rfl (eL 19 rfl eN))) ?_
  refine cj_cond rfl (fun hc19 => ?_) (fun hc19 => ?_)
  ·have hmul := mul_unlike (a := a) (b := b) (by simpa using hc19)
   generalize a.natAbs * b.natAbs = p at *
   refine cj_seq (fun K6 hK6 => ?_)
   refine cj_region ?_
   refine rv0 rfl rfl rfl (y_move rfl) ?_
   refine rv0 rfl rfl rfl (y_eql rfl rfl) ?_
   refine rv0 rfl rfl rfl (y_move rfl) ?_
   refine rj_part 22 rfl (fun hg22 => ?_) (fun hg22 => ?_)
   ·try simp only [dT, dF, nT, nF, tF, fT] at hg22
    refine rj_val (wn1 rfl rfl rfl rfl) rfl rfl (y_move rfl) ?_
    refine rj_val (wn1 rfl rfl rfl rfl) rfl rfl (y_leq rfl rfl) ?_
    refine rv0 rfl rfl rfl (y_pick_t rfl rfl) ?_
    refine rj_callp (wn0 rfl) rfl Try.call66 rfl (must_p _ 26) (by (repeat (first|exact zN _|(apply zS;focus (repeat (first|exact zH _|apply zT)))))) (fun e hpe => ?_) (fun u3_6 hu3_6 => ?_)
    · refine hpan _ _ _ _ ?_; refine ej_pan _ ([]) (by first | exact Hp.le_refl _ | assumption | exact Hp.le_trans ‹_› ‹_›) rfl (by (repeat (first|exact zR _|(apply zP;focus (repeat (first|exact zH _|apply zT)))|apply zD|exact zA _ _))) ?_; obtain ⟨h1, rfl⟩ := must_err hpe; exact ⟨⟨26, num64_err (fun hin => by unfold inI at hin; rw [hmul] at hin; first | (simp at h1; omega) | (simp at hg22; omega) | (simp at hg32; omega)), rfl⟩, rfl⟩
    refine rj_nil ?_
    refine hK6 _ _ _ ?_
    refine cj_env (eL 6 rfl eN) ?_
    refine cj_seq (fun K7 hK7 => ?_)
    refine cj_region ?_
    refine rv0 rfl rfl rfl (y_move rfl) ?_
    refine rv0 rfl rfl rfl ((y_conv Try.underlying116 Try.underlying2 rfl)) ?_
    refine rv0 rfl rfl rfl ((y_neg rfl)) ?_
    refine rv0 rfl rfl rfl (y_assign rfl) ?_
    refine rj_nil ?_
    refine hK7 _ _ _ ?_
    refine cj_env (eL 4 rfl eN) ?_
    refine cj_ret ?_
    refine hret _ _ _ ?_
    apply ej_ret Try.results82 (.cons (rv_tmp rfl) .nil) _ [] (by (first | exact Hp.le_refl _ | assumption | exact Hp.le_trans ‹_› ‹_›)) rfl
    case hp =>
     have h1 := must_ok hu3_6; simp at h1 hg22; have hp : p ≤ 9223372036854775808 := by omega
     have e1 : p % 18446744073709551616 = p := by omega
     rw [e1]
     exact ⟨num64_ok' (by unfold inI; rw [hmul]; omega) (by rw [hmul, wrap_neg hp]), rfl⟩
    case hS => (repeat (first|exact zR _|(apply zP;focus (repeat (first|exact zH _|apply zT)))|apply zD|exact zA _ _))
   ·try simp only [dT, dF, nT, nF, tF, fT] at hg22
    refine rj_skip (wn2 rfl rfl rfl rfl rfl) rfl rfl ?_
    refine rj_skip (wn2 rfl rfl rfl rfl rfl) rfl rfl ?_
    refine rv0 rfl rfl rfl (y_pick_f rfl rfl) ?_
    refine rj_callp (wn0 rfl) rfl Try.call66 rfl (must_p _ 26) (by (repeat (first|exact zN _|(apply zS;focus (repeat (first|exact zH _|apply zT)))))) (fun e hpe => ?_) (fun u3_6 hu3_6 => ?_)
    · refine hpan _ _ _ _ ?_; refine ej_pan _ ([]) (by first | exact Hp.le_refl _ | assumption | exact Hp.le_trans ‹_› ‹_›) rfl (by (repeat (first|exact zR _|(apply zP;focus (repeat (first|exact zH _|apply zT)))|apply zD|exact zA _ _))) ?_; obtain ⟨h1, rfl⟩ := must_err hpe; exact ⟨⟨26, num64_err (fun hin => by unfold inI at hin; rw [hmul] at hin; first | (simp at h1; omega) | (simp at hg22; omega) | (simp at hg32; omega)), rfl⟩, rfl⟩
    refine rj_nil ?_
    refine hK6 _ _ _ ?_
    refine cj_env (eL 6 rfl eN) ?_
    refine cj_seq (fun K8 hK8 => ?_)
    refine cj_region ?_
    refine rv0 rfl rfl rfl (y_move rfl) ?_
    refine rv0 rfl rfl rfl ((y_conv Try.underlying116 Try.underlying2 rfl)) ?_
    refine rv0 rfl rfl rfl ((y_neg rfl)) ?_
    refine rv0 rfl rfl rfl (y_assign rfl) ?_
    refine rj_nil ?_
    refine hK8 _ _ _ ?_
    refine cj_env (eL 4 rfl eN) ?_
    refine cj_ret ?_
    refine hret _ _ _ ?_
    apply ej_ret Try.results82 (.cons (rv_tmp rfl) .nil) _ [] (by (first | exact Hp.le_refl _ | assumption | exact Hp.le_trans ‹_› ‹_›)) rfl
    case hp => have h1 := must_ok hu3_6; cases h1
    case hS => (repeat (first|exact zR _|(apply zP;focus (repeat (first|exact zH _|apply zT)))|apply zD|exact zA _ _))
  ·have hmul := mul_like (a := a) (b := b) (by simpa using hc19)
   generalize a.natAbs * b.natAbs = p at *
   refine cj_skip ?_
   refine hK3 _ _ _ ?_
   refine cj_seq (fun K9 hK9 => ?_)
   refine cj_region ?_
   refine rv0 rfl rfl rfl (y_move rfl) ?_
   refine rv0 rfl rfl rfl (y_eql rfl rfl) ?_
   refine rv0 rfl rfl rfl (y_move rfl) ?_
   refine rj_part 32 rfl (fun hg32 => ?_) (fun hg32 => ?_)
   ·try simp only [dT, dF, nT, nF, tF, fT] at hg32
    refine rj_val (wn1 rfl rfl rfl rfl) rfl rfl (y_move rfl) ?_
    refine rj_val (wn1 rfl rfl rfl rfl) rfl rfl (y_lss rfl rfl) ?_
    refine rv0 rfl rfl rfl (y_pick_t rfl rfl) ?_
    refine rj_callp (wn0 rfl) rfl Try.call66 rfl (must_p _ 26) (by (repeat (first|exact zN _|(apply zS;focus (repeat (first|exact zH _|apply zT)))))) (fun e hpe => ?_) (fun u5_6 hu5_6 => ?_)
    · refine hpan _ _ _ _ ?_; refine ej_pan _ ([]) (by first | exact Hp.le_refl _ | assumption | exact Hp.le_trans ‹_› ‹_›) rfl (by (repeat (first|exact zR _|(apply zP;focus (repeat (first|exact zH _|apply zT)))|apply zD|exact zA _ _))) ?_; obtain ⟨h1, rfl⟩ := must_err hpe; exact ⟨⟨26, num64_err (fun hin => by unfold inI at hin; rw [hmul] at hin; first | (simp at h1; omega) | (simp at hg22; omega) | (simp at hg32; omega)), rfl⟩, rfl⟩
    refine rj_nil ?_
    refine hK9 _ _ _ ?_
    refine cj_env (eL 6 rfl eN) ?_
    refine cj_seq (fun K10 hK10 => ?_)
    refine cj_region ?_
    refine rv0 rfl rfl rfl (y_move rfl) ?_
    refine rv0 rfl rfl rfl ((y_conv Try.underlying116 Try.underlying2 rfl)) ?_
    refine rv0 rfl rfl rfl (y_assign rfl) ?_
    refine rj_nil ?_
    refine hK10 _ _ _ ?_
    refine cj_env (eL 4 rfl eN) ?_
    refine cj_ret ?_
    refine hret _ _ _ ?_
    apply ej_ret Try.results82 (.cons (rv_tmp rfl) .nil) _ [] (by (first | exact Hp.le_refl _ | assumption | exact Hp.le_trans ‹_› ‹_›)) rfl
    case hp =>
     have h1 := must_ok hu5_6; simp at h1 hg32; have hp : p < 9223372036854775808 := by omega
     have e1 : p % 18446744073709551616 = p := by omega
     rw [e1]
     exact ⟨num64_ok' (by unfold inI; rw [hmul]; omega) (by rw [hmul, wrap_i64_in (by omega)]), rfl⟩
    case hS => (repeat (first|exact zR _|(apply zP;focus (repeat (first|exact zH _|apply zT)))|apply zD|exact zA _ _))
   ·try simp only [dT, dF, nT, nF, tF, fT] at hg32
    refine rj_skip (wn2 rfl rfl rfl rfl rfl) rfl rfl ?_
    refine rj_skip (wn2 rfl rfl rfl rfl rfl) rfl rfl ?_
    refine rv0 rfl rfl rfl (y_pick_f rfl rfl) ?_
    refine rj_callp (wn0 rfl) rfl Try.call66 rfl (must_p _ 26) (by (repeat (first|exact zN _|(apply zS;focus (repeat (first|exact zH _|apply zT)))))) (fun e hpe => ?_) (fun u5_6 hu5_6 => ?_)
    · refine hpan _ _ _ _ ?_; refine ej_pan _ ([]) (by first | exact Hp.le_refl _ | assumption | exact Hp.le_trans ‹_› ‹_›) rfl (by (repeat (first|exact zR _|(apply zP;focus (repeat (first|exact zH _|apply zT)))|apply zD|exact zA _ _))) ?_; obtain ⟨h1, rfl⟩ := must_err hpe; exact ⟨⟨26, num64_err (fun hin => by unfold inI at hin; rw [hmul] at hin; first | (simp at h1; omega) | (simp at hg22; omega) | (simp at hg32; omega)), rfl⟩, rfl⟩
    refine rj_nil ?_
    refine hK9 _ _ _ ?_
    refine cj_env (eL 6 rfl eN) ?_
    refine cj_seq (fun K11 hK11 => ?_)
    refine cj_region ?_
    refine rv0 rfl rfl rfl (y_move rfl) ?_
    refine rv0 rfl rfl rfl ((y_conv Try.underlying116 Try.underlying2 rfl)) ?_
    refine rv0 rfl rfl rfl (y_assign rfl) ?_
    refine rj_nil ?_
    refine hK11 _ _ _ ?_
    refine cj_env (eL 4 rfl eN) ?_
    refine cj_ret ?_
    refine hret _ _ _ ?_
    apply ej_ret Try.results82 (.cons (rv_tmp rfl) .nil) _ [] (by (first | exact Hp.le_refl _ | assumption | exact Hp.le_trans ‹_› ‹_›)) rfl
    case hp => have h1 := must_ok hu5_6; cases h1
    case hS => (repeat (first|exact zR _|(apply zP;focus (repeat (first|exact zH _|apply zT)))|apply zD|exact zA _ _))
/-! ### quotients -/
theorem quo_in {a b : Int} (ha : inI a) (h0 : b ≠ 0) : inI (a.tdiv b) ↔ ¬ (a = -9223372036854775808 ∧ b = -1) := by
  unfold inI at *
  have h1 : (a.tdiv b).natAbs = a.natAbs / b.natAbs := Int.natAbs_tdiv a b
  constructor
  · rintro h ⟨rfl, rfl⟩
    revert h; decide
  · intro h
    by_cases hb : b.natAbs = 1
    · have : b = 1 ∨ b = -1 := by omega
      rcases this with rfl | rfl
      · rw [Int.tdiv_one]; omega
      · rw [Int.tdiv_neg, Int.tdiv_one]; omega
    · have h2 : a.natAbs / b.natAbs ≤ a.natAbs / 2 := Nat.div_le_div_left (by omega) (by omega)
      omega
theorem rem_in {a b : Int} (hb : inI b) (h0 : b ≠ 0) : inI (a.tmod b) := by
  unfold inI at *
  have h1 : (a.tmod b).natAbs = a.natAbs % b.natAbs := Int.natAbs_tmod a b
  have h2 := Nat.mod_lt a.natAbs (show 0 < b.natAbs by omega)
  omega
/-- two numbers reckoned -/
def reckV : Op → Int → Int → Except Int Int
  | .add, a, b => num64 (a + b)
  | .sub, a, b => num64 (a - b)
  | .mul, a, b => num64 (a * b)
  | .rem, a, b => if b = 0 then .error 27 else .ok (a.tmod b)
  | _, a, b => if b = 0 then .error 27 else num64 (a.tdiv b)
theorem reckV_zero {op : Op} {a : Int} (h1 : ¬ op = .add) (h2 : ¬ op = .sub) (h3 : ¬ op = .mul) : reckV op a 0 = .error 27 := by cases op <;> first | exact absurd rfl h1 | exact absurd rfl h2 | exact absurd rfl h3 | rfl
theorem reckV_div {op : Op} {a b : Int} (h1 : ¬ op = .add) (h2 : ¬ op = .sub) (h3 : ¬ op = .mul) (h4 : ¬ op = .rem) (h0 : b ≠ 0) : reckV op a b = num64 (a.tdiv b) := by cases op <;> first | exact absurd rfl h1 | exact absurd rfl h2 | exact absurd rfl h3 | exact absurd rfl h4 | (simp only [reckV]; rw [if_neg h0])
theorem reckV_rem {a b : Int} (h0 : b ≠ 0) : reckV .rem a b = .ok (a.tmod b) := by simp only [reckV]; rw [if_neg h0]
theorem reckon_p {R : Hp} (op : Op) (a b : Int) (ha : inI a) (hb : inI b) : Giv 68 [.string (str op.str), .int .i64 a, .int .i64 b] R [] (intV (reckV op a b)) := by
  refine PTri.of ?_
  refine tri_of Try.func68 rfl Try.ntmps68 rfl (fun σ F Q hret hend hpan => ?_)
  try simp only [List.cons_append, List.nil_append]
  refine cj_env (eL 0 rfl (eL 1 rfl (eL 2 rfl eN))) ?_
  refine cj_seq (fun K1 hK1 => ?_)
  refine cj_region ?_
  refine rv0 rfl rfl rfl (y_assign rfl) ?_
  refine rj_nil ?_
  refine hK1 _ _ _ ?_
  refine cj_seq (fun K2 hK2 => ?_)
  refine cj_seq (fun K3 hK3 => ?_)
  refine cj_region ?_
  refine rv0 rfl rfl rfl (y_move rfl) ?_
  refine rj_nil ?_
  refine hK3 _ _ _ ?_
  refine cj_block ?_
  refine cj_seq (fun K4 hK4 => ?_)
  refine cj_region ?_
  refine rv0 rfl rfl rfl (y_seql rfl rfl) ?_
  refine rv0 rfl rfl rfl (y_assign rfl) ?_
  refine rj_nil ?_
  refine hK4 _ _ _ ?_
  refine cj_cond rfl (fun hc8 => ?_) (fun hc8 => ?_)
  ·obtain rfl := Op.is hc8 rfl
   refine cj_seq (fun K6 hK6 => ?_)
   refine cj_region ?_
   refine rv0 rfl rfl rfl (y_move rfl) ?_
   refine rv0 rfl rfl rfl (y_move rfl) ?_
   refine rj_callp (wn0 rfl) rfl Try.call80 rfl (plus_p a b ha hb) (by (repeat (first|exact zN _|(apply zS;focus (repeat (first|exact zH _|apply zT)))))) (fun e hpe => ?_) (fun u3_2 hu3_2 => ?_)
   · refine hpan _ _ _ _ ?_; refine ej_pan _ ([]) (by first | exact Hp.le_refl _ | assumption | exact Hp.le_trans ‹_› ‹_›) rfl (by (repeat (first|exact zR _|(apply zP;focus (repeat (first|exact zH _|apply zT)))|apply zD|exact zA _ _))) ?_; exact ⟨⟨e, by rw [reckV]; exact hpe, rfl⟩, rfl⟩
   refine rv0 rfl rfl rfl (y_assign rfl) ?_
   refine rj_nil ?_
   refine hK6 _ _ _ ?_
   refine cj_env (eL 6 rfl eN) ?_
   refine cj_ret ?_
   refine hret _ _ _ ?_
   apply ej_ret Try.results68 (.cons (rv_tmp rfl) .nil) _ [] (by (first | exact Hp.le_refl _ | assumption | exact Hp.le_trans ‹_› ‹_›)) rfl
   case hp => exact ⟨by rw [reckV]; exact hu3_2, rfl⟩
   case hS => (repeat (first|exact zR _|(apply zP;focus (repeat (first|exact zH _|apply zT)))|apply zD|exact zA _ _))
  ·have n1 : ¬ op = .add := by rintro rfl; simp [Op.str] at hc8
   refine cj_seq (fun K7 hK7 => ?_)
   refine cj_region ?_
   refine rv0 rfl rfl rfl (y_seql rfl rfl) ?_
   refine rv0 rfl rfl rfl (y_assign rfl) ?_
   refine rj_nil ?_
   refine hK7 _ _ _ ?_
   refine cj_env (eL 0 rfl (eL 1 rfl (eL 2 rfl (eL 7 rfl (eL 13 rfl eN))))) ?_
   refine cj_cond rfl (fun hc13 => ?_) (fun hc13 => ?_)
   ·obtain rfl := Op.is hc13 rfl
    refine cj_seq (fun K9 hK9 => ?_)
    refine cj_region ?_
    refine rv0 rfl rfl rfl (y_move rfl) ?_
    refine rv0 rfl rfl rfl (y_move rfl) ?_
    refine rj_callp (wn0 rfl) rfl Try.call65 rfl (minus_p a b ha hb) (by (repeat (first|exact zN _|(apply zS;focus (repeat (first|exact zH _|apply zT)))))) (fun e hpe => ?_) (fun u5_2 hu5_2 => ?_)
    · refine hpan _ _ _ _ ?_; refine ej_pan _ ([]) (by first | exact Hp.le_refl _ | assumption | exact Hp.le_trans ‹_› ‹_›) rfl (by (repeat (first|exact zR _|(apply zP;focus (repeat (first|exact zH _|apply zT)))|apply zD|exact zA _ _))) ?_; exact ⟨⟨e, by rw [reckV]; exact hpe, rfl⟩, rfl⟩
    refine rv0 rfl rfl rfl (y_assign rfl) ?_
    refine rj_nil ?_
    refine hK9 _ _ _ ?_
    refine cj_env (eL 6 rfl eN) ?_
    refine cj_ret ?_
    refine hret _ _ _ ?_
    apply ej_ret Try.results68 (.cons (rv_tmp rfl) .nil) _ [] (by (first | exact Hp.le_refl _ | assumption | exact Hp.le_trans ‹_› ‹_›)) rfl
    case hp => exact ⟨by rw [reckV]; exact hu5_2, rfl⟩
    case hS => (repeat (first|exact zR _|(apply zP;focus (repeat (first|exact zH _|apply zT)))|apply zD|exact zA _ _))
   ·have n2 : ¬ op = .sub := by rintro rfl; simp [Op.str] at hc13
    refine cj_seq (fun K10 hK10 => ?_)
    refine cj_region ?_
    refine rv0 rfl rfl rfl (y_seql rfl rfl) ?_
    refine rv0 rfl rfl rfl (y_assign rfl) ?_
    refine rj_nil ?_
    refine hK10 _ _ _ ?_
    refine cj_env (eL 0 rfl (eL 1 rfl (eL 2 rfl (eL 18 rfl eN)))) ?_
    refine cj_cond rfl (fun hc18 => ?_) (fun hc18 => ?_)
    ·obtain rfl := Op.is hc18 rfl
     refine cj_seq (fun K12 hK12 => ?_)
     refine cj_region ?_
     refine rv0 rfl rfl rfl (y_move rfl) ?_
     refine rv0 rfl rfl rfl (y_move rfl) ?_
     refine rj_callp (wn0 rfl) rfl Try.call82 rfl (times_p a b ha hb) (by (repeat (first|exact zN _|(apply zS;focus (repeat (first|exact zH _|apply zT)))))) (fun e hpe => ?_) (fun u7_2 hu7_2 => ?_)
     · refine hpan _ _ _ _ ?_; refine ej_pan _ ([]) (by first | exact Hp.le_refl _ | assumption | exact Hp.le_trans ‹_› ‹_›) rfl (by (repeat (first|exact zR _|(apply zP;focus (repeat (first|exact zH _|apply zT)))|apply zD|exact zA _ _))) ?_; exact ⟨⟨e, by rw [reckV]; exact hpe, rfl⟩, rfl⟩
     refine rv0 rfl rfl rfl (y_assign rfl) ?_
     refine rj_nil ?_
     refine hK12 _ _ _ ?_
     refine cj_env (eL 6 rfl eN) ?_
     refine cj_ret ?_
     refine hret _ _ _ ?_
     apply ej_ret Try.results68 (.cons (rv_tmp rfl) .nil) _ [] (by (first | exact Hp.le_refl _ | assumption | exact Hp.le_trans ‹_› ‹_›)) rfl
     case hp => exact ⟨by rw [reckV]; exact hu7_2, rfl⟩
     case hS => (repeat (first|exact zR _|(apply zP;focus (repeat (first|exact zH _|apply zT)))|apply zD|exact zA _ _))
    ·have n3 : ¬ op = .mul := by rintro rfl; simp [Op.str] at hc18
     refine cj_skip ?_
     refine hK2 _ _ _ ?_
     refine cj_seq (fun K13 hK13 => ?_)
     refine cj_region ?_
     refine rv0 rfl rfl rfl (y_move rfl) ?_
     refine rv0 rfl rfl rfl (y_neq rfl rfl) ?_
     refine rj_callp (wn0 rfl) rfl Try.call66 rfl (must_p _ 27) (by (repeat (first|exact zN _|(apply zS;focus (repeat (first|exact zH _|apply zT)))))) (fun e hpe => ?_) (fun u8_2 hu8_2 => ?_)
     · refine hpan _ _ _ _ ?_; refine ej_pan _ ([]) (by first | exact Hp.le_refl _ | assumption | exact Hp.le_trans ‹_› ‹_›) rfl (by (repeat (first|exact zR _|(apply zP;focus (repeat (first|exact zH _|apply zT)))|apply zD|exact zA _ _))) ?_; obtain ⟨h1, rfl⟩ := must_err hpe; obtain rfl : b = 0 := (by simpa using h1); exact ⟨⟨27, (by rw [reckV_zero n1 n2 n3]; rfl), rfl⟩, rfl⟩
     have h0 : b ≠ 0 := by have h1 := must_ok hu8_2; simpa using h1
     refine rj_nil ?_
     refine hK13 _ _ _ ?_
     refine cj_env (eL 0 rfl (eL 1 rfl (eL 2 rfl eN))) ?_
     refine cj_seq (fun K14 hK14 => ?_)
     refine cj_block ?_
     refine cj_seq (fun K15 hK15 => ?_)
     refine cj_region ?_
     refine rv0 rfl rfl rfl (y_move rfl) ?_
     refine rv0 rfl rfl rfl (y_seql rfl rfl) ?_
     refine rv0 rfl rfl rfl (y_move rfl) ?_
     refine rj_part 29 rfl (fun hg29 => ?_) (fun hg29 => ?_)
     ·obtain rfl := Op.is (op := op) (s := [37]) (by simpa using hg29) rfl
      refine rj_val (wn1 rfl rfl rfl rfl) rfl rfl (y_move rfl) ?_
      refine rj_val (wn1 rfl rfl rfl rfl) rfl rfl (y_eql rfl rfl) ?_
      refine rv0 rfl rfl rfl (y_pick_t rfl rfl) ?_
      refine rv0 rfl rfl rfl (y_assign rfl) ?_
      refine rj_nil ?_
      refine hK15 _ _ _ ?_
      refine cj_env (eL 0 rfl (eL 1 rfl (eL 2 rfl (eL 26 rfl eN)))) ?_
      refine cj_cond rfl (fun hc26 => ?_) (fun hc26 => ?_)
      ·try simp only [dT, dF, nT, nF, tF, fT] at hc26
       refine cj_seq (fun K17 hK17 => ?_)
       refine cj_region ?_
       refine rv0 rfl rfl rfl (y_assign rfl) ?_
       refine rj_nil ?_
       refine hK17 _ _ _ ?_
       refine cj_env (eL 6 rfl eN) ?_
       refine cj_ret ?_
       refine hret _ _ _ ?_
       apply ej_ret Try.results68 (.cons (rv_tmp rfl) .nil) _ [] (by (first | exact Hp.le_refl _ | assumption | exact Hp.le_trans ‹_› ‹_›)) rfl
       case hp =>
        obtain rfl : b = -1 := by simpa using hc26
        exact ⟨by rw [reckV_rem h0, Int.tmod_neg, Int.tmod_one]; rfl, rfl⟩
       case hS => (repeat (first|exact zR _|(apply zP;focus (repeat (first|exact zH _|apply zT)))|apply zD|exact zA _ _))
      ·try simp only [dT, dF, nT, nF, tF, fT] at hc26
       refine cj_seq (fun K18 hK18 => ?_)
       refine cj_region ?_
       refine rv0 rfl rfl rfl (y_move rfl) ?_
       refine rv0 rfl rfl rfl (y_seql rfl rfl) ?_
       first | refine rj_eq 35 rfl (v' := .bool true) rfl ?_ | refine rj_eq 35 rfl (v' := .bool false) (by simp; (try simpa using hg29)) ?_
       refine rv0 rfl rfl rfl (y_assign rfl) ?_
       refine rj_nil ?_
       refine hK18 _ _ _ ?_
       refine cj_env (eL 1 rfl (eL 2 rfl (eL 33 rfl eN))) ?_
       refine cj_cond_t rfl ?_
       refine cj_seq (fun K19 hK19 => ?_)
       refine cj_region ?_
       refine rv0 rfl rfl rfl (y_move rfl) ?_
       refine rv0 rfl rfl rfl (y_move rfl) ?_
       refine rv0 rfl rfl rfl ((y_rem rfl rfl h0)) ?_
       refine rv0 rfl rfl rfl (y_assign rfl) ?_
       refine rj_nil ?_
       refine hK19 _ _ _ ?_
       refine cj_env (eL 6 rfl eN) ?_
       refine cj_ret ?_
       refine hret _ _ _ ?_
       apply ej_ret Try.results68 (.cons (rv_tmp rfl) .nil) _ [] (by (first | exact Hp.le_refl _ | assumption | exact Hp.le_trans ‹_› ‹_›)) rfl
       case hp => exact ⟨by rw [reckV_rem h0]; rfl, rfl⟩
       case hS => (repeat (first|exact zR _|(apply zP;focus (repeat (first|exact zH _|apply zT)))|apply zD|exact zA _ _))
     ·have n4 : ¬ op = .rem := by rintro rfl; simp [Op.str] at hg29
      refine rj_skip (wn2 rfl rfl rfl rfl rfl) rfl rfl ?_
      refine rj_skip (wn2 rfl rfl rfl rfl rfl) rfl rfl ?_
      refine rv0 rfl rfl rfl (y_pick_f rfl rfl) ?_
      refine rv0 rfl rfl rfl (y_assign rfl) ?_
      refine rj_nil ?_
      refine hK15 _ _ _ ?_
      refine cj_env (eL 0 rfl (eL 1 rfl (eL 2 rfl (eL 26 rfl eN)))) ?_
      refine cj_cond_f rfl ?_
      refine cj_seq (fun K20 hK20 => ?_)
      refine cj_region ?_
      refine rv0 rfl rfl rfl (y_move rfl) ?_
      refine rv0 rfl rfl rfl (y_seql rfl rfl) ?_
      first | refine rj_eq 35 rfl (v' := .bool true) rfl ?_ | refine rj_eq 35 rfl (v' := .bool false) (by simp; (try simpa using hg29)) ?_
      refine rv0 rfl rfl rfl (y_assign rfl) ?_
      refine rj_nil ?_
      refine hK20 _ _ _ ?_
      refine cj_env (eL 1 rfl (eL 2 rfl (eL 33 rfl eN))) ?_
      refine cj_cond_f rfl ?_
      refine cj_skip ?_
      refine hK14 _ _ _ ?_
      refine cj_seq (fun K21 hK21 => ?_)
      refine cj_region ?_
      refine rv0 rfl rfl rfl (y_move rfl) ?_
      refine rv0 rfl rfl rfl (y_neq rfl rfl) ?_
      refine rv0 rfl rfl rfl (y_move rfl) ?_
      refine rj_part 41 rfl (fun hg41 => ?_) (fun hg41 => ?_)
      ·try simp only [dT, dF, nT, nF, tF, fT] at hg41
       refine rj_skip (wn2 rfl rfl rfl rfl rfl) rfl rfl ?_
       refine rj_skip (wn2 rfl rfl rfl rfl rfl) rfl rfl ?_
       refine rv0 rfl rfl rfl (y_pick_t rfl rfl) ?_
       refine rj_callp (wn0 rfl) rfl Try.call66 rfl (must_p _ 26) (by (repeat (first|exact zN _|(apply zS;focus (repeat (first|exact zH _|apply zT)))))) (fun e hpe => ?_) (fun u13_6 hu13_6 => ?_)
       · refine hpan _ _ _ _ ?_; refine ej_pan _ ([]) (by first | exact Hp.le_refl _ | assumption | exact Hp.le_trans ‹_› ‹_›) rfl (by (repeat (first|exact zR _|(apply zP;focus (repeat (first|exact zH _|apply zT)))|apply zD|exact zA _ _))) ?_; obtain ⟨h1, rfl⟩ := must_err hpe; exact ⟨⟨26, by rw [reckV_div n1 n2 n3 n4 h0, num64_err (fun h => (quo_in ha h0).1 h (by simp at h1 hg41; (try exact ⟨hg41, h1⟩)))], rfl⟩, rfl⟩
       refine rj_nil ?_
       refine hK21 _ _ _ ?_
       refine cj_env (eL 1 rfl (eL 2 rfl eN)) ?_
       refine cj_seq (fun K22 hK22 => ?_)
       refine cj_region ?_
       refine rv0 rfl rfl rfl (y_move rfl) ?_
       refine rv0 rfl rfl rfl (y_move rfl) ?_
       refine rv0 rfl rfl rfl ((y_quo rfl rfl h0)) ?_
       refine rv0 rfl rfl rfl (y_assign rfl) ?_
       refine rj_nil ?_
       refine hK22 _ _ _ ?_
       refine cj_env (eL 6 rfl eN) ?_
       refine cj_ret ?_
       refine hret _ _ _ ?_
       apply ej_ret Try.results68 (.cons (rv_tmp rfl) .nil) _ [] (by (first | exact Hp.le_refl _ | assumption | exact Hp.le_trans ‹_› ‹_›)) rfl
       case hp => exact ⟨by rw [reckV_div n1 n2 n3 n4 h0, num64_ok ((quo_in ha h0).2 (fun h => by (try simp at hg41); exact hg41 h.1))]; rfl, rfl⟩
       case hS => (repeat (first|exact zR _|(apply zP;focus (repeat (first|exact zH _|apply zT)))|apply zD|exact zA _ _))
      ·try simp only [dT, dF, nT, nF, tF, fT] at hg41
       refine rj_val (wn1 rfl rfl rfl rfl) rfl rfl (y_move rfl) ?_
       refine rj_val (wn1 rfl rfl rfl rfl) rfl rfl (y_neq rfl rfl) ?_
       refine rv0 rfl rfl rfl (y_pick_f rfl rfl) ?_
       refine rj_callp (wn0 rfl) rfl Try.call66 rfl (must_p _ 26) (by (repeat (first|exact zN _|(apply zS;focus (repeat (first|exact zH _|apply zT)))))) (fun e hpe => ?_) (fun u13_6 hu13_6 => ?_)
       · refine hpan _ _ _ _ ?_; refine ej_pan _ ([]) (by first | exact Hp.le_refl _ | assumption | exact Hp.le_trans ‹_› ‹_›) rfl (by (repeat (first|exact zR _|(apply zP;focus (repeat (first|exact zH _|apply zT)))|apply zD|exact zA _ _))) ?_; obtain ⟨h1, rfl⟩ := must_err hpe; exact ⟨⟨26, by rw [reckV_div n1 n2 n3 n4 h0, num64_err (fun h => (quo_in ha h0).1 h (by simp at h1 hg41; (try exact ⟨hg41, h1⟩)))], rfl⟩, rfl⟩
       refine rj_nil ?_
       refine hK21 _ _ _ ?_
       refine cj_env (eL 1 rfl (eL 2 rfl eN)) ?_
       refine cj_seq (fun K23 hK23 => ?_)
       refine cj_region ?_
       refine rv0 rfl rfl rfl (y_move rfl) ?_
       refine rv0 rfl rfl rfl (y_move rfl) ?_
       refine rv0 rfl rfl rfl ((y_quo rfl rfl h0)) ?_
       refine rv0 rfl rfl rfl (y_assign rfl) ?_
       refine rj_nil ?_
       refine hK23 _ _ _ ?_
       refine cj_env (eL 6 rfl eN) ?_
       refine cj_ret ?_
       refine hret _ _ _ ?_
       apply ej_ret Try.results68 (.cons (rv_tmp rfl) .nil) _ [] (by (first | exact Hp.le_refl _ | assumption | exact Hp.le_trans ‹_› ‹_›)) rfl
       case hp =>
        have h1 := must_ok hu13_6
        exact ⟨by rw [reckV_div n1 n2 n3 n4 h0, num64_ok ((quo_in ha h0).2 (fun h => by simp at h1; exact h1 h.2))]; rfl, rfl⟩
       case hS => (repeat (first|exact zR _|(apply zP;focus (repeat (first|exact zH _|apply zT)))|apply zD|exact zA _ _))
end V
end Go.Proofs.Ytghgifgmacapcaa
