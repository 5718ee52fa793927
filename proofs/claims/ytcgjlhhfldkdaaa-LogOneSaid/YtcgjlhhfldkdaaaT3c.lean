/- strings.Builder, at the head of a writer; a node's bytes written. -/
import Derived.Test.YtcgjlhhfldkdaaaT3b
import Derived.Test.YtcgjlhhfldkdaaaV12
set_option linter.unusedSimpArgs false
set_option linter.unusedVariables false
set_option maxRecDepth 100000
namespace Go.Proofs.Ytcgjlhhfldkdaaa
open Go.RowKit
namespace V
set_option maxHeartbeats 1000000
/-- a writer: the builder's own address, its row, whether all is lost -/
@[reducible] def wB (b : Nat) (q : Option Addr) (v : Value) (bad : Bool) : Asn := blk b [.pointer q, v, .bool bad] 98
@[reducible] def wS (v : Value) (bs : List UInt8) : Asn := slc 5 1 v bs.length (bytesV bs)
def own1 (b : Nat) (q : Option Addr) : Prop := q = none ∨ q = some ⟨b, 0, none⟩
theorem copyCheck_t {R : Hp} (b : Nat) (q : Option Addr) (v : Value) (bad : Bool) (hq : own1 b q) : Tri Try.prog 59 [.pointer (some ⟨b, 0, none⟩)] R [wB b q v bad]
    (fun r R' L' => R = R' ∧ L' = [wB b (some ⟨b, 0, none⟩) v bad]) := by
  refine tri_of Try.func59 rfl Try.ntmps59 rfl (fun σ F Q hret hend hpan => ?_)
  try simp only [List.cons_append, List.nil_append]
  refine cj_env (eL 0 rfl eN) ?_
  refine cj_seq (fun K1 hK1 => ?_)
  refine cj_region ?_
  refine rv0 rfl rfl rfl (y_move rfl) ?_
  refine rv0 rfl rfl rfl (y_nilCheck rfl) ?_
  refine rv0 rfl rfl rfl (y_fieldAddr (k := 0) Try.underlying96 rfl (n := 1) (by decide) Try.sizeOf94 rfl) ?_
  first | refine rv0 rfl rfl rfl (y_load ⟨Try.isAgg94, Try.sizeOf94⟩ rfl (by (repeat (first|exact zH _|apply zT));done) rfl) ?_ | refine rv0 rfl rfl rfl (y_load_slc ⟨Try.isAgg94, Try.sizeOf94⟩ rfl (by (repeat (first|exact zH _|apply zT));done) rfl) ?_
  refine rv0 rfl rfl rfl (y_peql Try.underlying94 rfl rfl) ?_
  refine rj_nil ?_
  refine hK1 _ _ _ ?_
  refine cj_env (eL 0 rfl (eL 6 rfl eN)) ?_
  refine cj_cond rfl (fun hc6 => ?_) (fun hc6 => ?_)
  ·try simp only [dT, dF, nT, nF, tF, fT] at hc6
   refine cj_region ?_
   refine rv0 rfl rfl rfl (y_move rfl) ?_
   refine rv0 rfl rfl rfl (y_move rfl) ?_
   refine rv0 rfl rfl rfl ((y_to_unsafe Try.underlying94 Try.underlying111 (by kernel_rfl) rfl (by (repeat (first|exact zH _|apply zT));done) (by simp))) ?_
   refine rv0 rfl rfl rfl ((y_noEscape Try.func61 (by kernel_rfl) (by kernel_rfl) (by kernel_rfl) (by kernel_rfl) rfl)) ?_
   refine rv0 rfl rfl rfl ((y_from_unsafe Try.underlying111 Try.underlying94 (by kernel_rfl) rfl (by (repeat (first|exact zH _|apply zT));done) rfl (by kernel_rfl))) ?_
   refine rv0 rfl rfl rfl (y_nilCheck rfl) ?_
   refine rv0 rfl rfl rfl (y_fieldAddr (k := 0) Try.underlying96 rfl (n := 1) (by decide) Try.sizeOf94 rfl) ?_
   refine rj_store ⟨Try.isAgg94, Try.sizeOf94⟩ (wn0 rfl) rfl rfl (by (first | rfl | assumption | (apply cutV_one; assumption))) (by (repeat (first|exact zH _|apply zT));done) rfl rfl ?_
   refine rj_nil ?_
   refine hend _ _ _ ?_
   apply ej_end Try.results59 .nil _ [wB b (some ⟨b, 0, none⟩) v bad] (by (first | exact Hp.le_refl _ | assumption | exact Hp.le_trans ‹_› ‹_›)) rfl
   case hp => exact ⟨rfl, rfl⟩
   case hS => (repeat (first|exact zR _|(apply zP;focus (repeat (first|exact zH _|apply zT)))|apply zD|exact zA _ _))
  ·obtain rfl : q = some ⟨b, 0, none⟩ := by rcases hq with rfl | rfl; simp at hc6; rfl
   refine cj_seq (fun K3 hK3 => ?_)
   refine cj_region ?_
   refine rv0 rfl rfl rfl (y_move rfl) ?_
   refine rv0 rfl rfl rfl (y_nilCheck rfl) ?_
   refine rv0 rfl rfl rfl (y_fieldAddr (k := 0) Try.underlying96 rfl (n := 1) (by decide) Try.sizeOf94 rfl) ?_
   first | refine rv0 rfl rfl rfl (y_load ⟨Try.isAgg94, Try.sizeOf94⟩ rfl (by (repeat (first|exact zH _|apply zT));done) rfl) ?_ | refine rv0 rfl rfl rfl (y_load_slc ⟨Try.isAgg94, Try.sizeOf94⟩ rfl (by (repeat (first|exact zH _|apply zT));done) rfl) ?_
   refine rv0 rfl rfl rfl (y_move rfl) ?_
   refine rv0 rfl rfl rfl ((y_pneq_same Try.underlying94 (by kernel_rfl) rfl rfl)) ?_
   refine rj_nil ?_
   refine hK3 _ _ _ ?_
   refine cj_env (eL 19 rfl eN) ?_
   refine cj_cond_f rfl ?_
   refine cj_skip ?_
   refine hend _ _ _ ?_
   apply ej_end Try.results59 .nil _ [wB b (some ⟨b, 0, none⟩) v bad] (by (first | exact Hp.le_refl _ | assumption | exact Hp.le_trans ‹_› ‹_›)) rfl
   case hp => exact ⟨rfl, rfl⟩
   case hS => (repeat (first|exact zR _|(apply zP;focus (repeat (first|exact zH _|apply zT)))|apply zD|exact zA _ _))
theorem writeByte_t {R : Hp} (b : Nat) (q : Option Addr) (v : Value) (bad : Bool) (bs : List UInt8) (u : UInt8) (hq : own1 b q) (hh : headed v) (hl : bs.length ≤ 1000000000) : Tri Try.prog 54 [.pointer (some ⟨b, 0, none⟩), .int .u8 (u.toNat : Int)] R [wB b q v bad, wS v bs]
    (fun r R' L' => R = R' ∧ ∃ v', headed v' ∧ L' = [wB b (some ⟨b, 0, none⟩) v' bad, wS v' (bs ++ [u])]) := by
  refine tri_of Try.func54 rfl Try.ntmps54 rfl (fun σ F Q hret hend hpan => ?_)
  try simp only [List.cons_append, List.nil_append]
  refine cj_env (eL 0 rfl (eL 1 rfl eN)) ?_
  refine cj_seq (fun K1 hK1 => ?_)
  refine cj_region ?_
  refine rv0 rfl rfl rfl (y_assign rfl) ?_
  refine rj_nil ?_
  refine hK1 _ _ _ ?_
  refine cj_seq (fun K2 hK2 => ?_)
  refine cj_region ?_
  refine rv0 rfl rfl rfl (y_move rfl) ?_
  refine rj_call (wn0 rfl) rfl Try.call59 rfl (copyCheck_t b q v bad hq) (by (repeat (first|exact zN _|(apply zS;focus (repeat (first|exact zH _|apply zT)))))) (fun _ _ _ _ h => h.elim) ?_
  rintro r R' L' hR ⟨rfl, rfl⟩
  try simp only [List.cons_append, List.nil_append]
  refine rj_nil ?_
  refine hK2 _ _ _ ?_
  refine cj_env (eL 0 rfl (eL 1 rfl eN)) ?_
  refine cj_seq (fun K3 hK3 => ?_)
  refine cj_region ?_
  refine rv0 rfl rfl rfl (y_move rfl) ?_
  refine rv0 rfl rfl rfl (y_move rfl) ?_
  refine rv0 rfl rfl rfl (y_nilCheck rfl) ?_
  refine rv0 rfl rfl rfl (y_fieldAddr (k := 1) Try.underlying96 rfl (n := 1) (by decide) Try.sizeOf52 rfl) ?_
  first | refine rv0 rfl rfl rfl (y_load ⟨Try.isAgg52, Try.sizeOf52⟩ rfl (by (repeat (first|exact zH _|apply zT));done) rfl) ?_ | refine rv0 rfl rfl rfl (y_load_slc ⟨Try.isAgg52, Try.sizeOf52⟩ rfl (by (repeat (first|exact zH _|apply zT));done) rfl) ?_
  refine rv0 rfl rfl rfl (y_move rfl) ?_
  refine rj_buildSlice (sz := 1) (wn0 rfl) rfl Try.underlying52 Try.sizeOf5 Try.zeroValue5 rfl rfl rfl (by decide) (by decide) (fun b13 => ?_)
  refine rj_append (sz := 1) (by_ := 1) ⟨Try.underlying52, _, _, rfl, rfl, rfl, rfl, rfl⟩ (wn0 rfl) rfl rfl rfl (by (repeat (first|exact zH _|apply zT));done) (src_slc (xs := [.int .u8 (u.toNat : Int)]) Try.underlying52 (by (repeat (first|exact zH _|apply zT));done) (by (first | (simp [Value.oneCell']; done) | (intro u hu; simp only [List.mem_cons, List.not_mem_nil, or_false] at hu; rcases hu with rfl | rfl | rfl | rfl <;> first | rfl | assumption)))) rfl (by (first | omega | (dsimp only; omega) | (simp; done) | (simp; omega))) (by simp only [maxLen]; omega) (fun v14 ho14 hh14 => ?_)
  rw [show bytesV bs ++ [Value.int .u8 (u.toNat : Int)] = bytesV (bs ++ [u]) by rw [← bytesV_app]; rfl, show bs.length + 1 = (bs ++ [u]).length by simp]
  refine rv0 rfl rfl rfl (y_nilCheck rfl) ?_
  refine rv0 rfl rfl rfl (y_fieldAddr (k := 1) Try.underlying96 rfl (n := 1) (by decide) Try.sizeOf52 rfl) ?_
  refine rj_store ⟨Try.isAgg52, Try.sizeOf52⟩ (wn0 rfl) rfl rfl (by (first | rfl | assumption | (apply cutV_one; assumption))) (by (repeat (first|exact zH _|apply zT));done) rfl rfl ?_
  refine rj_nil ?_
  refine hK3 _ _ _ ?_
  refine cj_env eN ?_
  refine cj_seq (fun K4 hK4 => ?_)
  refine cj_region ?_
  refine rv0 rfl rfl rfl (y_assign rfl) ?_
  refine rj_nil ?_
  refine hK4 _ _ _ ?_
  refine cj_ret ?_
  refine hret _ _ _ ?_
  apply ej_ret Try.results54 (.cons (rv_tmp rfl) .nil) _ [wB b (some ⟨b, 0, none⟩) v14 bad, wS v14 (bs ++ [u])] (by (first | exact Hp.le_refl _ | assumption | exact Hp.le_trans ‹_› ‹_›)) rfl
  case hp => exact ⟨rfl, v14, hh14 hh, rfl⟩
  case hS => (repeat (first|exact zR _|(apply zP;focus (repeat (first|exact zH _|apply zT)))|apply zD|exact zA _ _))
theorem writeString_t {R : Hp} (b : Nat) (q : Option Addr) (v : Value) (bad : Bool) (bs s : List UInt8) (hq : own1 b q) (hh : headed v) (hl : bs.length ≤ 1000000000) (hs : s.length ≤ 1000000000) : Tri Try.prog 56 [.pointer (some ⟨b, 0, none⟩), .string (str s)] R [wB b q v bad, wS v bs]
    (fun r R' L' => R = R' ∧ ∃ v', headed v' ∧ L' = [wB b (some ⟨b, 0, none⟩) v' bad, wS v' (bs ++ s)]) := by
  refine tri_of Try.func56 rfl Try.ntmps56 rfl (fun σ F Q hret hend hpan => ?_)
  try simp only [List.cons_append, List.nil_append]
  refine cj_env (eL 0 rfl (eL 1 rfl eN)) ?_
  refine cj_seq (fun K1 hK1 => ?_)
  refine cj_region ?_
  refine rv0 rfl rfl rfl (y_assign rfl) ?_
  refine rv0 rfl rfl rfl (y_assign rfl) ?_
  refine rj_nil ?_
  refine hK1 _ _ _ ?_
  refine cj_seq (fun K2 hK2 => ?_)
  refine cj_region ?_
  refine rv0 rfl rfl rfl (y_move rfl) ?_
  refine rj_call (wn0 rfl) rfl Try.call59 rfl (copyCheck_t b q v bad hq) (by (repeat (first|exact zN _|(apply zS;focus (repeat (first|exact zH _|apply zT)))))) (fun _ _ _ _ h => h.elim) ?_
  rintro r R' L' hR ⟨rfl, rfl⟩
  try simp only [List.cons_append, List.nil_append]
  refine rj_nil ?_
  refine hK2 _ _ _ ?_
  refine cj_env (eL 0 rfl (eL 1 rfl eN)) ?_
  refine cj_seq (fun K3 hK3 => ?_)
  refine cj_region ?_
  refine rv0 rfl rfl rfl (y_move rfl) ?_
  refine rv0 rfl rfl rfl (y_move rfl) ?_
  refine rv0 rfl rfl rfl (y_nilCheck rfl) ?_
  refine rv0 rfl rfl rfl (y_fieldAddr (k := 1) Try.underlying96 rfl (n := 1) (by decide) Try.sizeOf52 rfl) ?_
  first | refine rv0 rfl rfl rfl (y_load ⟨Try.isAgg52, Try.sizeOf52⟩ rfl (by (repeat (first|exact zH _|apply zT));done) rfl) ?_ | refine rv0 rfl rfl rfl (y_load_slc ⟨Try.isAgg52, Try.sizeOf52⟩ rfl (by (repeat (first|exact zH _|apply zT));done) rfl) ?_
  refine rv0 rfl rfl rfl (y_move rfl) ?_
  refine rj_append (sz := 1) (by_ := 1) ⟨Try.underlying52, _, _, rfl, rfl, rfl, rfl, rfl⟩ (wn0 rfl) rfl rfl rfl (by (repeat (first|exact zH _|apply zT));done) (src_str Try.underlying9) rfl (by (first | omega | (dsimp only; omega) | (simp; done) | (simp; omega))) (by simp only [maxLen]; omega) (fun v14 ho14 hh14 => ?_)
  rw [bytesV_app, ← List.length_append]
  refine rv0 rfl rfl rfl (y_nilCheck rfl) ?_
  refine rv0 rfl rfl rfl (y_fieldAddr (k := 1) Try.underlying96 rfl (n := 1) (by decide) Try.sizeOf52 rfl) ?_
  refine rj_store ⟨Try.isAgg52, Try.sizeOf52⟩ (wn0 rfl) rfl rfl (by (first | rfl | assumption | (apply cutV_one; assumption))) (by (repeat (first|exact zH _|apply zT));done) rfl rfl ?_
  refine rj_nil ?_
  refine hK3 _ _ _ ?_
  refine cj_env (eL 1 rfl eN) ?_
  refine cj_seq (fun K4 hK4 => ?_)
  refine cj_region ?_
  refine rv0 rfl rfl rfl (y_move rfl) ?_
  refine rv0 rfl rfl rfl (y_slen Try.underlying9 rfl) ?_
  refine rv0 rfl rfl rfl (y_assign rfl) ?_
  refine rv0 rfl rfl rfl (y_assign rfl) ?_
  refine rj_nil ?_
  refine hK4 _ _ _ ?_
  refine cj_env (eL 4 rfl (eL 5 rfl eN)) ?_
  refine cj_ret ?_
  refine hret _ _ _ ?_
  apply ej_ret Try.results56 (.cons (rv_tmp rfl) (.cons (rv_tmp rfl) .nil)) _ [wB b (some ⟨b, 0, none⟩) v14 bad, wS v14 (bs ++ s)] (by (first | exact Hp.le_refl _ | assumption | exact Hp.le_trans ‹_› ‹_›)) rfl
  case hp => exact ⟨rfl, v14, hh14 hh, rfl⟩
  case hS => (repeat (first|exact zR _|(apply zP;focus (repeat (first|exact zH _|apply zT)))|apply zD|exact zA _ _))
theorem bLen_q {R : Hp} (b : Nat) (q : Option Addr) (v : Value) (bad : Bool) (bs : List UInt8) : QTri Try.prog 50 [.pointer (some ⟨b, 0, none⟩)] R [wB b q v bad, wS v bs] (.int .i64 (bs.length : Int)) := by
  refine Tri.q ?_
  refine tri_of Try.func50 rfl Try.ntmps50 rfl (fun σ F Q hret hend hpan => ?_)
  try simp only [List.cons_append, List.nil_append]
  refine cj_env (eL 0 rfl eN) ?_
  refine cj_seq (fun K1 hK1 => ?_)
  refine cj_region ?_
  refine rv0 rfl rfl rfl (y_assign rfl) ?_
  refine rj_nil ?_
  refine hK1 _ _ _ ?_
  refine cj_seq (fun K2 hK2 => ?_)
  refine cj_region ?_
  refine rv0 rfl rfl rfl (y_move rfl) ?_
  refine rv0 rfl rfl rfl (y_nilCheck rfl) ?_
  refine rv0 rfl rfl rfl (y_fieldAddr (k := 1) Try.underlying96 rfl (n := 1) (by decide) Try.sizeOf52 rfl) ?_
  first | refine rv0 rfl rfl rfl (y_load ⟨Try.isAgg52, Try.sizeOf52⟩ rfl (by (repeat (first|exact zH _|apply zT));done) rfl) ?_ | refine rv0 rfl rfl rfl (y_load_slc ⟨Try.isAgg52, Try.sizeOf52⟩ rfl (by (repeat (first|exact zH _|apply zT));done) rfl) ?_
  first | refine rv0 rfl rfl rfl (y_len_sl Try.underlying52 rfl) ?_ | refine rv0 rfl rfl rfl (y_len_slc Try.underlying52 rfl (by (repeat (first|exact zH _|apply zT));done)) ?_
  refine rv0 rfl rfl rfl (y_assign rfl) ?_
  refine rj_nil ?_
  refine hK2 _ _ _ ?_
  refine cj_env (eL 2 rfl eN) ?_
  refine cj_ret ?_
  refine hret _ _ _ ?_
  apply ej_ret Try.results50 (.cons (rv_tmp rfl) .nil) _ [wB b q v bad, wS v bs] (by (first | exact Hp.le_refl _ | assumption | exact Hp.le_trans ‹_› ‹_›)) rfl
  case hp => exact ⟨rfl, rfl, rfl⟩
  case hS => (repeat (first|exact zR _|(apply zP;focus (repeat (first|exact zH _|apply zT)))|apply zD|exact zA _ _))
theorem bString_t {R : Hp} (b : Nat) (q : Option Addr) (v : Value) (bad : Bool) (bs : List UInt8) (hh : headed v) (h0 : 0 < bs.length) (hl : bs.length ≤ 1000000000) : Tri Try.prog 51 [.pointer (some ⟨b, 0, none⟩)] R [wB b q v bad, wS v bs]
    (fun r R' L' => R = R' ∧ r = .string (str bs) ∧ L' = []) := by
  refine tri_of Try.func51 rfl Try.ntmps51 rfl (fun σ F Q hret hend hpan => ?_)
  try simp only [List.cons_append, List.nil_append]
  refine cj_env (eL 0 rfl eN) ?_
  refine cj_pure (A := wS v bs) (by (repeat (first|exact zH _|apply zT));done) slc_shape (fun hsh => ?_)
  obtain ⟨qq, k, rfl, hk, _, hqq⟩ := hsh
  obtain ⟨bb, off, rfl⟩ := hqq h0
  obtain rfl := hh _ _ _ _ rfl
  refine cj_seq (fun K1 hK1 => ?_)
  refine cj_region ?_
  refine rv0 rfl rfl rfl (y_assign rfl) ?_
  refine rj_nil ?_
  refine hK1 _ _ _ ?_
  refine cj_seq (fun K2 hK2 => ?_)
  refine cj_mix [0, 1, 2, 3, 4, 5, 6, 7, 8, 9] [] [10, 11] (by kernel_rfl) (by kernel_rfl) (by kernel_rfl) rfl ?_
  refine fj_val rfl rfl rfl (wn0 rfl) (fun R1 hR1 G => (y_move rfl)) ?_
  refine fj_val rfl rfl rfl (wn0 rfl) (fun R1 hR1 G => (y_nilCheck rfl)) ?_
  refine fj_val rfl rfl rfl (wn0 rfl) (fun R1 hR1 G => (y_fieldAddr (k := 1) Try.underlying96 rfl (n := 1) (by decide) Try.sizeOf52 rfl)) ?_
  first | refine fj_val rfl rfl rfl (wn0 rfl) (fun R1 hR1 G => (y_load ⟨Try.isAgg52, Try.sizeOf52⟩ rfl (by (repeat (first|exact zH _|apply zT));done) rfl)) ?_ | refine fj_val rfl rfl rfl (wn0 rfl) (fun R1 hR1 G => (y_load_slc ⟨Try.isAgg52, Try.sizeOf52⟩ rfl (by (repeat (first|exact zH _|apply zT));done) rfl)) ?_
  refine fj_val rfl rfl rfl (wn0 rfl) (fun R1 hR1 G => (y_ssd rfl (by omega))) ?_
  refine fj_val rfl rfl rfl (wn0 rfl) (fun R1 hR1 G => (y_move rfl)) ?_
  refine fj_val rfl rfl rfl (wn0 rfl) (fun R1 hR1 G => (y_nilCheck rfl)) ?_
  refine fj_val rfl rfl rfl (wn0 rfl) (fun R1 hR1 G => (y_fieldAddr (k := 1) Try.underlying96 rfl (n := 1) (by decide) Try.sizeOf52 rfl)) ?_
  first | refine fj_val rfl rfl rfl (wn0 rfl) (fun R1 hR1 G => (y_load ⟨Try.isAgg52, Try.sizeOf52⟩ rfl (by (repeat (first|exact zH _|apply zT));done) rfl)) ?_ | refine fj_val rfl rfl rfl (wn0 rfl) (fun R1 hR1 G => (y_load_slc ⟨Try.isAgg52, Try.sizeOf52⟩ rfl (by (repeat (first|exact zH _|apply zT));done) rfl)) ?_
  first | refine fj_val rfl rfl rfl (wn0 rfl) (fun R1 hR1 G => (y_len_sl Try.underlying52 rfl)) ?_ | refine fj_val rfl rfl rfl (wn0 rfl) (fun R1 hR1 G => (y_len_slc Try.underlying52 rfl (by (repeat (first|exact zH _|apply zT));done))) ?_
  refine fj_nil ?_
  refine xj_nil ?_
  try simp only [List.cons_append, List.nil_append, List.append_nil]
  refine rj_unsafeString (wn0 rfl) rfl Try.underlying108 (by kernel_rfl) rfl rfl (by (repeat (first|exact zH _|apply zT));done) h0 (by omega) ?_
  refine rv0 rfl rfl rfl (y_assign rfl) ?_
  refine rj_nil ?_
  refine hK2 _ _ _ ?_
  refine cj_env (eL 2 rfl eN) ?_
  refine cj_ret ?_
  refine hret _ _ _ ?_
  apply ej_ret Try.results51 (.cons (rv_tmp rfl) .nil) _ [] (by (first | exact Hp.le_refl _ | assumption | exact Hp.le_trans ‹_› ‹_›)) rfl
  case hp => exact ⟨rfl, rfl, rfl⟩
  case hS => (repeat (first|exact zR _|(apply zP;focus (repeat (first|exact zH _|apply zT)))|apply zD|exact zA _ _))
end V
end Go.Proofs.Ytcgjlhhfldkdaaa
