/- Lists put together; the package lives. -/
import Derived.Test.YtcgjlhhfldkdaaaT3f
import Derived.Test.YtcgjlhhfldkdaaaR0
set_option linter.unusedSimpArgs false
set_option linter.unusedVariables false
set_option maxRecDepth 100000
namespace Go.Proofs.Ytcgjlhhfldkdaaa
open Go.RowKit
namespace V
set_option maxHeartbeats 4000000
theorem clone_t {R : Hp} (v : Value) (n : Nat) (xs : List Value) (h1 : ∀ u ∈ xs, u.oneCell' = true) (hn : n ≤ 1000000) : Tri Try.prog 47 [v] R [slc 62 4 v n xs]
    (fun r R' L' => R = R' ∧ L' = [slc 62 4 r n xs]) := by
  refine tri_of Try.func47 rfl Try.ntmps47 rfl (fun σ F Q hret hend hpan => ?_)
  try simp only [List.cons_append, List.nil_append]
  refine cj_env (eL 0 rfl eN) ?_
  refine cj_pure (A := slc 62 4 v n xs) (by (repeat (first|exact zH _|apply zT));done) slc_shape (fun hsh => ?_)
  obtain ⟨q, k, rfl, hk, _, hqq⟩ := hsh
  have hq0 : q.isNone = true → n = 0 := fun h => by rcases Nat.eq_zero_or_pos n with h0 | h0; exact h0; obtain ⟨b, off, rfl⟩ := hqq h0; cases h
  refine cj_seq (fun K1 hK1 => ?_)
  refine cj_region ?_
  refine rv0 rfl rfl rfl (y_assign rfl) ?_
  refine rj_nil ?_
  refine hK1 _ _ _ ?_
  refine cj_seq (fun K2 hK2 => ?_)
  refine cj_seq (fun K3 hK3 => ?_)
  refine cj_region ?_
  refine rv0 rfl rfl rfl (y_move rfl) ?_
  refine rv0 rfl rfl rfl (y_sleql Try.underlying60 rfl rfl) ?_
  refine rj_nil ?_
  refine hK3 _ _ _ ?_
  refine cj_cond rfl (fun hc4 => ?_) (fun hc4 => ?_)
  ·have h0 := hq0 hc4
   subst h0
   refine cj_pure (A := slc 62 4 (.slice q 0 k) 0 xs) (by (repeat (first|exact zH _|apply zT));done) slc_len (fun hxl => ?_)
   obtain rfl : xs = [] := by simpa using hxl
   refine cj_add (A := slc 62 4 (.slice none 0 0) 0 []) (slc_nil _ _) ?_
   refine cj_seq (fun K5 hK5 => ?_)
   refine cj_region ?_
   refine rv0 rfl rfl rfl (y_assign rfl) ?_
   refine rj_nil ?_
   refine hK5 _ _ _ ?_
   refine cj_env (eL 2 rfl eN) ?_
   refine cj_ret ?_
   refine hret _ _ _ ?_
   apply ej_ret Try.results47 (.cons (rv_tmp rfl) .nil) _ [slc 62 4 (.slice none 0 0) 0 []] (by (first | exact Hp.le_refl _ | assumption | exact Hp.le_trans ‹_› ‹_›)) rfl
   case hp => exact ⟨rfl, rfl⟩
   case hS => (repeat (first|exact zR _|(apply zP;focus (repeat (first|exact zH _|apply zT)))|apply zD|exact zA _ _))
  ·try simp only [dT, dF, nT, nF, tF, fT] at hc4
   refine cj_skip ?_
   refine hK2 _ _ _ ?_
   refine cj_env (eL 0 rfl eN) ?_
   refine cj_seq (fun K6 hK6 => ?_)
   refine cj_region ?_
   refine rj_buildSlice (sz := 4) (wn0 rfl) rfl Try.underlying60 Try.sizeOf62 Try.zeroValue62 rfl rfl rfl (by decide) (by decide) (fun b5 => ?_)
   refine rv0 rfl rfl rfl (y_move rfl) ?_
   refine rj_append (sz := 4) (by_ := 56) ⟨Try.underlying60, _, _, rfl, rfl, rfl, rfl, rfl⟩ (wn0 rfl) rfl rfl rfl (by (repeat (first|exact zH _|apply zT));done) (src_slc Try.underlying60 (by (repeat (first|exact zH _|apply zT));done) h1) rfl (by (first | omega | (dsimp only; omega) | (simp; done) | (simp; omega))) (by simp only [maxLen]; omega) (fun v7 ho7 hh7 => ?_)
   rw [Nat.zero_add, List.nil_append]
   refine rv0 rfl rfl rfl (y_assign rfl) ?_
   refine rj_nil ?_
   refine hK6 _ _ _ ?_
   refine cj_env (eL 2 rfl eN) ?_
   refine cj_ret ?_
   refine hret _ _ _ ?_
   apply ej_ret Try.results47 (.cons (rv_tmp rfl) .nil) _ [slc 62 4 v7 n xs] (by (first | exact Hp.le_refl _ | assumption | exact Hp.le_trans ‹_› ‹_›)) rfl
   case hp => exact ⟨rfl, rfl⟩
   case hS => (repeat (first|exact zR _|(apply zP;focus (repeat (first|exact zH _|apply zT)))|apply zD|exact zA _ _))
theorem mkL_t {R : Hp} (v : Value) (ks : List Nd) (css : List (List Value)) (hk : Kids R ks css) (hn : ks.length ≤ 1000000) : Tri Try.prog 39 [v] R [slc 62 4 v ks.length css.flatten]
    (fun r R' L' => (∃ cy, r = .agg ⟨cy⟩ ∧ RepN R' (.mk 2 0 [] ks) cy) ∧ L' = []) := by
  have h1 : ∀ u ∈ css.flatten, u.oneCell' = true := fun u hu => by
    obtain ⟨c, hc, hu⟩ := List.mem_flatten.1 hu
    obtain ⟨i, hi, rfl⟩ := List.getElem_of_mem hc
    exact rep_one (hk.2 i (ks[i]'(by rw [← hk.1]; exact hi)) _ (by simp) (by simp [hi])) u hu
  refine tri_of Try.func39 rfl Try.ntmps39 rfl (fun σ F Q hret hend hpan => ?_)
  try simp only [List.cons_append, List.nil_append]
  refine cj_env (eL 0 rfl eN) ?_
  refine cj_seq (fun K1 hK1 => ?_)
  refine cj_region ?_
  refine rj_alloc (wn0 rfl) rfl Try.zeroValue62 rfl (fun b2 => ?_)
  refine rj_nil ?_
  refine hK1 _ _ _ ?_
  refine cj_seq (fun K2 hK2 => ?_)
  refine cj_region ?_
  refine rv0 rfl rfl rfl (y_move rfl) ?_
  refine rj_call (wn0 rfl) rfl Try.call47 rfl (clone_t v ks.length css.flatten h1 hn) (by (repeat (first|exact zN _|(apply zS;focus (repeat (first|exact zH _|apply zT)))))) (fun _ _ _ _ h => h.elim) ?_
  rintro r R' L' hR ⟨rfl, rfl⟩
  refine rj_pure (A := slc 62 4 r ks.length css.flatten) (by (repeat (first|exact zH _|apply zT));done) slc_one (fun hro => ?_)
  refine rj_freeze (e := 62) (sz := 4) (n := ks.length) (v := r) (xs := css.flatten) (by (repeat (first|exact zH _|apply zT));done) (fun R2 hR2 hfr hxl => ?_)
  have hkb : ks.length ≤ big := by unfold big; omega
  obtain ⟨q, cap, rfl, hrl⟩ := (hk.mono hR2).repL hfr hkb
  try simp only [List.cons_append, List.nil_append]
  refine rv0 rfl rfl rfl (y_build (cells := [_, _, _, _]) [(0, 1), (1, 1), (2, 1), (3, 1)] Try.underlying62 Try.zeroValue62 (fun _ => rfl) rfl rfl) ?_
  refine rj_stores ⟨Try.isAgg62, Try.sizeOf62⟩ rfl (wn0 rfl) rfl rfl (by (first | (simp [Value.oneCell']; done) | (intro u hu; simp only [List.mem_cons, List.not_mem_nil, or_false] at hu; rcases hu with rfl | rfl | rfl | rfl <;> first | rfl | assumption))) (by (repeat (first|exact zH _|apply zT));done) (by (simp)) rfl ?_
  refine rj_nil ?_
  refine hK2 _ _ _ ?_
  refine cj_env (eL 2 rfl eN) ?_
  refine cj_ret ?_
  refine hret _ _ _ ?_
  apply ej_ret Try.results39 (.cons (rv_cells ⟨Try.isAgg62, Try.sizeOf62⟩ rfl (by (repeat (first|exact zH _|apply zT));done) rfl rfl) .nil) _ [] (by (first | exact Hp.le_refl _ | assumption | exact Hp.le_trans ‹_› ‹_›)) rfl
  case hp => exact ⟨⟨_, rfl, hrl.node (by simp [big])⟩, rfl⟩
  case hS => (repeat (first|exact zR _|(apply zP;focus (repeat (first|exact zH _|apply zT)))|apply zD|exact zA _ _))
theorem readM_wr {x : Nd} (hok : OkN x) (hr : rightB 20 x = true) (hl : (wr x).length ≤ 16777216) : readM (wr x) = (x, true) :=
  readM_some (by omega) (by have := rd_wr 20 x [] hok hr (by omega); simpa using this)
def aw0 : Nd := .mk 0 258 [] []
def aw1 : Nd := .mk 1 0 [97] []
def aw : Nd := .mk 2 0 [] [aw0, aw1]
theorem aw_ok : OkN aw := .mk (by omega) (fun x hx => by
  simp at hx
  rcases hx with rfl | rfl
  · exact .mk (by omega) (fun _ h => by simp at h)
  · exact .mk (by omega) (fun _ h => by simp at h))
theorem aw_wr : wr aw = [108, 2, 110, 2, 1, 2, 115, 1, 97] := by
  have e : numB 258 = [1, 2] := by rw [numB_pos (by omega), numB_pos (by omega), show 258 / 256 / 256 = 0 by decide, numB_zero]; rfl
  simp [aw, aw0, aw1, wr, wrs, e, sizeB_small]
theorem aw_right : rightB 20 aw = true := by rfl
theorem aw_write : writeM aw = ([108, 2, 110, 2, 1, 2, 115, 1, 97], true) := by
  unfold writeM; rw [if_pos ⟨aw_right, by rw [aw_wr]; decide⟩, aw_wr]
theorem aw_read : readM [108, 2, 110, 2, 1, 2, 115, 1, 97] = (aw, true) := by
  rw [← aw_wr]; exact readM_wr aw_ok aw_right (by rw [aw_wr]; decide)
theorem aw_none : readM [110, 1, 0] = (ndZero, false) := readM_none (fun _ => by kernel_rfl)
theorem aw_kids (R : Hp) : Kids R [aw0, aw1] [[.int .i64 0, .int .u64 258, .string (str []), .slice none 0 0], [.int .i64 1, .int .u64 0, .string (str [97]), .slice none 0 0]] := by
  refine ⟨rfl, fun i x cs h1 h2 => ?_⟩
  match i with
  | 0 => simp at h1 h2; subst h1 h2; exact RepL.node (n := 258) (by simp [big]) (RepL.nil R)
  | 1 => simp at h1 h2; subst h1 h2; exact RepL.node (n := 0) (by simp [big]) (RepL.nil R)
  | n + 2 => simp at h1
end V
end Go.Proofs.Ytcgjlhhfldkdaaa
