/- The laws of layer 7 walked: what they find true. -/
import Derived.Test.YtialiioicbnakaaT7a
import Derived.Test.YtialiioicbnakaaR0
set_option linter.unusedSimpArgs false
set_option linter.unusedVariables false
namespace Go.Proofs.Ytialiioicbnakaa
open Go.RowKit
namespace V
set_option maxHeartbeats 1000000
theorem three {R : Hp} {cs : List Value} {ys : List (List UInt8)} (h : arrR 3 1 strR R cs ys) : ∃ a b c, ys = [a, b, c] ∧ cs = [.string (str a), .string (str b), .string (str c)] := by
  obtain ⟨hc, hb, h⟩ := h
  match cs, hc with
  | [c0, c1, c2], _ =>
    match ys, hb with
    | [a, b, c], _ =>
      have h0 := (h 0 (by simp)).1
      have h1 := (h 1 (by simp)).1
      have h2 := (h 2 (by simp)).1
      simp at h0 h1 h2
      exact ⟨a, b, c, rfl, by rw [h0, h1, h2]⟩
theorem ok_small (b : List UInt8) (s : Nat) (hs : s ≤ b.length) {m : Nat} (h : b.length ≤ m) : (DK.mk b s 0 false false).ok m := ⟨hs, h, by simp, by simp, fun h => by cases h⟩
theorem awake_t {R : Hp} : Tri Try.prog 6 [] R [] (fun v R' L' => R = R' ∧ v = .bool true ∧ L' = []) := by
  refine tri_of Try.func6 rfl Try.ntmps6 rfl (fun σ F Q hret hend hpan => ?_)
  try simp only [List.cons_append, List.nil_append]
  refine cj_env (Env.le_nil _) ?_
  refine cj_seq (fun K1 hK1 => ?_)
  refine cj_region ?_
  refine rj_val (wn0 rfl) rfl rfl (y_assign rfl) ?_
  refine rj_nil ?_
  refine hK1 _ _ _ ?_
  refine cj_seq (fun K2 hK2 => ?_)
  refine cj_region ?_
  refine rj_call (wn0 rfl) rfl Try.call7 rfl (new_t) (by (repeat (first | exact Split.nil _ | (apply Split.cons; focus (repeat (first | exact Find.head _ | apply Find.tail)))))) (fun _ _ _ _ h => h.elim) ?_
  rintro v R' L' hR ⟨rfl, b, u, rfl, rfl⟩
  try simp only [List.cons_append, List.nil_append]
  refine rj_val (wn0 rfl) rfl rfl (y_assign rfl) ?_
  refine rj_nil ?_
  refine hK2 _ _ _ ?_
  refine cj_seq (fun K3 hK3 => ?_)
  refine cj_region ?_
  refine rj_val (wn0 rfl) rfl rfl (y_move rfl) ?_
  refine rj_call (wn0 rfl) rfl Try.call8 rfl (append_t b u DK.new 10 (ok_small [] 0 (Nat.le_refl _) (by decide)) [97, 98] (by decide)) (by (repeat (first | exact Split.nil _ | (apply Split.cons; focus (repeat (first | exact Find.head _ | apply Find.tail)))))) (fun _ _ _ _ h => h.elim) ?_
  rintro v R' L' hR ⟨rfl, rfl, u1, rfl⟩
  rw [show DK.new.append [97, 98] = (0, ⟨[97, 98], 0, 0, false, false⟩) from rfl]
  try simp only [List.cons_append, List.nil_append]
  refine rj_val (wn0 rfl) rfl rfl (y_assign rfl) ?_
  refine rj_nil ?_
  refine hK3 _ _ _ ?_
  refine cj_env (Env.le_cons (t := 1) rfl (Env.le_cons (t := 2) rfl (Env.le_nil _))) ?_
  refine cj_seq (fun K4 hK4 => ?_)
  refine cj_region ?_
  refine rj_val (wn0 rfl) rfl rfl (y_move rfl) ?_
  refine rj_call (wn0 rfl) rfl Try.call9 rfl (sync_t b u1 ⟨[97, 98], 0, 0, false, false⟩ 10 (ok_small _ _ (by decide) (by decide))) (by (repeat (first | exact Split.nil _ | (apply Split.cons; focus (repeat (first | exact Find.head _ | apply Find.tail)))))) (fun _ _ _ _ h => h.elim) ?_
  rintro v R' L' hR ⟨rfl, rfl, u2, rfl⟩
  rw [show DK.sync ⟨[97, 98], 0, 0, false, false⟩ = (0, ⟨[97, 98], 2, 0, false, false⟩) from rfl]
  try simp only [List.cons_append, List.nil_append]
  refine rj_val (wn0 rfl) rfl rfl (y_assign rfl) ?_
  refine rj_nil ?_
  refine hK4 _ _ _ ?_
  refine cj_seq (fun K5 hK5 => ?_)
  refine cj_region ?_
  refine rj_val (wn0 rfl) rfl rfl (y_move rfl) ?_
  refine rj_call (wn0 rfl) rfl Try.call8 rfl (append_t b u2 ⟨[97, 98], 2, 0, false, false⟩ 10 (ok_small _ _ (by decide) (by decide)) [99, 100] (by decide)) (by (repeat (first | exact Split.nil _ | (apply Split.cons; focus (repeat (first | exact Find.head _ | apply Find.tail)))))) (fun _ _ _ _ h => h.elim) ?_
  rintro v R' L' hR ⟨rfl, rfl, u3, rfl⟩
  rw [show DK.append ⟨[97, 98], 2, 0, false, false⟩ [99, 100] = (0, ⟨[97, 98, 99, 100], 2, 0, false, false⟩) from rfl]
  try simp only [List.cons_append, List.nil_append]
  refine rj_val (wn0 rfl) rfl rfl (y_assign rfl) ?_
  refine rj_nil ?_
  refine hK5 _ _ _ ?_
  refine cj_env (Env.le_cons (t := 1) rfl (Env.le_cons (t := 2) rfl (Env.le_cons (t := 3) rfl (Env.le_cons (t := 4) rfl (Env.le_nil _))))) ?_
  refine cj_seq (fun K6 hK6 => ?_)
  refine cj_region ?_
  refine rj_val (wn0 rfl) rfl rfl (y_move rfl) ?_
  refine rj_call (wn0 rfl) rfl Try.call10 rfl (crash_t b u3 ⟨[97, 98, 99, 100], 2, 0, false, false⟩ 10 (ok_small _ _ (by decide) (by decide)) (by decide) 1) (by (repeat (first | exact Split.nil _ | (apply Split.cons; focus (repeat (first | exact Find.head _ | apply Find.tail)))))) (fun _ _ _ _ h => h.elim) ?_
  rintro v R' L' hR ⟨rfl, u4, rfl⟩
  rw [show DK.crash ⟨[97, 98, 99, 100], 2, 0, false, false⟩ 1 = ⟨[97, 98, 99], 3, 0, false, false⟩ from rfl]
  try simp only [List.cons_append, List.nil_append]
  refine rj_nil ?_
  refine hK6 _ _ _ ?_
  refine cj_seq (fun K7 hK7 => ?_)
  refine cj_region ?_
  refine rj_val (wn0 rfl) rfl rfl (y_move rfl) ?_
  refine rj_call (wn0 rfl) rfl Try.call11 rfl ((read_q b u4 ⟨[97, 98, 99], 3, 0, false, false⟩).tri) (by (repeat (first | exact Split.nil _ | (apply Split.cons; focus (repeat (first | exact Find.head _ | apply Find.tail)))))) (fun _ _ _ _ h => h.elim) ?_
  rintro v R' L' hR ⟨rfl, rfl, rfl⟩
  try simp only [List.cons_append, List.nil_append]
  refine rj_val (wn0 rfl) rfl rfl (y_move rfl) ?_
  refine rj_val (wn0 rfl) rfl rfl (y_extract rfl rfl) ?_
  refine rj_val (wn0 rfl) rfl rfl (y_extract rfl rfl) ?_
  refine rj_val (wn0 rfl) rfl rfl (y_assign rfl) ?_
  refine rj_val (wn0 rfl) rfl rfl (y_assign rfl) ?_
  refine rj_nil ?_
  refine hK7 _ _ _ ?_
  refine cj_env (Env.le_cons (t := 1) rfl (Env.le_cons (t := 2) rfl (Env.le_cons (t := 3) rfl (Env.le_cons (t := 4) rfl (Env.le_cons (t := 5) rfl (Env.le_cons (t := 6) rfl (Env.le_nil _))))))) ?_
  refine cj_seq (fun K8 hK8 => ?_)
  refine cj_region ?_
  refine rj_val (wn0 rfl) rfl rfl (y_move rfl) ?_
  refine rj_val (wn0 rfl) rfl rfl (y_eql rfl rfl) ?_
  refine rj_val (wn0 rfl) rfl rfl (y_move rfl) ?_
  refine rj_val (wn1 rfl rfl rfl rfl) rfl rfl (y_move rfl) ?_
  refine rj_val (wn1 rfl rfl rfl rfl) rfl rfl (y_eql rfl rfl) ?_
  refine rj_val (wn0 rfl) rfl rfl (y_pick_t rfl rfl) ?_
  refine rj_val (wn0 rfl) rfl rfl (y_move rfl) ?_
  refine rj_val (wn1 rfl rfl rfl rfl) rfl rfl (y_move rfl) ?_
  refine rj_val (wn1 rfl rfl rfl rfl) rfl rfl (y_eql rfl rfl) ?_
  refine rj_val (wn0 rfl) rfl rfl (y_pick_t rfl rfl) ?_
  refine rj_val (wn0 rfl) rfl rfl (y_move rfl) ?_
  refine rj_val (wn1 rfl rfl rfl rfl) rfl rfl (y_move rfl) ?_
  refine rj_val (wn1 rfl rfl rfl rfl) rfl rfl (y_eql rfl rfl) ?_
  refine rj_val (wn0 rfl) rfl rfl (y_pick_t rfl rfl) ?_
  refine rj_val (wn0 rfl) rfl rfl (y_move rfl) ?_
  refine rj_val (wn1 rfl rfl rfl rfl) rfl rfl (y_move rfl) ?_
  refine rj_val (wn1 rfl rfl rfl rfl) rfl rfl (y_seql rfl rfl) ?_
  refine rj_val (wn0 rfl) rfl rfl (y_pick_t rfl rfl) ?_
  refine rj_val (wn0 rfl) rfl rfl (y_move rfl) ?_
  refine rj_val (wn1 rfl rfl rfl rfl) rfl rfl (y_move rfl) ?_
  refine rj_val (wn1 rfl rfl rfl rfl) rfl rfl (y_call Try.call12 rfl (waits_q b u4 ⟨[97, 98, 99], 3, 0, false, false⟩ (by decide)) (by (repeat (first | exact Split.nil _ | (apply Split.cons; focus (repeat (first | exact Find.head _ | apply Find.tail))))))) ?_
  refine rj_val (wn1 rfl rfl rfl rfl) rfl rfl (y_eql rfl rfl) ?_
  refine rj_val (wn0 rfl) rfl rfl (y_pick_t rfl rfl) ?_
  refine rj_val (wn0 rfl) rfl rfl (y_assign rfl) ?_
  refine rj_nil ?_
  refine hK8 _ _ _ ?_
  refine cj_env (Env.le_cons (t := 0) rfl (Env.le_nil _)) ?_
  refine cj_ret ?_
  refine hret _ _ _ ?_
  apply ej_ret Try.results6 (.cons (rv_tmp rfl) .nil) _ [] (Hp.le_refl _) rfl
  case hp => exact ⟨rfl, rfl, rfl⟩
  case hS => (repeat (first | exact Sub.refl _ | (apply Sub.pick; focus (repeat (first | exact Find.head _ | apply Find.tail))) | apply Sub.drop))
theorem sure_t {R : Hp} (cs : List Value) (ys : List (List UInt8)) (ha : arrR 3 1 strR R cs ys) (n : Int) (hn : IntKind.i64.min ≤ n ∧ n ≤ IntKind.i64.max) :
    Tri Try.prog 3 [.agg ⟨cs⟩, .int .i64 n] R [] (fun v _ _ => v = .bool true) := by
  have hn2 : -9223372036854775808 ≤ n ∧ n ≤ 9223372036854775807 := hn
  obtain ⟨a, b, c, rfl, rfl⟩ := three ha
  refine tri_of Try.func3 rfl Try.ntmps3 rfl (fun σ F Q hret hend hpan => ?_)
  try simp only [List.cons_append, List.nil_append]
  refine cj_env (Env.le_cons (t := 0) rfl (Env.le_cons (t := 1) rfl (Env.le_nil _))) ?_
  refine cj_seq (fun K1 hK1 => ?_)
  refine cj_region ?_
  refine rj_box (wn0 rfl) rfl rfl rfl (fun b2 => ?_)
  refine rj_val (wn0 rfl) rfl rfl (y_assign rfl) ?_
  refine rj_nil ?_
  refine hK1 _ _ _ ?_
  refine cj_seq (fun K2 hK2 => ?_)
  refine cj_draw (by kernel_rfl) (by kernel_rfl) ?_
  refine qj_val (wn0 rfl) rfl rfl (y_indexAddr_arr Try.underlying22 Try.sizeOf9 rfl rfl (by (first | omega | (dsimp only; omega)))) ?_
  first | refine qj_val (wn0 rfl) rfl rfl (y_load ⟨Try.isAgg9, Try.sizeOf9⟩ rfl (by ((repeat (first | exact Find.head _ | apply Find.tail)); done)) rfl) ?_ | refine qj_val (wn0 rfl) rfl rfl (y_load_slc ⟨Try.isAgg9, Try.sizeOf9⟩ rfl (by ((repeat (first | exact Find.head _ | apply Find.tail)); done)) rfl) ?_
  refine qj_val (wn0 rfl) rfl rfl (y_indexAddr_arr Try.underlying22 Try.sizeOf9 rfl rfl (by (first | omega | (dsimp only; omega)))) ?_
  first | refine qj_val (wn0 rfl) rfl rfl (y_load ⟨Try.isAgg9, Try.sizeOf9⟩ rfl (by ((repeat (first | exact Find.head _ | apply Find.tail)); done)) rfl) ?_ | refine qj_val (wn0 rfl) rfl rfl (y_load_slc ⟨Try.isAgg9, Try.sizeOf9⟩ rfl (by ((repeat (first | exact Find.head _ | apply Find.tail)); done)) rfl) ?_
  refine qj_val (wn0 rfl) rfl rfl (y_indexAddr_arr Try.underlying22 Try.sizeOf9 rfl rfl (by (first | omega | (dsimp only; omega)))) ?_
  first | refine qj_val (wn0 rfl) rfl rfl (y_load ⟨Try.isAgg9, Try.sizeOf9⟩ rfl (by ((repeat (first | exact Find.head _ | apply Find.tail)); done)) rfl) ?_ | refine qj_val (wn0 rfl) rfl rfl (y_load_slc ⟨Try.isAgg9, Try.sizeOf9⟩ rfl (by ((repeat (first | exact Find.head _ | apply Find.tail)); done)) rfl) ?_
  refine qj_val (wn0 rfl) rfl rfl (y_assign rfl) ?_
  refine qj_val (wn0 rfl) rfl rfl (y_assign rfl) ?_
  refine qj_val (wn0 rfl) rfl rfl (y_assign rfl) ?_
  refine qj_nil ?_
  refine hK2 _ _ _ ?_
  refine cj_env (Env.le_cons (t := 1) rfl (Env.le_cons (t := 5) rfl (Env.le_cons (t := 6) rfl (Env.le_cons (t := 7) rfl (Env.le_nil _))))) ?_
  refine cj_seq (fun K3 hK3 => ?_)
  refine cj_seq (fun K4 hK4 => ?_)
  refine cj_region ?_
  refine rj_call (wn0 rfl) rfl Try.call6 rfl (awake_t) (by (repeat (first | exact Split.nil _ | (apply Split.cons; focus (repeat (first | exact Find.head _ | apply Find.tail)))))) (fun _ _ _ _ h => h.elim) ?_
  rintro v R' L' hR ⟨rfl, rfl, rfl⟩
  try simp only [List.cons_append, List.nil_append]
  refine rj_val (wn0 rfl) rfl rfl (y_not rfl) ?_
  refine rj_nil ?_
  refine hK4 _ _ _ ?_
  refine cj_cond_f rfl ?_
  refine cj_skip ?_
  refine hK3 _ _ _ ?_
  refine cj_seq (fun K5 hK5 => ?_)
  refine cj_seq (fun K6 hK6 => ?_)
  refine cj_region ?_
  refine rj_val (wn0 rfl) rfl rfl (y_move rfl) ?_
  refine rj_val (wn0 rfl) rfl rfl (y_slen Try.underlying9 rfl) ?_
  refine rj_val (wn0 rfl) rfl rfl (y_gtr rfl rfl) ?_
  refine rj_val (wn0 rfl) rfl rfl (y_move rfl) ?_
  refine rj_part 23 rfl (fun hg23 => ?_) (fun hg23 => ?_)
  · try simp only [decide_eq_true_eq, decide_eq_false_iff_not, Bool.not_eq_true', Bool.not_eq_false', Bool.true_eq_false, Bool.false_eq_true] at hg23
    refine rj_skip (wn2 rfl rfl rfl rfl rfl) rfl rfl ?_
    refine rj_skip (wn2 rfl rfl rfl rfl rfl) rfl rfl ?_
    refine rj_skip (wn2 rfl rfl rfl rfl rfl) rfl rfl ?_
    refine rj_val (wn0 rfl) rfl rfl (y_pick_t rfl rfl) ?_
    refine rj_val (wn0 rfl) rfl rfl (y_move rfl) ?_
    refine rj_skip (wn2 rfl rfl rfl rfl rfl) rfl rfl ?_
    refine rj_skip (wn2 rfl rfl rfl rfl rfl) rfl rfl ?_
    refine rj_skip (wn2 rfl rfl rfl rfl rfl) rfl rfl ?_
    refine rj_val (wn0 rfl) rfl rfl (y_pick_t rfl rfl) ?_
    refine rj_nil ?_
    refine hK6 _ _ _ ?_
    refine cj_env (Env.le_cons (t := 1) rfl (Env.le_cons (t := 5) rfl (Env.le_cons (t := 6) rfl (Env.le_cons (t := 7) rfl (Env.le_cons (t := 32) rfl (Env.le_nil _)))))) ?_
    refine cj_cond_t rfl ?_
    refine cj_seq (fun K7 hK7 => ?_)
    refine cj_region ?_
    refine rj_val (wn0 rfl) rfl rfl (y_assign rfl) ?_
    refine rj_nil ?_
    refine hK7 _ _ _ ?_
    refine cj_env (Env.le_cons (t := 4) rfl (Env.le_nil _)) ?_
    refine cj_ret ?_
    refine hret _ _ _ ?_
    apply ej_ret Try.results3 (.cons (rv_tmp rfl) .nil) _ [] (Hp.le_refl _) rfl
    case hp => rfl
    case hS => (repeat (first | exact Sub.refl _ | (apply Sub.pick; focus (repeat (first | exact Find.head _ | apply Find.tail))) | apply Sub.drop))
  · try simp only [decide_eq_true_eq, decide_eq_false_iff_not, Bool.not_eq_true', Bool.not_eq_false', Bool.true_eq_false, Bool.false_eq_true] at hg23
    refine rj_val (wn1 rfl rfl rfl rfl) rfl rfl (y_move rfl) ?_
    refine rj_val (wn1 rfl rfl rfl rfl) rfl rfl (y_slen Try.underlying9 rfl) ?_
    refine rj_val (wn1 rfl rfl rfl rfl) rfl rfl (y_gtr rfl rfl) ?_
    refine rj_val (wn0 rfl) rfl rfl (y_pick_f rfl rfl) ?_
    refine rj_val (wn0 rfl) rfl rfl (y_move rfl) ?_
    refine rj_part 28 rfl (fun hg28 => ?_) (fun hg28 => ?_)
    · try simp only [decide_eq_true_eq, decide_eq_false_iff_not, Bool.not_eq_true', Bool.not_eq_false', Bool.true_eq_false, Bool.false_eq_true] at hg28
      refine rj_skip (wn2 rfl rfl rfl rfl rfl) rfl rfl ?_
      refine rj_skip (wn2 rfl rfl rfl rfl rfl) rfl rfl ?_
      refine rj_skip (wn2 rfl rfl rfl rfl rfl) rfl rfl ?_
      refine rj_val (wn0 rfl) rfl rfl (y_pick_t rfl rfl) ?_
      refine rj_nil ?_
      refine hK6 _ _ _ ?_
      refine cj_env (Env.le_cons (t := 1) rfl (Env.le_cons (t := 5) rfl (Env.le_cons (t := 6) rfl (Env.le_cons (t := 7) rfl (Env.le_cons (t := 32) rfl (Env.le_nil _)))))) ?_
      refine cj_cond_t rfl ?_
      refine cj_seq (fun K8 hK8 => ?_)
      refine cj_region ?_
      refine rj_val (wn0 rfl) rfl rfl (y_assign rfl) ?_
      refine rj_nil ?_
      refine hK8 _ _ _ ?_
      refine cj_env (Env.le_cons (t := 4) rfl (Env.le_nil _)) ?_
      refine cj_ret ?_
      refine hret _ _ _ ?_
      apply ej_ret Try.results3 (.cons (rv_tmp rfl) .nil) _ [] (Hp.le_refl _) rfl
      case hp => rfl
      case hS => (repeat (first | exact Sub.refl _ | (apply Sub.pick; focus (repeat (first | exact Find.head _ | apply Find.tail))) | apply Sub.drop))
    · try simp only [decide_eq_true_eq, decide_eq_false_iff_not, Bool.not_eq_true', Bool.not_eq_false', Bool.true_eq_false, Bool.false_eq_true] at hg28
      refine rj_val (wn1 rfl rfl rfl rfl) rfl rfl (y_move rfl) ?_
      refine rj_val (wn1 rfl rfl rfl rfl) rfl rfl (y_slen Try.underlying9 rfl) ?_
      refine rj_val (wn1 rfl rfl rfl rfl) rfl rfl (y_gtr rfl rfl) ?_
      refine rj_val (wn0 rfl) rfl rfl (y_pick_f rfl rfl) ?_
      refine rj_nil ?_
      refine hK6 _ _ _ ?_
      refine cj_env (Env.le_cons (t := 1) rfl (Env.le_cons (t := 5) rfl (Env.le_cons (t := 6) rfl (Env.le_cons (t := 7) rfl (Env.le_cons (t := 32) rfl (Env.le_nil _)))))) ?_
      refine cj_cond rfl (fun hc32 => ?_) (fun hc32 => ?_)
      · try simp only [decide_eq_true_eq, decide_eq_false_iff_not, Bool.not_eq_true', Bool.not_eq_false', Bool.true_eq_false, Bool.false_eq_true] at hc32
        refine cj_seq (fun K10 hK10 => ?_)
        refine cj_region ?_
        refine rj_val (wn0 rfl) rfl rfl (y_assign rfl) ?_
        refine rj_nil ?_
        refine hK10 _ _ _ ?_
        refine cj_env (Env.le_cons (t := 4) rfl (Env.le_nil _)) ?_
        refine cj_ret ?_
        refine hret _ _ _ ?_
        apply ej_ret Try.results3 (.cons (rv_tmp rfl) .nil) _ [] (Hp.le_refl _) rfl
        case hp => rfl
        case hS => (repeat (first | exact Sub.refl _ | (apply Sub.pick; focus (repeat (first | exact Find.head _ | apply Find.tail))) | apply Sub.drop))
      · try simp only [decide_eq_true_eq, decide_eq_false_iff_not, Bool.not_eq_true', Bool.not_eq_false', Bool.true_eq_false, Bool.false_eq_true] at hc32; obtain ⟨hla, hlb, hlc⟩ : a.length ≤ 200 ∧ b.length ≤ 200 ∧ c.length ≤ 200 := by simp at hc32; omega
        refine cj_skip ?_
        refine hK5 _ _ _ ?_
        refine cj_seq (fun K11 hK11 => ?_)
        refine cj_region ?_
        refine rj_call (wn0 rfl) rfl Try.call7 rfl (new_t) (by (repeat (first | exact Split.nil _ | (apply Split.cons; focus (repeat (first | exact Find.head _ | apply Find.tail)))))) (fun _ _ _ _ h => h.elim) ?_
        rintro v R' L' hR ⟨rfl, bd, u, rfl, rfl⟩
        try simp only [List.cons_append, List.nil_append]
        refine rj_val (wn0 rfl) rfl rfl (y_assign rfl) ?_
        refine rj_nil ?_
        refine hK11 _ _ _ ?_
        refine cj_seq (fun K12 hK12 => ?_)
        refine cj_seq (fun K13 hK13 => ?_)
        refine cj_region ?_
        refine rj_val (wn0 rfl) rfl rfl (y_move rfl) ?_
        refine rj_val (wn0 rfl) rfl rfl (y_move rfl) ?_
        refine rj_call (wn0 rfl) rfl Try.call8 rfl (append_t bd u DK.new 1000 (ok_small [] 0 (Nat.le_refl _) (by decide)) a (by omega)) (by (repeat (first | exact Split.nil _ | (apply Split.cons; focus (repeat (first | exact Find.head _ | apply Find.tail)))))) (fun _ _ _ _ h => h.elim) ?_
        rintro v R' L' hR ⟨rfl, rfl, u1, rfl⟩
        rw [show DK.new.append a = (0, ⟨a, 0, 0, false, false⟩) from rfl]
        try simp only [List.cons_append, List.nil_append]
        refine rj_val (wn0 rfl) rfl rfl (y_neq rfl rfl) ?_
        refine rj_val (wn0 rfl) rfl rfl (y_move rfl) ?_
        refine rj_val (wn1 rfl rfl rfl rfl) rfl rfl (y_move rfl) ?_
        refine rj_call (wn1 rfl rfl rfl rfl) rfl Try.call9 rfl (sync_t bd u1 ⟨a, 0, 0, false, false⟩ 1000 (ok_small _ _ (by simp) (by omega))) (by (repeat (first | exact Split.nil _ | (apply Split.cons; focus (repeat (first | exact Find.head _ | apply Find.tail)))))) (fun _ _ _ _ h => h.elim) ?_
        rintro v R' L' hR ⟨rfl, rfl, u2, rfl⟩
        rw [show DK.sync ⟨a, 0, 0, false, false⟩ = (0, ⟨a, a.length, 0, false, false⟩) from rfl]
        try simp only [List.cons_append, List.nil_append]
        refine rj_val (wn1 rfl rfl rfl rfl) rfl rfl (y_neq rfl rfl) ?_
        refine rj_val (wn0 rfl) rfl rfl (y_pick_f rfl rfl) ?_
        refine rj_val (wn0 rfl) rfl rfl (y_move rfl) ?_
        refine rj_val (wn1 rfl rfl rfl rfl) rfl rfl (y_move rfl) ?_
        refine rj_val (wn1 rfl rfl rfl rfl) rfl rfl (y_move rfl) ?_
        refine rj_call (wn1 rfl rfl rfl rfl) rfl Try.call8 rfl (append_t bd u2 ⟨a, a.length, 0, false, false⟩ 1000 (ok_small _ _ (by simp) (by omega)) b (by omega)) (by (repeat (first | exact Split.nil _ | (apply Split.cons; focus (repeat (first | exact Find.head _ | apply Find.tail)))))) (fun _ _ _ _ h => h.elim) ?_
        rintro v R' L' hR ⟨rfl, rfl, u3, rfl⟩
        rw [show DK.append ⟨a, a.length, 0, false, false⟩ b = (0, ⟨a ++ b, a.length, 0, false, false⟩) from rfl]
        try simp only [List.cons_append, List.nil_append]
        refine rj_val (wn1 rfl rfl rfl rfl) rfl rfl (y_neq rfl rfl) ?_
        refine rj_val (wn0 rfl) rfl rfl (y_pick_f rfl rfl) ?_
        refine rj_val (wn0 rfl) rfl rfl (y_move rfl) ?_
        refine rj_val (wn1 rfl rfl rfl rfl) rfl rfl (y_move rfl) ?_
        refine rj_val (wn1 rfl rfl rfl rfl) rfl rfl (y_move rfl) ?_
        refine rj_call (wn1 rfl rfl rfl rfl) rfl Try.call8 rfl (append_t bd u3 ⟨a ++ b, a.length, 0, false, false⟩ 1000 (ok_small _ _ (by simp) (by simp <;> omega)) c (by omega)) (by (repeat (first | exact Split.nil _ | (apply Split.cons; focus (repeat (first | exact Find.head _ | apply Find.tail)))))) (fun _ _ _ _ h => h.elim) ?_
        rintro v R' L' hR ⟨rfl, rfl, u4, rfl⟩
        rw [show DK.append ⟨a ++ b, a.length, 0, false, false⟩ c = (0, ⟨a ++ b ++ c, a.length, 0, false, false⟩) from rfl]
        try simp only [List.cons_append, List.nil_append]
        refine rj_val (wn1 rfl rfl rfl rfl) rfl rfl (y_neq rfl rfl) ?_
        refine rj_val (wn0 rfl) rfl rfl (y_pick_f rfl rfl) ?_
        refine rj_nil ?_
        refine hK13 _ _ _ ?_
        refine cj_env (Env.le_cons (t := 1) rfl (Env.le_cons (t := 5) rfl (Env.le_cons (t := 6) rfl (Env.le_cons (t := 7) rfl (Env.le_cons (t := 8) rfl (Env.le_cons (t := 54) rfl (Env.le_nil _))))))) ?_
        refine cj_cond_f rfl ?_
        refine cj_skip ?_
        refine hK12 _ _ _ ?_
        refine cj_seq (fun K14 hK14 => ?_)
        refine cj_region ?_
        refine rj_val (wn0 rfl) rfl rfl (y_move rfl) ?_
        refine rj_val (wn0 rfl) rfl rfl (y_move rfl) ?_
        refine rj_call (wn0 rfl) rfl Try.call10 rfl (crash_t bd u4 ⟨a ++ b ++ c, a.length, 0, false, false⟩ 1000 (ok_small _ _ (by simp <;> omega) (by simp <;> omega)) (by decide) n) (by (repeat (first | exact Split.nil _ | (apply Split.cons; focus (repeat (first | exact Find.head _ | apply Find.tail)))))) (fun _ _ _ _ h => h.elim) ?_
        rintro v R' L' hR ⟨rfl, u5, rfl⟩
        obtain ⟨K, hK⟩ : ∃ K, K = DK.keeps ⟨a ++ b ++ c, a.length, 0, false, false⟩ n := ⟨_, rfl⟩
        rw [show DK.crash ⟨a ++ b ++ c, a.length, 0, false, false⟩ n = ⟨(a ++ b ++ c).take K, K, 0, false, false⟩ by rw [hK]; rfl]
        have hK2 : K = a.length + min n.toNat (b.length + c.length) := by rw [hK]; unfold DK.keeps; simp <;> omega
        have hall : (a ++ b ++ c).length = a.length + b.length + c.length := by simp; omega
        obtain ⟨got, hgot⟩ : ∃ got, got = (a ++ b ++ c).take K := ⟨_, rfl⟩
        have hgl : got.length = K := by rw [hgot, List.length_take]; omega
        have hg3 : got = (a ++ b ++ c).take got.length := by rw [hgl]; exact hgot
        have hg4 : ¬ n > 0 → got = a := fun h => by rw [hgot, hK2, show min n.toNat (b.length + c.length) = 0 by omega]; simp [List.append_assoc]
        have hg5 : ¬ n < (b.length : Int) + c.length → got = a ++ b ++ c := fun h => by rw [hgot, hK2]; exact List.take_of_length_le (by omega)
        rw [← hgot]
        try simp only [List.cons_append, List.nil_append]
        refine rj_nil ?_
        refine hK14 _ _ _ ?_
        refine cj_env (Env.le_cons (t := 1) rfl (Env.le_cons (t := 5) rfl (Env.le_cons (t := 6) rfl (Env.le_cons (t := 7) rfl (Env.le_cons (t := 8) rfl (Env.le_nil _)))))) ?_
        refine cj_seq (fun K15 hK15 => ?_)
        refine cj_region ?_
        refine rj_val (wn0 rfl) rfl rfl (y_move rfl) ?_
        refine rj_val (wn0 rfl) rfl rfl (y_call Try.call11 rfl (read_q bd u5 ⟨got, K, 0, false, false⟩) (by (repeat (first | exact Split.nil _ | (apply Split.cons; focus (repeat (first | exact Find.head _ | apply Find.tail))))))) ?_
        refine rj_val (wn0 rfl) rfl rfl (y_move rfl) ?_
        refine rj_val (wn0 rfl) rfl rfl (y_extract rfl rfl) ?_
        refine rj_val (wn0 rfl) rfl rfl (y_extract rfl rfl) ?_
        refine rj_val (wn0 rfl) rfl rfl (y_assign rfl) ?_
        refine rj_val (wn0 rfl) rfl rfl (y_assign rfl) ?_
        refine rj_nil ?_
        refine hK15 _ _ _ ?_
        refine cj_env (Env.le_cons (t := 1) rfl (Env.le_cons (t := 5) rfl (Env.le_cons (t := 6) rfl (Env.le_cons (t := 7) rfl (Env.le_cons (t := 9) rfl (Env.le_cons (t := 10) rfl (Env.le_nil _))))))) ?_
        refine cj_seq (fun K16 hK16 => ?_)
        refine cj_region ?_
        have hs1 : a.length + b.length ≤ 400 := by omega
        have hs2 : (a ++ b).length + c.length ≤ 600 := by simp; omega
        refine rj_val (wn0 rfl) rfl rfl (y_move rfl) ?_
        refine rj_val (wn0 rfl) rfl rfl (y_move rfl) ?_
        refine rj_val (wn0 rfl) rfl rfl (y_sadd rfl rfl (by (first | omega | (dsimp only; omega)))) ?_
        refine rj_val (wn0 rfl) rfl rfl (y_move rfl) ?_
        refine rj_val (wn0 rfl) rfl rfl (y_sadd rfl rfl (by (first | omega | (dsimp only; omega)))) ?_
        refine rj_val (wn0 rfl) rfl rfl (y_assign rfl) ?_
        refine rj_nil ?_
        refine hK16 _ _ _ ?_
        refine cj_env (Env.le_cons (t := 1) rfl (Env.le_cons (t := 5) rfl (Env.le_cons (t := 6) rfl (Env.le_cons (t := 7) rfl (Env.le_cons (t := 9) rfl (Env.le_cons (t := 10) rfl (Env.le_cons (t := 11) rfl (Env.le_nil _)))))))) ?_
        refine cj_seq (fun K17 hK17 => ?_)
        refine cj_region ?_
        refine rj_val (wn0 rfl) rfl rfl (y_move rfl) ?_
        refine rj_val (wn0 rfl) rfl rfl (y_eql rfl rfl) ?_
        refine rj_val (wn0 rfl) rfl rfl (y_move rfl) ?_
        refine rj_val (wn1 rfl rfl rfl rfl) rfl rfl (y_move rfl) ?_
        refine rj_val (wn1 rfl rfl rfl rfl) rfl rfl (y_slen Try.underlying9 rfl) ?_
        refine rj_val (wn1 rfl rfl rfl rfl) rfl rfl (y_move rfl) ?_
        refine rj_val (wn1 rfl rfl rfl rfl) rfl rfl (y_slen Try.underlying9 rfl) ?_
        refine rj_val (wn1 rfl rfl rfl rfl) rfl rfl (y_geq rfl rfl) ?_
        refine rj_eq 75 rfl (v' := .bool true) (by simp <;> omega) ?_
        refine rj_val (wn0 rfl) rfl rfl (y_pick_t rfl rfl) ?_
        refine rj_val (wn0 rfl) rfl rfl (y_move rfl) ?_
        refine rj_val (wn1 rfl rfl rfl rfl) rfl rfl (y_move rfl) ?_
        refine rj_val (wn1 rfl rfl rfl rfl) rfl rfl (y_slen Try.underlying9 rfl) ?_
        refine rj_val (wn1 rfl rfl rfl rfl) rfl rfl (y_move rfl) ?_
        refine rj_val (wn1 rfl rfl rfl rfl) rfl rfl (y_slen Try.underlying9 rfl) ?_
        refine rj_val (wn1 rfl rfl rfl rfl) rfl rfl (y_leq rfl rfl) ?_
        refine rj_eq 82 rfl (v' := .bool true) (by simp at hall ⊢; omega) ?_
        refine rj_val (wn0 rfl) rfl rfl (y_pick_t rfl rfl) ?_
        refine rj_val (wn0 rfl) rfl rfl (y_move rfl) ?_
        refine rj_val (wn1 rfl rfl rfl rfl) rfl rfl (y_move rfl) ?_
        refine rj_val (wn1 rfl rfl rfl rfl) rfl rfl (y_move rfl) ?_
        refine rj_val (wn1 rfl rfl rfl rfl) rfl rfl (y_move rfl) ?_
        refine rj_val (wn1 rfl rfl rfl rfl) rfl rfl (y_slen Try.underlying9 rfl) ?_
        refine rj_val (wn1 rfl rfl rfl rfl) rfl rfl (y_slice_s_hi Try.underlying9 rfl rfl (by simp at hall ⊢; omega)) ?_
        refine rj_val (wn1 rfl rfl rfl rfl) rfl rfl (y_seql rfl rfl) ?_
        refine rj_eq 90 rfl (v' := .bool true) (by simpa using hg3) ?_
        refine rj_val (wn0 rfl) rfl rfl (y_pick_t rfl rfl) ?_
        refine rj_val (wn0 rfl) rfl rfl (y_move rfl) ?_
        refine rj_val (wn1 rfl rfl rfl rfl) rfl rfl (y_move rfl) ?_
        refine rj_val (wn1 rfl rfl rfl rfl) rfl rfl (y_gtr rfl rfl) ?_
        refine rj_val (wn1 rfl rfl rfl rfl) rfl rfl (y_move rfl) ?_
        refine rj_part 95 rfl (fun hg95 => ?_) (fun hg95 => ?_)
        · try simp only [decide_eq_true_eq, decide_eq_false_iff_not, Bool.not_eq_true', Bool.not_eq_false', Bool.true_eq_false, Bool.false_eq_true] at hg95
          refine rj_skip (wn2 rfl rfl rfl rfl rfl) rfl rfl ?_
          refine rj_skip (wn2 rfl rfl rfl rfl rfl) rfl rfl ?_
          refine rj_skip (wn2 rfl rfl rfl rfl rfl) rfl rfl ?_
          refine rj_val (wn1 rfl rfl rfl rfl) rfl rfl (y_pick_t rfl rfl) ?_
          refine rj_eq 99 rfl (v' := .bool true) (by first | rfl | (simp; exact hga)) ?_
          refine rj_val (wn0 rfl) rfl rfl (y_pick_t rfl rfl) ?_
          refine rj_val (wn0 rfl) rfl rfl (y_move rfl) ?_
          refine rj_val (wn1 rfl rfl rfl rfl) rfl rfl (y_move rfl) ?_
          refine rj_val (wn1 rfl rfl rfl rfl) rfl rfl (y_move rfl) ?_
          refine rj_val (wn1 rfl rfl rfl rfl) rfl rfl (y_slen Try.underlying9 rfl) ?_
          refine rj_val (wn1 rfl rfl rfl rfl) rfl rfl (y_move rfl) ?_
          refine rj_val (wn1 rfl rfl rfl rfl) rfl rfl (y_slen Try.underlying9 rfl) ?_
          first | refine rj_val (wn1 rfl rfl rfl rfl) rfl rfl (y_add64 rfl rfl (by (first | omega | (dsimp only; omega)))) ?_ | refine rj_val (wn1 rfl rfl rfl rfl) rfl rfl (y_add rfl rfl) ?_
          refine rj_val (wn1 rfl rfl rfl rfl) rfl rfl (y_lss rfl rfl) ?_
          refine rj_val (wn1 rfl rfl rfl rfl) rfl rfl (y_move rfl) ?_
          refine rj_part 109 rfl (fun hg109 => ?_) (fun hg109 => ?_)
          · try simp only [decide_eq_true_eq, decide_eq_false_iff_not, Bool.not_eq_true', Bool.not_eq_false', Bool.true_eq_false, Bool.false_eq_true] at hg109
            refine rj_skip (wn2 rfl rfl rfl rfl rfl) rfl rfl ?_
            refine rj_skip (wn2 rfl rfl rfl rfl rfl) rfl rfl ?_
            refine rj_skip (wn2 rfl rfl rfl rfl rfl) rfl rfl ?_
            refine rj_val (wn1 rfl rfl rfl rfl) rfl rfl (y_pick_t rfl rfl) ?_
            refine rj_eq 113 rfl (v' := .bool true) (by first | rfl | (simp; simpa using hgb)) ?_
            refine rj_val (wn0 rfl) rfl rfl (y_pick_t rfl rfl) ?_
            refine rj_val (wn0 rfl) rfl rfl (y_assign rfl) ?_
            refine rj_nil ?_
            refine hK17 _ _ _ ?_
            refine cj_env (Env.le_cons (t := 4) rfl (Env.le_nil _)) ?_
            refine cj_ret ?_
            refine hret _ _ _ ?_
            apply ej_ret Try.results3 (.cons (rv_tmp rfl) .nil) _ [] (Hp.le_refl _) rfl
            case hp => rfl
            case hS => (repeat (first | exact Sub.refl _ | (apply Sub.pick; focus (repeat (first | exact Find.head _ | apply Find.tail))) | apply Sub.drop))
          · try simp only [decide_eq_true_eq, decide_eq_false_iff_not, Bool.not_eq_true', Bool.not_eq_false', Bool.true_eq_false, Bool.false_eq_true] at hg109; have hgb := hg5 hg109
            refine rj_val (wn1 rfl rfl rfl rfl) rfl rfl (y_move rfl) ?_
            refine rj_val (wn1 rfl rfl rfl rfl) rfl rfl (y_move rfl) ?_
            refine rj_val (wn1 rfl rfl rfl rfl) rfl rfl (y_seql rfl rfl) ?_
            refine rj_val (wn1 rfl rfl rfl rfl) rfl rfl (y_pick_f rfl rfl) ?_
            refine rj_eq 113 rfl (v' := .bool true) (by first | rfl | (simp; simpa using hgb)) ?_
            refine rj_val (wn0 rfl) rfl rfl (y_pick_t rfl rfl) ?_
            refine rj_val (wn0 rfl) rfl rfl (y_assign rfl) ?_
            refine rj_nil ?_
            refine hK17 _ _ _ ?_
            refine cj_env (Env.le_cons (t := 4) rfl (Env.le_nil _)) ?_
            refine cj_ret ?_
            refine hret _ _ _ ?_
            apply ej_ret Try.results3 (.cons (rv_tmp rfl) .nil) _ [] (Hp.le_refl _) rfl
            case hp => rfl
            case hS => (repeat (first | exact Sub.refl _ | (apply Sub.pick; focus (repeat (first | exact Find.head _ | apply Find.tail))) | apply Sub.drop))
        · try simp only [decide_eq_true_eq, decide_eq_false_iff_not, Bool.not_eq_true', Bool.not_eq_false', Bool.true_eq_false, Bool.false_eq_true] at hg95; have hga := hg4 hg95
          refine rj_val (wn1 rfl rfl rfl rfl) rfl rfl (y_move rfl) ?_
          refine rj_val (wn1 rfl rfl rfl rfl) rfl rfl (y_move rfl) ?_
          refine rj_val (wn1 rfl rfl rfl rfl) rfl rfl (y_seql rfl rfl) ?_
          refine rj_val (wn1 rfl rfl rfl rfl) rfl rfl (y_pick_f rfl rfl) ?_
          refine rj_eq 99 rfl (v' := .bool true) (by first | rfl | (simp; exact hga)) ?_
          refine rj_val (wn0 rfl) rfl rfl (y_pick_t rfl rfl) ?_
          refine rj_val (wn0 rfl) rfl rfl (y_move rfl) ?_
          refine rj_val (wn1 rfl rfl rfl rfl) rfl rfl (y_move rfl) ?_
          refine rj_val (wn1 rfl rfl rfl rfl) rfl rfl (y_move rfl) ?_
          refine rj_val (wn1 rfl rfl rfl rfl) rfl rfl (y_slen Try.underlying9 rfl) ?_
          refine rj_val (wn1 rfl rfl rfl rfl) rfl rfl (y_move rfl) ?_
          refine rj_val (wn1 rfl rfl rfl rfl) rfl rfl (y_slen Try.underlying9 rfl) ?_
          first | refine rj_val (wn1 rfl rfl rfl rfl) rfl rfl (y_add64 rfl rfl (by (first | omega | (dsimp only; omega)))) ?_ | refine rj_val (wn1 rfl rfl rfl rfl) rfl rfl (y_add rfl rfl) ?_
          refine rj_val (wn1 rfl rfl rfl rfl) rfl rfl (y_lss rfl rfl) ?_
          refine rj_val (wn1 rfl rfl rfl rfl) rfl rfl (y_move rfl) ?_
          refine rj_part 109 rfl (fun hg109 => ?_) (fun hg109 => ?_)
          · try simp only [decide_eq_true_eq, decide_eq_false_iff_not, Bool.not_eq_true', Bool.not_eq_false', Bool.true_eq_false, Bool.false_eq_true] at hg109
            refine rj_skip (wn2 rfl rfl rfl rfl rfl) rfl rfl ?_
            refine rj_skip (wn2 rfl rfl rfl rfl rfl) rfl rfl ?_
            refine rj_skip (wn2 rfl rfl rfl rfl rfl) rfl rfl ?_
            refine rj_val (wn1 rfl rfl rfl rfl) rfl rfl (y_pick_t rfl rfl) ?_
            refine rj_eq 113 rfl (v' := .bool true) (by first | rfl | (simp; simpa using hgb)) ?_
            refine rj_val (wn0 rfl) rfl rfl (y_pick_t rfl rfl) ?_
            refine rj_val (wn0 rfl) rfl rfl (y_assign rfl) ?_
            refine rj_nil ?_
            refine hK17 _ _ _ ?_
            refine cj_env (Env.le_cons (t := 4) rfl (Env.le_nil _)) ?_
            refine cj_ret ?_
            refine hret _ _ _ ?_
            apply ej_ret Try.results3 (.cons (rv_tmp rfl) .nil) _ [] (Hp.le_refl _) rfl
            case hp => rfl
            case hS => (repeat (first | exact Sub.refl _ | (apply Sub.pick; focus (repeat (first | exact Find.head _ | apply Find.tail))) | apply Sub.drop))
          · try simp only [decide_eq_true_eq, decide_eq_false_iff_not, Bool.not_eq_true', Bool.not_eq_false', Bool.true_eq_false, Bool.false_eq_true] at hg109; have hgb := hg5 hg109
            refine rj_val (wn1 rfl rfl rfl rfl) rfl rfl (y_move rfl) ?_
            refine rj_val (wn1 rfl rfl rfl rfl) rfl rfl (y_move rfl) ?_
            refine rj_val (wn1 rfl rfl rfl rfl) rfl rfl (y_seql rfl rfl) ?_
            refine rj_val (wn1 rfl rfl rfl rfl) rfl rfl (y_pick_f rfl rfl) ?_
            refine rj_eq 113 rfl (v' := .bool true) (by first | rfl | (simp; simpa using hgb)) ?_
            refine rj_val (wn0 rfl) rfl rfl (y_pick_t rfl rfl) ?_
            refine rj_val (wn0 rfl) rfl rfl (y_assign rfl) ?_
            refine rj_nil ?_
            refine hK17 _ _ _ ?_
            refine cj_env (Env.le_cons (t := 4) rfl (Env.le_nil _)) ?_
            refine cj_ret ?_
            refine hret _ _ _ ?_
            apply ej_ret Try.results3 (.cons (rv_tmp rfl) .nil) _ [] (Hp.le_refl _) rfl
            case hp => rfl
            case hS => (repeat (first | exact Sub.refl _ | (apply Sub.pick; focus (repeat (first | exact Find.head _ | apply Find.tail))) | apply Sub.drop))
theorem parts_t {R : Hp} (v1 : Value) (ys : List (List UInt8)) (ha : slcR 1 strR R [v1] ys) (n : Int) (hn : IntKind.i64.min ≤ n ∧ n ≤ IntKind.i64.max) :
    Tri Try.prog 4 [v1, .int .i64 n] R [] (fun v _ _ => v = .bool true) := by
  have hn2 : -9223372036854775808 ≤ n ∧ n ≤ 9223372036854775807 := hn
  obtain ⟨q, cap, e, hlc, hcm, hz⟩ := ha
  obtain rfl : v1 = .slice q ys.length cap := by simpa using e
  clear e
  unfold maxLen at hcm
  refine tri_of Try.func4 rfl Try.ntmps4 rfl (fun σ F Q hret hend hpan => ?_)
  try simp only [List.cons_append, List.nil_append]
  refine cj_env (Env.le_cons (t := 0) rfl (Env.le_cons (t := 1) rfl (Env.le_nil _))) ?_
  refine cj_seq (fun K1 hK1 => ?_)
  refine cj_region ?_
  refine rj_val (wn0 rfl) rfl rfl (y_assign rfl) ?_
  refine rj_nil ?_
  refine hK1 _ _ _ ?_
  refine cj_seq (fun K2 hK2 => ?_)
  refine cj_seq (fun K3 hK3 => ?_)
  refine cj_region ?_
  refine rj_call (wn0 rfl) rfl Try.call6 rfl (awake_t) (by (repeat (first | exact Split.nil _ | (apply Split.cons; focus (repeat (first | exact Find.head _ | apply Find.tail)))))) (fun _ _ _ _ h => h.elim) ?_
  rintro v R' L' hR ⟨rfl, rfl, rfl⟩
  try simp only [List.cons_append, List.nil_append]
  refine rj_val (wn0 rfl) rfl rfl (y_not rfl) ?_
  refine rj_nil ?_
  refine hK3 _ _ _ ?_
  refine cj_cond_f rfl ?_
  refine cj_skip ?_
  refine hK2 _ _ _ ?_
  refine cj_env (Env.le_cons (t := 0) rfl (Env.le_cons (t := 1) rfl (Env.le_nil _))) ?_
  refine cj_seq (fun K4 hK4 => ?_)
  refine cj_seq (fun K5 hK5 => ?_)
  refine cj_region ?_
  refine rj_val (wn0 rfl) rfl rfl (y_move rfl) ?_
  first | refine rj_val (wn0 rfl) rfl rfl (y_len_sl Try.underlying33 rfl) ?_ | refine rj_val (wn0 rfl) rfl rfl (y_len_slc Try.underlying33 rfl (by ((repeat (first | exact Find.head _ | apply Find.tail)); done))) ?_
  refine rj_val (wn0 rfl) rfl rfl (y_gtr rfl rfl) ?_
  refine rj_nil ?_
  refine hK5 _ _ _ ?_
  refine cj_cond rfl (fun hc18 => ?_) (fun hc18 => ?_)
  · try simp only [decide_eq_true_eq, decide_eq_false_iff_not, Bool.not_eq_true', Bool.not_eq_false', Bool.true_eq_false, Bool.false_eq_true] at hc18
    refine cj_seq (fun K7 hK7 => ?_)
    refine cj_region ?_
    refine rj_val (wn0 rfl) rfl rfl (y_assign rfl) ?_
    refine rj_nil ?_
    refine hK7 _ _ _ ?_
    refine cj_env (Env.le_cons (t := 4) rfl (Env.le_nil _)) ?_
    refine cj_ret ?_
    refine hret _ _ _ ?_
    apply ej_ret Try.results4 (.cons (rv_tmp rfl) .nil) _ [] (Hp.le_refl _) rfl
    case hp => rfl
    case hS => (repeat (first | exact Sub.refl _ | (apply Sub.pick; focus (repeat (first | exact Find.head _ | apply Find.tail))) | apply Sub.drop))
  · try simp only [decide_eq_true_eq, decide_eq_false_iff_not, Bool.not_eq_true', Bool.not_eq_false', Bool.true_eq_false, Bool.false_eq_true] at hc18
    refine cj_skip ?_
    refine hK4 _ _ _ ?_
    refine cj_env (Env.le_cons (t := 0) rfl (Env.le_cons (t := 1) rfl (Env.le_nil _))) ?_
    refine cj_seq (fun K8 hK8 => ?_)
    refine cj_region ?_
    refine rj_call (wn0 rfl) rfl Try.call7 rfl (new_t) (by (repeat (first | exact Split.nil _ | (apply Split.cons; focus (repeat (first | exact Find.head _ | apply Find.tail)))))) (fun _ _ _ _ h => h.elim) ?_
    rintro v R' L' hR ⟨rfl, ba, u, rfl, rfl⟩
    try simp only [List.cons_append, List.nil_append]
    refine rj_call (wn0 rfl) rfl Try.call7 rfl (new_t) (by (repeat (first | exact Split.nil _ | (apply Split.cons; focus (repeat (first | exact Find.head _ | apply Find.tail)))))) (fun _ _ _ _ h => h.elim) ?_
    rintro v R' L' hR ⟨rfl, bb, ub, rfl, rfl⟩
    try simp only [List.cons_append, List.nil_append]
    refine rj_val (wn0 rfl) rfl rfl (y_assign rfl) ?_
    refine rj_val (wn0 rfl) rfl rfl (y_assign rfl) ?_
    refine rj_nil ?_
    refine hK8 _ _ _ ?_
    refine cj_seq (fun K9 hK9 => ?_)
    refine cj_region ?_
    refine rj_val (wn0 rfl) rfl rfl (y_assign rfl) ?_
    refine rj_nil ?_
    refine hK9 _ _ _ ?_
    refine cj_seq (fun K10 hK10 => ?_)
    refine cj_seq (fun K11 hK11 => ?_)
    refine cj_region ?_
    refine rj_val (wn0 rfl) rfl rfl (y_move rfl) ?_
    first | refine rj_val (wn0 rfl) rfl rfl (y_len_sl Try.underlying33 rfl) ?_ | refine rj_val (wn0 rfl) rfl rfl (y_len_slc Try.underlying33 rfl (by ((repeat (first | exact Find.head _ | apply Find.tail)); done))) ?_
    refine rj_val (wn0 rfl) rfl rfl (y_move rfl) ?_
    refine rj_nil ?_
    refine hK11 _ _ _ ?_
    refine cj_env (Env.le_cons (t := 1) rfl (Env.le_cons (t := 5) rfl (Env.le_cons (t := 6) rfl (Env.le_cons (t := 7) rfl (Env.le_cons (t := 21) rfl (Env.le_cons (t := 22) rfl (Env.le_cons (t := 23) rfl (Env.le_nil _)))))))) ?_
    refine cj_block ?_
    refine cj_env (E' := (fun (x : Nat × List UInt8 × Value) => [(1, .int .i64 n), (5, .pointer (some ⟨ba, 0, none⟩)), (6, .pointer (some ⟨bb, 0, none⟩)), (7, .string (str x.2.1)), (21, .slice q ys.length cap), (22, .int .i64 (ys.length : Int)), (23, .int .i64 (x.1 : Int))]) (0, [], u)) (Env.le_cons rfl (Env.le_cons rfl (Env.le_cons rfl (Env.le_cons rfl (Env.le_cons rfl (Env.le_cons rfl (Env.le_cons rfl (Env.le_nil _)))))))) ?_
    refine cj_sub (M := (fun (x : Nat × List UInt8 × Value) => dkB ba x.2.2 ⟨x.2.1, 0, 0, false, false⟩ :: dkS x.2.2 ⟨x.2.1, 0, 0, false, false⟩ :: dkB bb ub DK.new :: dkS ub DK.new :: F) (0, [], u)) (by (repeat (first | exact Sub.refl _ | (apply Sub.pick; focus (repeat (first | exact Find.head _ | apply Find.tail))) | apply Sub.drop))) ?_
    refine cj_loop (fun (x : Nat × List UInt8 × Value) => [(1, .int .i64 n), (5, .pointer (some ⟨ba, 0, none⟩)), (6, .pointer (some ⟨bb, 0, none⟩)), (7, .string (str x.2.1)), (21, .slice q ys.length cap), (22, .int .i64 (ys.length : Int)), (23, .int .i64 (x.1 : Int))]) (fun (x : Nat × List UInt8 × Value) => R) (fun (x : Nat × List UInt8 × Value) => dkB ba x.2.2 ⟨x.2.1, 0, 0, false, false⟩ :: dkS x.2.2 ⟨x.2.1, 0, 0, false, false⟩ :: dkB bb ub DK.new :: dkS ub DK.new :: F) (fun (x : Nat × List UInt8 × Value) => x.1 ≤ ys.length ∧ x.2.1.length ≤ 50 * x.1) (fun (x : Nat × List UInt8 × Value) => ys.length - x.1) (0, [], u) (⟨by simp, by simp⟩) ?_
    rintro ⟨i, acc, ua⟩ ⟨hi, hl⟩
    try dsimp only
    dsimp only at hi hl
    refine cj_seq (fun K12 hK12 => ?_)
    refine cj_region ?_
    refine rj_val (wn0 rfl) rfl rfl (y_lss rfl rfl) ?_
    refine rj_nil ?_
    refine hK12 _ _ _ ?_
    refine cj_seq (fun K13 hK13 => ?_)
    refine cj_cond rfl (fun hc24 => ?_) (fun hc24 => ?_)
    · try simp only [decide_eq_true_eq, decide_eq_false_iff_not, Bool.not_eq_true', Bool.not_eq_false', Bool.true_eq_false, Bool.false_eq_true] at hc24
      refine cj_skip ?_
      refine hK13 _ _ _ ?_
      refine cj_seq (fun K15 hK15 => ?_)
      refine cj_block ?_
      refine cj_seq (fun K16 hK16 => ?_)
      refine cj_region ?_
      obtain ⟨b, off, rfl, hz2⟩ := hz.resolve_left (by rintro rfl; simp at hc24; omega)
      obtain ⟨c, hcl, hcc, e1, bd1⟩ := hz2 i (by omega)
      obtain ⟨s, hs⟩ : ∃ a, a = ys[i]'(by omega) := ⟨_, rfl⟩
      rw [← hs] at e1 bd1
      subst e1
      first | refine rj_val (wn0 rfl) rfl rfl (y_indexAddr Try.underlying33 Try.sizeOf9 rfl rfl (by (first | omega | (dsimp only; omega)))) ?_ | refine rj_val (wn0 rfl) rfl rfl (y_index_slc Try.underlying33 Try.sizeOf9 rfl rfl (by ((repeat (first | exact Find.head _ | apply Find.tail)); done)) (by (first | omega | (dsimp only; omega)))) ?_
      refine rj_val (wn0 rfl) rfl rfl (y_load_ro ⟨Try.isAgg9, Try.sizeOf9⟩ rfl (by have := hcc 0 _ rfl; simpa using this)) ?_
      refine rj_val (wn0 rfl) rfl rfl (y_assign rfl) ?_
      refine rj_nil ?_
      refine hK16 _ _ _ ?_
      refine cj_env (Env.le_cons (t := 1) rfl (Env.le_cons (t := 5) rfl (Env.le_cons (t := 6) rfl (Env.le_cons (t := 7) rfl (Env.le_cons (t := 9) rfl (Env.le_cons (t := 21) rfl (Env.le_cons (t := 22) rfl (Env.le_cons (t := 23) rfl (Env.le_nil _))))))))) ?_
      refine cj_seq (fun K17 hK17 => ?_)
      refine cj_seq (fun K18 hK18 => ?_)
      refine cj_region ?_
      refine rj_val (wn0 rfl) rfl rfl (y_move rfl) ?_
      refine rj_val (wn0 rfl) rfl rfl (y_slen Try.underlying9 rfl) ?_
      refine rj_val (wn0 rfl) rfl rfl (y_gtr rfl rfl) ?_
      refine rj_nil ?_
      refine hK18 _ _ _ ?_
      refine cj_cond rfl (fun hc29 => ?_) (fun hc29 => ?_)
      · try simp only [decide_eq_true_eq, decide_eq_false_iff_not, Bool.not_eq_true', Bool.not_eq_false', Bool.true_eq_false, Bool.false_eq_true] at hc29
        refine cj_seq (fun K20 hK20 => ?_)
        refine cj_region ?_
        refine rj_val (wn0 rfl) rfl rfl (y_assign rfl) ?_
        refine rj_nil ?_
        refine hK20 _ _ _ ?_
        refine cj_env (Env.le_cons (t := 4) rfl (Env.le_nil _)) ?_
        refine cj_ret ?_
        refine hret _ _ _ ?_
        apply ej_ret Try.results4 (.cons (rv_tmp rfl) .nil) _ [] (Hp.le_refl _) rfl
        case hp => rfl
        case hS => (repeat (first | exact Sub.refl _ | (apply Sub.pick; focus (repeat (first | exact Find.head _ | apply Find.tail))) | apply Sub.drop))
      · try simp only [decide_eq_true_eq, decide_eq_false_iff_not, Bool.not_eq_true', Bool.not_eq_false', Bool.true_eq_false, Bool.false_eq_true] at hc29
        refine cj_skip ?_
        refine hK17 _ _ _ ?_
        refine cj_env (Env.le_cons (t := 1) rfl (Env.le_cons (t := 5) rfl (Env.le_cons (t := 6) rfl (Env.le_cons (t := 7) rfl (Env.le_cons (t := 9) rfl (Env.le_cons (t := 21) rfl (Env.le_cons (t := 22) rfl (Env.le_cons (t := 23) rfl (Env.le_nil _))))))))) ?_
        refine cj_seq (fun K21 hK21 => ?_)
        refine cj_seq (fun K22 hK22 => ?_)
        refine cj_region ?_
        refine rj_val (wn0 rfl) rfl rfl (y_move rfl) ?_
        refine rj_val (wn0 rfl) rfl rfl (y_move rfl) ?_
        refine rj_call (wn0 rfl) rfl Try.call8 rfl (append_t ba ua ⟨acc, 0, 0, false, false⟩ 1000 (ok_small _ _ (by simp) (by omega)) s (by omega)) (by (repeat (first | exact Split.nil _ | (apply Split.cons; focus (repeat (first | exact Find.head _ | apply Find.tail)))))) (fun _ _ _ _ h => h.elim) ?_
        rintro v R' L' hR ⟨rfl, rfl, w2, rfl⟩
        rw [show DK.append ⟨acc, 0, 0, false, false⟩ s = (0, ⟨acc ++ s, 0, 0, false, false⟩) from rfl]
        try simp only [List.cons_append, List.nil_append]
        refine rj_val (wn0 rfl) rfl rfl (y_neq rfl rfl) ?_
        refine rj_nil ?_
        refine hK22 _ _ _ ?_
        refine cj_env (Env.le_cons (t := 1) rfl (Env.le_cons (t := 5) rfl (Env.le_cons (t := 6) rfl (Env.le_cons (t := 7) rfl (Env.le_cons (t := 9) rfl (Env.le_cons (t := 21) rfl (Env.le_cons (t := 22) rfl (Env.le_cons (t := 23) rfl (Env.le_cons (t := 33) rfl (Env.le_nil _)))))))))) ?_
        refine cj_cond_f rfl ?_
        refine cj_skip ?_
        refine hK21 _ _ _ ?_
        refine cj_region ?_
        refine rj_val (wn0 rfl) rfl rfl (y_move rfl) ?_
        refine rj_val (wn0 rfl) rfl rfl (y_move rfl) ?_
        refine rj_val (wn0 rfl) rfl rfl (y_sadd rfl rfl (by (first | omega | (dsimp only; omega)))) ?_
        refine rj_val (wn0 rfl) rfl rfl (y_assign rfl) ?_
        refine rj_nil ?_
        refine hK15 _ _ _ ?_
        refine cj_env (Env.le_cons (t := 1) rfl (Env.le_cons (t := 5) rfl (Env.le_cons (t := 6) rfl (Env.le_cons (t := 7) rfl (Env.le_cons (t := 21) rfl (Env.le_cons (t := 22) rfl (Env.le_cons (t := 23) rfl (Env.le_nil _)))))))) ?_
        refine cj_region ?_
        first | refine rj_val (wn0 rfl) rfl rfl (y_add64 rfl rfl (by (first | omega | (dsimp only; omega)))) ?_ | refine rj_val (wn0 rfl) rfl rfl (y_add rfl rfl) ?_
        refine rj_val (wn0 rfl) rfl rfl (y_move rfl) ?_
        refine rj_nil ?_
        refine ej_on (q' := roundK _ _ _ _ _ _ _) rfl ?_
        refine ej_round ((i + 1, acc ++ s, w2)) (⟨by simp only; omega, by simp only [List.length_append]; omega⟩) (by simp only; omega) (Env.le_cons rfl (Env.le_cons rfl (Env.le_cons rfl (Env.le_cons rfl (Env.le_cons rfl (Env.le_cons rfl (Env.le_cons rfl (Env.le_nil _)))))))) rfl (by (repeat (first | exact Sub.refl _ | (apply Sub.pick; focus (repeat (first | exact Find.head _ | apply Find.tail))) | apply Sub.drop)))
    · try simp only [decide_eq_true_eq, decide_eq_false_iff_not, Bool.not_eq_true', Bool.not_eq_false', Bool.true_eq_false, Bool.false_eq_true] at hc24
      refine cj_exit ?_
      refine hK10 _ _ _ ?_
      refine cj_env (Env.le_cons (t := 1) rfl (Env.le_cons (t := 5) rfl (Env.le_cons (t := 6) rfl (Env.le_cons (t := 7) rfl (Env.le_nil _))))) ?_
      refine cj_seq (fun K23 hK23 => ?_)
      refine cj_seq (fun K24 hK24 => ?_)
      refine cj_region ?_
      refine rj_val (wn0 rfl) rfl rfl (y_move rfl) ?_
      refine rj_val (wn0 rfl) rfl rfl (y_move rfl) ?_
      refine rj_call (wn0 rfl) rfl Try.call8 rfl (append_t bb ub DK.new 1000 (ok_small [] 0 (Nat.le_refl _) (by decide)) acc (by omega)) (by (repeat (first | exact Split.nil _ | (apply Split.cons; focus (repeat (first | exact Find.head _ | apply Find.tail)))))) (fun _ _ _ _ h => h.elim) ?_
      rintro v R' L' hR ⟨rfl, rfl, ub2, rfl⟩
      rw [show DK.new.append acc = (0, ⟨acc, 0, 0, false, false⟩) from rfl]
      try simp only [List.cons_append, List.nil_append]
      refine rj_val (wn0 rfl) rfl rfl (y_neq rfl rfl) ?_
      refine rj_val (wn0 rfl) rfl rfl (y_move rfl) ?_
      refine rj_val (wn1 rfl rfl rfl rfl) rfl rfl (y_move rfl) ?_
      refine rj_val (wn1 rfl rfl rfl rfl) rfl rfl (y_call Try.call12 rfl (waits_q ba ua ⟨acc, 0, 0, false, false⟩ ⟨by simp, by simp only; omega⟩) (by (repeat (first | exact Split.nil _ | (apply Split.cons; focus (repeat (first | exact Find.head _ | apply Find.tail))))))) ?_
      refine rj_val (wn1 rfl rfl rfl rfl) rfl rfl (y_move rfl) ?_
      refine rj_val (wn1 rfl rfl rfl rfl) rfl rfl (y_slen Try.underlying9 rfl) ?_
      refine rj_val (wn1 rfl rfl rfl rfl) rfl rfl (y_neq rfl rfl) ?_
      refine rj_eq 47 rfl (v' := .bool false) (by simp) ?_
      refine rj_val (wn0 rfl) rfl rfl (y_pick_f rfl rfl) ?_
      refine rj_val (wn0 rfl) rfl rfl (y_move rfl) ?_
      refine rj_val (wn1 rfl rfl rfl rfl) rfl rfl (y_move rfl) ?_
      refine rj_val (wn1 rfl rfl rfl rfl) rfl rfl (y_call Try.call12 rfl (waits_q bb ub2 ⟨acc, 0, 0, false, false⟩ ⟨by simp, by simp only; omega⟩) (by (repeat (first | exact Split.nil _ | (apply Split.cons; focus (repeat (first | exact Find.head _ | apply Find.tail))))))) ?_
      refine rj_val (wn1 rfl rfl rfl rfl) rfl rfl (y_move rfl) ?_
      refine rj_val (wn1 rfl rfl rfl rfl) rfl rfl (y_slen Try.underlying9 rfl) ?_
      refine rj_val (wn1 rfl rfl rfl rfl) rfl rfl (y_neq rfl rfl) ?_
      refine rj_eq 54 rfl (v' := .bool false) (by simp) ?_
      refine rj_val (wn0 rfl) rfl rfl (y_pick_f rfl rfl) ?_
      refine rj_nil ?_
      refine hK24 _ _ _ ?_
      refine cj_env (Env.le_cons (t := 1) rfl (Env.le_cons (t := 5) rfl (Env.le_cons (t := 6) rfl (Env.le_cons (t := 55) rfl (Env.le_nil _))))) ?_
      refine cj_cond_f rfl ?_
      refine cj_skip ?_
      refine hK23 _ _ _ ?_
      refine cj_seq (fun K25 hK25 => ?_)
      refine cj_region ?_
      refine rj_val (wn0 rfl) rfl rfl (y_move rfl) ?_
      refine rj_val (wn0 rfl) rfl rfl (y_move rfl) ?_
      refine rj_call (wn0 rfl) rfl Try.call10 rfl (crash_t ba ua ⟨acc, 0, 0, false, false⟩ 1000 (ok_small _ _ (by simp) (by omega)) (by decide) n) (by (repeat (first | exact Split.nil _ | (apply Split.cons; focus (repeat (first | exact Find.head _ | apply Find.tail)))))) (fun _ _ _ _ h => h.elim) ?_
      rintro v R' L' hR ⟨rfl, u5, rfl⟩
      try simp only [List.cons_append, List.nil_append]
      refine rj_nil ?_
      refine hK25 _ _ _ ?_
      refine cj_env (Env.le_cons (t := 1) rfl (Env.le_cons (t := 5) rfl (Env.le_cons (t := 6) rfl (Env.le_nil _)))) ?_
      refine cj_seq (fun K26 hK26 => ?_)
      refine cj_region ?_
      refine rj_val (wn0 rfl) rfl rfl (y_move rfl) ?_
      refine rj_val (wn0 rfl) rfl rfl (y_move rfl) ?_
      refine rj_call (wn0 rfl) rfl Try.call10 rfl (crash_t bb ub2 ⟨acc, 0, 0, false, false⟩ 1000 (ok_small _ _ (by simp) (by omega)) (by decide) n) (by (repeat (first | exact Split.nil _ | (apply Split.cons; focus (repeat (first | exact Find.head _ | apply Find.tail)))))) (fun _ _ _ _ h => h.elim) ?_
      rintro v R' L' hR ⟨rfl, u6, rfl⟩
      obtain ⟨D, hD⟩ : ∃ D, D = DK.crash ⟨acc, 0, 0, false, false⟩ n := ⟨_, rfl⟩
      have hdn : D.down = false := by rw [hD]; rfl
      rw [← hD]
      try simp only [List.cons_append, List.nil_append]
      refine rj_nil ?_
      refine hK26 _ _ _ ?_
      refine cj_env (Env.le_cons (t := 5) rfl (Env.le_cons (t := 6) rfl (Env.le_nil _))) ?_
      refine cj_seq (fun K27 hK27 => ?_)
      refine cj_region ?_
      refine rj_val (wn0 rfl) rfl rfl (y_move rfl) ?_
      refine rj_val (wn0 rfl) rfl rfl (y_call Try.call11 rfl (read_q ba u5 D) (by (repeat (first | exact Split.nil _ | (apply Split.cons; focus (repeat (first | exact Find.head _ | apply Find.tail))))))) ?_
      refine rj_val (wn0 rfl) rfl rfl (y_move rfl) ?_
      refine rj_val (wn0 rfl) rfl rfl (y_extract rfl rfl) ?_
      refine rj_val (wn0 rfl) rfl rfl (y_extract rfl rfl) ?_
      refine rj_val (wn0 rfl) rfl rfl (y_assign rfl) ?_
      refine rj_val (wn0 rfl) rfl rfl (y_assign rfl) ?_
      refine rj_nil ?_
      refine hK27 _ _ _ ?_
      refine cj_env (Env.le_cons (t := 6) rfl (Env.le_cons (t := 10) rfl (Env.le_cons (t := 11) rfl (Env.le_nil _)))) ?_
      refine cj_seq (fun K28 hK28 => ?_)
      refine cj_region ?_
      refine rj_val (wn0 rfl) rfl rfl (y_move rfl) ?_
      refine rj_val (wn0 rfl) rfl rfl (y_call Try.call11 rfl (read_q bb u6 D) (by (repeat (first | exact Split.nil _ | (apply Split.cons; focus (repeat (first | exact Find.head _ | apply Find.tail))))))) ?_
      refine rj_val (wn0 rfl) rfl rfl (y_move rfl) ?_
      refine rj_val (wn0 rfl) rfl rfl (y_extract rfl rfl) ?_
      refine rj_val (wn0 rfl) rfl rfl (y_extract rfl rfl) ?_
      refine rj_val (wn0 rfl) rfl rfl (y_assign rfl) ?_
      refine rj_val (wn0 rfl) rfl rfl (y_assign rfl) ?_
      refine rj_nil ?_
      refine hK28 _ _ _ ?_
      refine cj_env (Env.le_cons (t := 10) rfl (Env.le_cons (t := 11) rfl (Env.le_cons (t := 12) rfl (Env.le_cons (t := 13) rfl (Env.le_nil _))))) ?_
      refine cj_seq (fun K29 hK29 => ?_)
      refine cj_region ?_
      rw [hdn]
      refine rj_val (wn0 rfl) rfl rfl (y_move rfl) ?_
      refine rj_val (wn0 rfl) rfl rfl (y_eql rfl rfl) ?_
      refine rj_val (wn0 rfl) rfl rfl (y_move rfl) ?_
      refine rj_val (wn1 rfl rfl rfl rfl) rfl rfl (y_move rfl) ?_
      refine rj_val (wn1 rfl rfl rfl rfl) rfl rfl (y_eql rfl rfl) ?_
      refine rj_val (wn0 rfl) rfl rfl (y_pick_t rfl rfl) ?_
      refine rj_val (wn0 rfl) rfl rfl (y_move rfl) ?_
      refine rj_val (wn1 rfl rfl rfl rfl) rfl rfl (y_move rfl) ?_
      refine rj_val (wn1 rfl rfl rfl rfl) rfl rfl (y_move rfl) ?_
      refine rj_val (wn1 rfl rfl rfl rfl) rfl rfl (y_seql rfl rfl) ?_
      refine rj_val (wn0 rfl) rfl rfl (y_pick_t rfl rfl) ?_
      refine rj_val (wn0 rfl) rfl rfl (y_assign rfl) ?_
      refine rj_nil ?_
      refine hK29 _ _ _ ?_
      refine cj_env (Env.le_cons (t := 4) rfl (Env.le_nil _)) ?_
      refine cj_ret ?_
      refine hret _ _ _ ?_
      apply ej_ret Try.results4 (.cons (rv_tmp rfl) .nil) _ [] (Hp.le_refl _) rfl
      case hp => simp; rfl
      case hS => (repeat (first | exact Sub.refl _ | (apply Sub.pick; focus (repeat (first | exact Find.head _ | apply Find.tail))) | apply Sub.drop))
/-- a disk and the reference's say the same -/
def Rel (D : DK) (X : RK) : Prop := D.down = X.off ∧ D.b = X.sure ++ X.wait ∧ D.sure = X.sure.length ∧ (D.bound = true → 0 ≤ D.fuel ∧ X.fuel = D.fuel) ∧ (D.bound = false → X.fuel = -1) ∧ -9223372036854775808 ≤ D.fuel ∧ D.fuel ≤ 9223372036854775807
theorem Rel.new : Rel DK.new RK.new := by simp [Rel, DK.new, RK.new]
theorem Rel.ok {D : DK} {X : RK} (h : Rel D X) {m : Nat} (hm : D.b.length ≤ m) : D.ok m := ⟨by rw [h.2.2.1, h.2.1]; simp, hm, h.2.2.2.2.2.1, h.2.2.2.2.2.2, fun hb => (h.2.2.2.1 hb).1⟩
theorem Rel.fuel {D : DK} {X : RK} (h : Rel D X) : -1 ≤ X.fuel ∧ X.fuel ≤ 9223372036854775807 := by
  obtain ⟨_, _, _, h4, h5, h6, h7⟩ := h
  cases hb : D.bound with
  | true => have := h4 hb; omega
  | false => have := h5 hb; omega
theorem Rel.lens {D : DK} {X : RK} (h : Rel D X) : D.b.length = X.sure.length + X.wait.length := by rw [h.2.1, List.length_append]
theorem Rel.step {D : DK} {X : RK} (h : Rel D X) : (D.step.1 = true ↔ X.step.1 = 0) ∧ (X.step.1 = 0 ∨ X.step.1 = 3) ∧ Rel D.step.2 X.step.2 := by
  obtain ⟨b, su, fu, bo, dn⟩ := D
  obtain ⟨rs, rw_, rf, ro⟩ := X
  simp only [Rel] at h ⊢
  obtain ⟨rfl, rfl, rfl, h4, h5, h6, h7⟩ := h
  cases dn with
  | true => simp [DK.step, RK.step]; exact ⟨h4, h5, h6, h7⟩
  | false =>
    cases bo with
    | false =>
      obtain rfl := h5 rfl
      simp [DK.step, RK.step]; exact ⟨h6, h7⟩
    | true =>
      obtain ⟨h8, rfl⟩ := h4 rfl
      by_cases h0 : rf = 0
      · subst h0; simp [DK.step, RK.step]
      · have h10 : rf > 0 := by omega
        simp [DK.step, RK.step, h0, h10]; omega
theorem Rel.append {D : DK} {X : RK} (h : Rel D X) (s : List UInt8) : (D.append s).1 = (X.append s).1 ∧ Rel (D.append s).2 (X.append s).2 ∧ (D.append s).2.b.length ≤ D.b.length + s.length := by
  obtain ⟨k1, k2, k3⟩ := h.step
  have hb := D.step_b
  unfold DK.append RK.append
  cases hs : D.step.1 with
  | true =>
    have h0 := k1.1 hs
    simp only [h0, if_true]
    obtain ⟨h1, h2, h3, h4, h5, h6, h7⟩ := k3
    refine ⟨trivial, ⟨h1, by simp only; rw [h2, List.append_assoc], h3, h4, h5, h6, h7⟩, by simp [hb.1]⟩
  | false =>
    have h0 : ¬ X.step.1 = 0 := fun e => by rw [k1.2 e] at hs; cases hs
    have h3 := k2.resolve_left h0
    simp only [h3, Bool.false_eq_true, if_false]
    exact ⟨trivial, by simpa using k3, by rw [hb.1]; omega⟩
theorem Rel.sync {D : DK} {X : RK} (h : Rel D X) : D.sync.1 = X.sync.1 ∧ Rel D.sync.2 X.sync.2 ∧ D.sync.2.b.length ≤ D.b.length := by
  obtain ⟨k1, k2, k3⟩ := h.step
  have hb := D.step_b
  unfold DK.sync RK.sync
  cases hs : D.step.1 with
  | true =>
    have h0 := k1.1 hs
    simp only [h0, if_true]
    obtain ⟨h1, h2, h3, h4, h5, h6, h7⟩ := k3
    refine ⟨trivial, ⟨h1, by simp only; rw [h2, List.append_nil], by simp only; rw [h2], h4, h5, h6, h7⟩, by simp [hb.1]⟩
  | false =>
    have h0 : ¬ X.step.1 = 0 := fun e => by rw [k1.2 e] at hs; cases hs
    have h3 := k2.resolve_left h0
    simp only [h3, Bool.false_eq_true, if_false]
    exact ⟨trivial, by simpa using k3, by rw [hb.1]; omega⟩
theorem Rel.swap {D : DK} {X : RK} (h : Rel D X) (s : List UInt8) : (D.swap s).1 = (X.swap s).1 ∧ Rel (D.swap s).2 (X.swap s).2 ∧ (D.swap s).2.b.length ≤ D.b.length + s.length := by
  obtain ⟨k1, k2, k3⟩ := h.step
  have hb := D.step_b
  unfold DK.swap RK.swap
  cases hs : D.step.1 with
  | true =>
    have h0 := k1.1 hs
    simp only [h0, if_true]
    obtain ⟨h1, h2, h3, h4, h5, h6, h7⟩ := k3
    refine ⟨trivial, ⟨h1, by simp, rfl, h4, h5, h6, h7⟩, by simp⟩
  | false =>
    have h0 : ¬ X.step.1 = 0 := fun e => by rw [k1.2 e] at hs; cases hs
    have h3 := k2.resolve_left h0
    simp only [h3, Bool.false_eq_true, if_false]
    exact ⟨trivial, by simpa using k3, by rw [hb.1]; omega⟩
theorem Rel.setFuel {D : DK} {X : RK} (h : Rel D X) (n : Int) (hn : -9223372036854775808 ≤ n ∧ n ≤ 9223372036854775807) : Rel (D.setFuel n) { X with fuel := max n (-1) } := by
  obtain ⟨h1, h2, h3, h4, h5, h6, h7⟩ := h
  unfold DK.setFuel
  refine ⟨h1, h2, h3, fun hb => ?_, fun hb => ?_, hn.1, hn.2⟩
  · simp only [decide_eq_true_eq] at hb ⊢; omega
  · simp only [decide_eq_false_iff_not] at hb ⊢; omega
theorem Rel.crash {D : DK} {X : RK} (h : Rel D X) (n : Int) : Rel (D.crash n) (X.crash n) ∧ (D.crash n).b.length ≤ D.b.length := by
  obtain ⟨h1, h2, h3, h4, h5, h6, h7⟩ := h
  unfold DK.crash RK.crash DK.keeps
  refine ⟨⟨rfl, ?_, ?_, fun hb => (by cases hb), fun _ => rfl, h6, h7⟩, by simp; exact Nat.min_le_right _ _⟩
  · simp only [List.append_nil]
    rw [h2, h3, List.length_append, Nat.add_sub_cancel_left, List.take_append, List.take_of_length_le (by omega)]
    congr 1
    rw [List.take_eq_take_iff]; omega
  · simp only; rw [h2, h3]; simp
theorem runs_t {R : Hp} (v1 : Value) (acts : List (Int × Int × List UInt8)) (ha : slcR 3 (pairR 1 (intR .i64) (pairR 1 (intR .i64) strR)) R [v1] acts) :
    Tri Try.prog 5 [v1] R [] (fun v _ _ => v = .bool true) := by
  obtain ⟨q, cap, e, hlc, hcm, hz⟩ := ha
  obtain rfl : v1 = .slice q acts.length cap := by simpa using e
  clear e
  unfold maxLen at hcm
  refine tri_of Try.func5 rfl Try.ntmps5 rfl (fun σ F Q hret hend hpan => ?_)
  try simp only [List.cons_append, List.nil_append]
  refine cj_env (Env.le_cons (t := 0) rfl (Env.le_nil _)) ?_
  refine cj_seq (fun K1 hK1 => ?_)
  refine cj_region ?_
  refine rj_val (wn0 rfl) rfl rfl (y_assign rfl) ?_
  refine rj_nil ?_
  refine hK1 _ _ _ ?_
  refine cj_seq (fun K2 hK2 => ?_)
  refine cj_seq (fun K3 hK3 => ?_)
  refine cj_region ?_
  refine rj_call (wn0 rfl) rfl Try.call6 rfl (awake_t) (by (repeat (first | exact Split.nil _ | (apply Split.cons; focus (repeat (first | exact Find.head _ | apply Find.tail)))))) (fun _ _ _ _ h => h.elim) ?_
  rintro v R' L' hR ⟨rfl, rfl, rfl⟩
  try simp only [List.cons_append, List.nil_append]
  refine rj_val (wn0 rfl) rfl rfl (y_not rfl) ?_
  refine rj_nil ?_
  refine hK3 _ _ _ ?_
  refine cj_cond_f rfl ?_
  refine cj_skip ?_
  refine hK2 _ _ _ ?_
  refine cj_env (Env.le_cons (t := 0) rfl (Env.le_nil _)) ?_
  refine cj_seq (fun K4 hK4 => ?_)
  refine cj_seq (fun K5 hK5 => ?_)
  refine cj_region ?_
  refine rj_val (wn0 rfl) rfl rfl (y_move rfl) ?_
  first | refine rj_val (wn0 rfl) rfl rfl (y_len_sl Try.underlying36 rfl) ?_ | refine rj_val (wn0 rfl) rfl rfl (y_len_slc Try.underlying36 rfl (by ((repeat (first | exact Find.head _ | apply Find.tail)); done))) ?_
  refine rj_val (wn0 rfl) rfl rfl (y_gtr rfl rfl) ?_
  refine rj_nil ?_
  refine hK5 _ _ _ ?_
  refine cj_cond rfl (fun hc14 => ?_) (fun hc14 => ?_)
  · try simp only [decide_eq_true_eq, decide_eq_false_iff_not, Bool.not_eq_true', Bool.not_eq_false', Bool.true_eq_false, Bool.false_eq_true] at hc14
    refine cj_seq (fun K7 hK7 => ?_)
    refine cj_region ?_
    refine rj_val (wn0 rfl) rfl rfl (y_assign rfl) ?_
    refine rj_nil ?_
    refine hK7 _ _ _ ?_
    refine cj_env (Env.le_cons (t := 2) rfl (Env.le_nil _)) ?_
    refine cj_ret ?_
    refine hret _ _ _ ?_
    apply ej_ret Try.results5 (.cons (rv_tmp rfl) .nil) _ [] (Hp.le_refl _) rfl
    case hp => rfl
    case hS => (repeat (first | exact Sub.refl _ | (apply Sub.pick; focus (repeat (first | exact Find.head _ | apply Find.tail))) | apply Sub.drop))
  · try simp only [decide_eq_true_eq, decide_eq_false_iff_not, Bool.not_eq_true', Bool.not_eq_false', Bool.true_eq_false, Bool.false_eq_true] at hc14
    refine cj_skip ?_
    refine hK4 _ _ _ ?_
    refine cj_env (Env.le_cons (t := 0) rfl (Env.le_nil _)) ?_
    refine cj_seq (fun K8 hK8 => ?_)
    refine cj_region ?_
    refine rj_call (wn0 rfl) rfl Try.call7 rfl (new_t) (by (repeat (first | exact Split.nil _ | (apply Split.cons; focus (repeat (first | exact Find.head _ | apply Find.tail)))))) (fun _ _ _ _ h => h.elim) ?_
    rintro v R' L' hR ⟨rfl, bd, u, rfl, rfl⟩
    try simp only [List.cons_append, List.nil_append]
    refine rj_call (wn0 rfl) rfl Try.call13 rfl (rnew_t) (by (repeat (first | exact Split.nil _ | (apply Split.cons; focus (repeat (first | exact Find.head _ | apply Find.tail)))))) (fun _ _ _ _ h => h.elim) ?_
    rintro v R' L' hR ⟨rfl, br, rfl, rfl⟩
    try simp only [List.cons_append, List.nil_append]
    refine rj_val (wn0 rfl) rfl rfl (y_assign rfl) ?_
    refine rj_val (wn0 rfl) rfl rfl (y_assign rfl) ?_
    refine rj_nil ?_
    refine hK8 _ _ _ ?_
    refine cj_seq (fun K9 hK9 => ?_)
    refine cj_seq (fun K10 hK10 => ?_)
    refine cj_region ?_
    refine rj_val (wn0 rfl) rfl rfl (y_move rfl) ?_
    first | refine rj_val (wn0 rfl) rfl rfl (y_len_sl Try.underlying36 rfl) ?_ | refine rj_val (wn0 rfl) rfl rfl (y_len_slc Try.underlying36 rfl (by ((repeat (first | exact Find.head _ | apply Find.tail)); done))) ?_
    refine rj_val (wn0 rfl) rfl rfl (y_move rfl) ?_
    refine rj_nil ?_
    refine hK10 _ _ _ ?_
    refine cj_env (Env.le_cons (t := 3) rfl (Env.le_cons (t := 4) rfl (Env.le_cons (t := 17) rfl (Env.le_cons (t := 18) rfl (Env.le_cons (t := 19) rfl (Env.le_nil _)))))) ?_
    refine cj_block ?_
    refine cj_env (E' := (fun (x : Nat × DK × RK × Value) => [(3, .pointer (some ⟨bd, 0, none⟩)), (4, .pointer (some ⟨br, 0, none⟩)), (17, .slice q acts.length cap), (18, .int .i64 (acts.length : Int)), (19, .int .i64 (x.1 : Int))]) (0, DK.new, RK.new, u)) (Env.le_cons rfl (Env.le_cons rfl (Env.le_cons rfl (Env.le_cons rfl (Env.le_cons rfl (Env.le_nil _)))))) ?_
    refine cj_sub (M := (fun (x : Nat × DK × RK × Value) => dkB bd x.2.2.2 x.2.1 :: dkS x.2.2.2 x.2.1 :: rkB br x.2.2.1 :: F) (0, DK.new, RK.new, u)) (by (repeat (first | exact Sub.refl _ | (apply Sub.pick; focus (repeat (first | exact Find.head _ | apply Find.tail))) | apply Sub.drop))) ?_
    refine cj_loop (fun (x : Nat × DK × RK × Value) => [(3, .pointer (some ⟨bd, 0, none⟩)), (4, .pointer (some ⟨br, 0, none⟩)), (17, .slice q acts.length cap), (18, .int .i64 (acts.length : Int)), (19, .int .i64 (x.1 : Int))]) (fun (x : Nat × DK × RK × Value) => R) (fun (x : Nat × DK × RK × Value) => dkB bd x.2.2.2 x.2.1 :: dkS x.2.2.2 x.2.1 :: rkB br x.2.2.1 :: F) (fun (x : Nat × DK × RK × Value) => x.1 ≤ acts.length ∧ Rel x.2.1 x.2.2.1 ∧ x.2.1.b.length ≤ 200 * x.1) (fun (x : Nat × DK × RK × Value) => acts.length - x.1) (0, DK.new, RK.new, u) (⟨by simp, Rel.new, by simp [DK.new]⟩) ?_
    rintro ⟨i, D, X, ud⟩ ⟨hi, hrel, hl⟩
    try dsimp only
    dsimp only at hi hl hrel
    refine cj_seq (fun K11 hK11 => ?_)
    refine cj_region ?_
    refine rj_val (wn0 rfl) rfl rfl (y_lss rfl rfl) ?_
    refine rj_nil ?_
    refine hK11 _ _ _ ?_
    refine cj_seq (fun K12 hK12 => ?_)
    refine cj_cond rfl (fun hc20 => ?_) (fun hc20 => ?_)
    · try simp only [decide_eq_true_eq, decide_eq_false_iff_not, Bool.not_eq_true', Bool.not_eq_false', Bool.true_eq_false, Bool.false_eq_true] at hc20
      refine cj_skip ?_
      refine hK12 _ _ _ ?_
      refine cj_seq (fun K14 hK14 => ?_)
      refine cj_block ?_
      refine cj_seq (fun K15 hK15 => ?_)
      refine cj_region ?_
      obtain ⟨b, off, rfl, hz2⟩ := hz.resolve_left (by rintro rfl; simp at hc20; omega)
      obtain ⟨c, hcl, hcc, e1, e2, e3, bd3⟩ := hz2 i (by omega)
      obtain ⟨a, hs⟩ : ∃ a, a = acts[i]'(by omega) := ⟨_, rfl⟩
      rw [← hs] at e1 e2 e3 bd3
      obtain ⟨e1, bd1⟩ := e1
      obtain ⟨e2, bd2⟩ := e2
      obtain ⟨what, n, s⟩ := a
      obtain rfl : c = [.int .i64 what, .int .i64 n, .string (str s)] := by match c, hcl with | [c0, c1, c2], _ => simp at e1 e2 e3; rw [e1, e2, e3]
      have bd4 : -9223372036854775808 ≤ n ∧ n ≤ 9223372036854775807 := bd2
      clear e1 e2 e3
      have hln := hrel.lens
      have hfu := hrel.fuel
      first | refine rj_val (wn0 rfl) rfl rfl (y_indexAddr Try.underlying36 Try.sizeOf40 rfl rfl (by (first | omega | (dsimp only; omega)))) ?_ | refine rj_val (wn0 rfl) rfl rfl (y_index_slc Try.underlying36 Try.sizeOf40 rfl rfl (by ((repeat (first | exact Find.head _ | apply Find.tail)); done)) (by (first | omega | (dsimp only; omega)))) ?_
      refine rj_val (wn0 rfl) rfl rfl (y_loads_ro ⟨Try.isAgg40, Try.sizeOf40⟩ (vs := [.int .i64 what, .int .i64 n, .string (str s)]) rfl rfl (fun j v hj => by simpa using hcc j v hj)) ?_
      refine rj_alloc (wn0 rfl) rfl Try.zeroValue40 rfl (fun b6 => ?_)
      refine rj_stores ⟨Try.isAgg40, Try.sizeOf40⟩ rfl (wn0 rfl) rfl rfl (by (simp [Value.oneCell'])) (by ((repeat (first | exact Find.head _ | apply Find.tail)); done)) (by (simp)) rfl ?_
      refine rj_nil ?_
      refine hK15 _ _ _ ?_
      refine cj_env (Env.le_cons (t := 3) rfl (Env.le_cons (t := 4) rfl (Env.le_cons (t := 6) rfl (Env.le_cons (t := 17) rfl (Env.le_cons (t := 18) rfl (Env.le_cons (t := 19) rfl (Env.le_nil _))))))) ?_
      refine cj_seq (fun K16 hK16 => ?_)
      refine cj_seq (fun K17 hK17 => ?_)
      refine cj_region ?_
      refine rj_val (wn0 rfl) rfl rfl (y_fieldAddr Try.underlying40 rfl (n := 1) (by decide) Try.sizeOf9 rfl) ?_
      first | refine rj_val (wn0 rfl) rfl rfl (y_load ⟨Try.isAgg9, Try.sizeOf9⟩ rfl (by ((repeat (first | exact Find.head _ | apply Find.tail)); done)) rfl) ?_ | refine rj_val (wn0 rfl) rfl rfl (y_load_slc ⟨Try.isAgg9, Try.sizeOf9⟩ rfl (by ((repeat (first | exact Find.head _ | apply Find.tail)); done)) rfl) ?_
      refine rj_val (wn0 rfl) rfl rfl (y_slen Try.underlying9 rfl) ?_
      refine rj_val (wn0 rfl) rfl rfl (y_gtr rfl rfl) ?_
      refine rj_nil ?_
      refine hK17 _ _ _ ?_
      refine cj_env (Env.le_cons (t := 3) rfl (Env.le_cons (t := 4) rfl (Env.le_cons (t := 6) rfl (Env.le_cons (t := 17) rfl (Env.le_cons (t := 18) rfl (Env.le_cons (t := 19) rfl (Env.le_cons (t := 26) rfl (Env.le_nil _)))))))) ?_
      refine cj_cond rfl (fun hc26 => ?_) (fun hc26 => ?_)
      · try simp only [decide_eq_true_eq, decide_eq_false_iff_not, Bool.not_eq_true', Bool.not_eq_false', Bool.true_eq_false, Bool.false_eq_true] at hc26
        refine cj_seq (fun K19 hK19 => ?_)
        refine cj_region ?_
        refine rj_val (wn0 rfl) rfl rfl (y_assign rfl) ?_
        refine rj_nil ?_
        refine hK19 _ _ _ ?_
        refine cj_env (Env.le_cons (t := 2) rfl (Env.le_nil _)) ?_
        refine cj_ret ?_
        refine hret _ _ _ ?_
        apply ej_ret Try.results5 (.cons (rv_tmp rfl) .nil) _ [] (Hp.le_refl _) rfl
        case hp => rfl
        case hS => (repeat (first | exact Sub.refl _ | (apply Sub.pick; focus (repeat (first | exact Find.head _ | apply Find.tail))) | apply Sub.drop))
      · try simp only [decide_eq_true_eq, decide_eq_false_iff_not, Bool.not_eq_true', Bool.not_eq_false', Bool.true_eq_false, Bool.false_eq_true] at hc26
        refine cj_skip ?_
        refine hK16 _ _ _ ?_
        refine cj_seq (fun K20 hK20 => ?_)
        refine cj_region ?_
        refine rj_val (wn0 rfl) rfl rfl (y_assign rfl) ?_
        refine rj_nil ?_
        refine hK20 _ _ _ ?_
        refine cj_seq (fun K21 hK21 => ?_)
        have hJ25 : ∀ (x : DK × RK × Value), Rel x.1 x.2.1 ∧ x.1.b.length ≤ 200 * i + 200 → EJ ⟨Try.prog, 145, σ⟩ K21 [(3, .pointer (some ⟨bd, 0, none⟩)), (4, .pointer (some ⟨br, 0, none⟩)), (7, .bool true), (17, .slice (some ⟨b, off, none⟩) acts.length cap), (18, .int .i64 (acts.length : Int)), (19, .int .i64 (i : Int))] R (dkB bd x.2.2 x.1 :: dkS x.2.2 x.1 :: rkB br x.2.1 :: F) := by
          rintro ⟨D2, X2, ud2⟩ ⟨hrel2, hl2⟩
          try dsimp only
          dsimp only at hrel2 hl2
          have hln2 := hrel2.lens
          obtain ⟨b2, su2, fu2, bo2, dn2⟩ := D2
          obtain ⟨rs2, rw2, rf2, ro2⟩ := X2
          obtain ⟨r1, r2, r3, -⟩ := id hrel2
          dsimp only at r1 r2 r3 hln2
          dsimp only at hl2
          subst r1 r2 r3
          simp only [List.length_append] at hl2
          refine hK21 _ _ _ ?_
          refine cj_seq (fun K22 hK22 => ?_)
          refine cj_region ?_
          refine rj_val (wn0 rfl) rfl rfl (y_move rfl) ?_
          refine rj_val (wn0 rfl) rfl rfl (y_call Try.call11 rfl (read_q bd ud2 ⟨rs2 ++ rw2, rs2.length, fu2, bo2, dn2⟩) (by (repeat (first | exact Split.nil _ | (apply Split.cons; focus (repeat (first | exact Find.head _ | apply Find.tail))))))) ?_
          refine rj_val (wn0 rfl) rfl rfl (y_move rfl) ?_
          refine rj_val (wn0 rfl) rfl rfl (y_extract rfl rfl) ?_
          refine rj_val (wn0 rfl) rfl rfl (y_extract rfl rfl) ?_
          refine rj_val (wn0 rfl) rfl rfl (y_assign rfl) ?_
          refine rj_val (wn0 rfl) rfl rfl (y_assign rfl) ?_
          refine rj_nil ?_
          refine hK22 _ _ _ ?_
          refine cj_env (Env.le_cons (t := 3) rfl (Env.le_cons (t := 4) rfl (Env.le_cons (t := 7) rfl (Env.le_cons (t := 8) rfl (Env.le_cons (t := 9) rfl (Env.le_cons (t := 17) rfl (Env.le_cons (t := 18) rfl (Env.le_cons (t := 19) rfl (Env.le_nil _))))))))) ?_
          refine cj_seq (fun K23 hK23 => ?_)
          refine cj_draw (by kernel_rfl) (by kernel_rfl) ?_
          refine qj_val (wn0 rfl) rfl rfl (y_move rfl) ?_
          refine qj_val (wn0 rfl) rfl rfl (y_not rfl) ?_
          refine qj_val (wn0 rfl) rfl rfl (y_move rfl) ?_
          refine qj_val (wn1 rfl rfl rfl rfl) rfl rfl (y_move rfl) ?_
          refine qj_val (wn1 rfl rfl rfl rfl) rfl rfl (y_call Try.call20 rfl (down_q bd ud2 ⟨rs2 ++ rw2, rs2.length, fu2, bo2, dn2⟩) (by (repeat (first | exact Split.nil _ | (apply Split.cons; focus (repeat (first | exact Find.head _ | apply Find.tail))))))) ?_
          refine qj_val (wn1 rfl rfl rfl rfl) rfl rfl (y_move rfl) ?_
          refine qj_val (wn1 rfl rfl rfl rfl) rfl rfl (y_nilCheck rfl) ?_
          refine qj_val (wn1 rfl rfl rfl rfl) rfl rfl (y_fieldAddr Try.underlying43 rfl (n := 1) (by decide) Try.sizeOf4 rfl) ?_
          first | refine qj_val (wn1 rfl rfl rfl rfl) rfl rfl (y_load ⟨Try.isAgg4, Try.sizeOf4⟩ rfl (by ((repeat (first | exact Find.head _ | apply Find.tail)); done)) rfl) ?_ | refine qj_val (wn1 rfl rfl rfl rfl) rfl rfl (y_load_slc ⟨Try.isAgg4, Try.sizeOf4⟩ rfl (by ((repeat (first | exact Find.head _ | apply Find.tail)); done)) rfl) ?_
          refine qj_val (wn1 rfl rfl rfl rfl) rfl rfl (y_bneq Try.underlying4 rfl rfl) ?_
          refine qj_eq 94 rfl (v' := .bool false) (by simp) ?_
          refine qj_val (wn0 rfl) rfl rfl (y_pick_f rfl rfl) ?_
          refine qj_val (wn0 rfl) rfl rfl (y_move rfl) ?_
          refine qj_val (wn1 rfl rfl rfl rfl) rfl rfl (y_move rfl) ?_
          refine qj_val (wn1 rfl rfl rfl rfl) rfl rfl (y_call Try.call12 rfl (waits_q bd ud2 ⟨rs2 ++ rw2, rs2.length, fu2, bo2, dn2⟩ ⟨by simp, by simp only [List.length_append]; omega⟩) (by (repeat (first | exact Split.nil _ | (apply Split.cons; focus (repeat (first | exact Find.head _ | apply Find.tail))))))) ?_
          refine qj_val (wn1 rfl rfl rfl rfl) rfl rfl (y_move rfl) ?_
          refine qj_val (wn1 rfl rfl rfl rfl) rfl rfl (y_nilCheck rfl) ?_
          refine qj_val (wn1 rfl rfl rfl rfl) rfl rfl (y_fieldAddr Try.underlying43 rfl (n := 1) (by decide) Try.sizeOf9 rfl) ?_
          first | refine qj_val (wn1 rfl rfl rfl rfl) rfl rfl (y_load ⟨Try.isAgg9, Try.sizeOf9⟩ rfl (by ((repeat (first | exact Find.head _ | apply Find.tail)); done)) rfl) ?_ | refine qj_val (wn1 rfl rfl rfl rfl) rfl rfl (y_load_slc ⟨Try.isAgg9, Try.sizeOf9⟩ rfl (by ((repeat (first | exact Find.head _ | apply Find.tail)); done)) rfl) ?_
          refine qj_val (wn1 rfl rfl rfl rfl) rfl rfl (y_slen Try.underlying9 rfl) ?_
          refine qj_val (wn1 rfl rfl rfl rfl) rfl rfl (y_neq rfl rfl) ?_
          refine qj_eq 104 rfl (v' := .bool false) (by simp <;> omega) ?_
          refine qj_val (wn0 rfl) rfl rfl (y_pick_f rfl rfl) ?_
          refine qj_val (wn0 rfl) rfl rfl (y_move rfl) ?_
          refine qj_val (wn1 rfl rfl rfl rfl) rfl rfl (y_move rfl) ?_
          refine qj_val (wn1 rfl rfl rfl rfl) rfl rfl (y_nilCheck rfl) ?_
          refine qj_val (wn1 rfl rfl rfl rfl) rfl rfl (y_fieldAddr Try.underlying43 rfl (n := 1) (by decide) Try.sizeOf4 rfl) ?_
          first | refine qj_val (wn1 rfl rfl rfl rfl) rfl rfl (y_load ⟨Try.isAgg4, Try.sizeOf4⟩ rfl (by ((repeat (first | exact Find.head _ | apply Find.tail)); done)) rfl) ?_ | refine qj_val (wn1 rfl rfl rfl rfl) rfl rfl (y_load_slc ⟨Try.isAgg4, Try.sizeOf4⟩ rfl (by ((repeat (first | exact Find.head _ | apply Find.tail)); done)) rfl) ?_
          refine qj_val (wn1 rfl rfl rfl rfl) rfl rfl (y_move rfl) ?_
          refine qj_part 111 rfl (fun hg111 => ?_) (fun hg111 => ?_)
          · subst hg111
            refine qj_val (wn1 rfl rfl rfl rfl) rfl rfl (y_move rfl) ?_
            refine qj_val (wn1 rfl rfl rfl rfl) rfl rfl (y_neq rfl rfl) ?_
            refine qj_val (wn1 rfl rfl rfl rfl) rfl rfl (y_move rfl) ?_
            refine qj_val (wn1 rfl rfl rfl rfl) rfl rfl (y_move rfl) ?_
            refine qj_val (wn1 rfl rfl rfl rfl) rfl rfl (y_sneq rfl rfl) ?_
            refine qj_val (wn1 rfl rfl rfl rfl) rfl rfl (y_pick_f rfl rfl) ?_
            refine qj_val (wn1 rfl rfl rfl rfl) rfl rfl (y_pick_t rfl rfl) ?_
            refine qj_val (wn0 rfl) rfl rfl (y_pick_f rfl rfl) ?_
            refine qj_val (wn0 rfl) rfl rfl (y_move rfl) ?_
            refine qj_val (wn1 rfl rfl rfl rfl) rfl rfl (y_move rfl) ?_
            refine qj_val (wn1 rfl rfl rfl rfl) rfl rfl (y_nilCheck rfl) ?_
            refine qj_val (wn1 rfl rfl rfl rfl) rfl rfl (y_fieldAddr Try.underlying43 rfl (n := 1) (by decide) Try.sizeOf4 rfl) ?_
            first | refine qj_val (wn1 rfl rfl rfl rfl) rfl rfl (y_load ⟨Try.isAgg4, Try.sizeOf4⟩ rfl (by ((repeat (first | exact Find.head _ | apply Find.tail)); done)) rfl) ?_ | refine qj_val (wn1 rfl rfl rfl rfl) rfl rfl (y_load_slc ⟨Try.isAgg4, Try.sizeOf4⟩ rfl (by ((repeat (first | exact Find.head _ | apply Find.tail)); done)) rfl) ?_
            refine qj_val (wn1 rfl rfl rfl rfl) rfl rfl (y_not rfl) ?_
            refine qj_val (wn1 rfl rfl rfl rfl) rfl rfl (y_move rfl) ?_
            refine qj_skip (wn2 rfl rfl rfl rfl rfl) rfl rfl ?_
            refine qj_skip (wn2 rfl rfl rfl rfl rfl) rfl rfl ?_
            refine qj_skip (wn2 rfl rfl rfl rfl rfl) rfl rfl ?_
            refine qj_skip (wn3 rfl rfl rfl rfl) rfl rfl ?_
            refine qj_skip (wn3 rfl rfl rfl rfl) rfl rfl ?_
            refine qj_skip (wn3 rfl rfl rfl rfl) rfl rfl ?_
            refine qj_skip (wn3 rfl rfl rfl rfl) rfl rfl ?_
            refine qj_skip (wn3 rfl rfl rfl rfl) rfl rfl ?_
            refine qj_skip (wn3 rfl rfl rfl rfl) rfl rfl ?_
            refine qj_skip (wn3 rfl rfl rfl rfl) rfl rfl ?_
            refine qj_skip (wn3 rfl rfl rfl rfl) rfl rfl ?_
            refine qj_skip (wn3 rfl rfl rfl rfl) rfl rfl ?_
            refine qj_skip (wn3 rfl rfl rfl rfl) rfl rfl ?_
            refine qj_skip (wn3 rfl rfl rfl rfl) rfl rfl ?_
            refine qj_skip (wn2 rfl rfl rfl rfl rfl) rfl rfl ?_
            refine qj_val (wn1 rfl rfl rfl rfl) rfl rfl (y_pick_f rfl rfl) ?_
            refine qj_val (wn0 rfl) rfl rfl (y_pick_f rfl rfl) ?_
            refine qj_nil ?_
            refine hK23 _ _ _ ?_
            refine cj_env (Env.le_cons (t := 3) rfl (Env.le_cons (t := 4) rfl (Env.le_cons (t := 17) rfl (Env.le_cons (t := 18) rfl (Env.le_cons (t := 19) rfl (Env.le_cons (t := 143) rfl (Env.le_nil _))))))) ?_
            refine cj_cond_f rfl ?_
            refine cj_skip ?_
            refine hK14 _ _ _ ?_
            refine cj_region ?_
            first | refine rj_val (wn0 rfl) rfl rfl (y_add64 rfl rfl (by (first | omega | (dsimp only; omega)))) ?_ | refine rj_val (wn0 rfl) rfl rfl (y_add rfl rfl) ?_
            refine rj_val (wn0 rfl) rfl rfl (y_move rfl) ?_
            refine rj_nil ?_
            refine ej_on (q' := roundK _ _ _ _ _ _ _) rfl ?_
            refine ej_round ((i + 1, ⟨rs2 ++ rw2, rs2.length, fu2, bo2, _⟩, ⟨rs2, rw2, rf2, _⟩, ud2)) (⟨by simp only; omega, hrel2, by simp only; omega⟩) (by simp only; omega) (Env.le_cons rfl (Env.le_cons rfl (Env.le_cons rfl (Env.le_cons rfl (Env.le_cons rfl (Env.le_nil _)))))) rfl (by (repeat (first | exact Sub.refl _ | (apply Sub.pick; focus (repeat (first | exact Find.head _ | apply Find.tail))) | apply Sub.drop)))
          · subst hg111
            refine qj_skip (wn2 rfl rfl rfl rfl rfl) rfl rfl ?_
            refine qj_skip (wn2 rfl rfl rfl rfl rfl) rfl rfl ?_
            refine qj_skip (wn2 rfl rfl rfl rfl rfl) rfl rfl ?_
            refine qj_skip (wn3 rfl rfl rfl rfl) rfl rfl ?_
            refine qj_skip (wn3 rfl rfl rfl rfl) rfl rfl ?_
            refine qj_skip (wn2 rfl rfl rfl rfl rfl) rfl rfl ?_
            refine qj_val (wn1 rfl rfl rfl rfl) rfl rfl (y_pick_f rfl rfl) ?_
            refine qj_val (wn0 rfl) rfl rfl (y_pick_f rfl rfl) ?_
            refine qj_val (wn0 rfl) rfl rfl (y_move rfl) ?_
            refine qj_val (wn1 rfl rfl rfl rfl) rfl rfl (y_move rfl) ?_
            refine qj_val (wn1 rfl rfl rfl rfl) rfl rfl (y_nilCheck rfl) ?_
            refine qj_val (wn1 rfl rfl rfl rfl) rfl rfl (y_fieldAddr Try.underlying43 rfl (n := 1) (by decide) Try.sizeOf4 rfl) ?_
            first | refine qj_val (wn1 rfl rfl rfl rfl) rfl rfl (y_load ⟨Try.isAgg4, Try.sizeOf4⟩ rfl (by ((repeat (first | exact Find.head _ | apply Find.tail)); done)) rfl) ?_ | refine qj_val (wn1 rfl rfl rfl rfl) rfl rfl (y_load_slc ⟨Try.isAgg4, Try.sizeOf4⟩ rfl (by ((repeat (first | exact Find.head _ | apply Find.tail)); done)) rfl) ?_
            refine qj_val (wn1 rfl rfl rfl rfl) rfl rfl (y_not rfl) ?_
            refine qj_val (wn1 rfl rfl rfl rfl) rfl rfl (y_move rfl) ?_
            refine qj_val (wn1 rfl rfl rfl rfl) rfl rfl (y_move rfl) ?_
            refine qj_val (wn1 rfl rfl rfl rfl) rfl rfl (y_neq rfl rfl) ?_
            refine qj_val (wn1 rfl rfl rfl rfl) rfl rfl (y_move rfl) ?_
            refine qj_val (wn1 rfl rfl rfl rfl) rfl rfl (y_move rfl) ?_
            refine qj_val (wn1 rfl rfl rfl rfl) rfl rfl (y_move rfl) ?_
            refine qj_val (wn1 rfl rfl rfl rfl) rfl rfl (y_nilCheck rfl) ?_
            refine qj_val (wn1 rfl rfl rfl rfl) rfl rfl (y_fieldAddr Try.underlying43 rfl (n := 1) (by decide) Try.sizeOf9 rfl) ?_
            first | refine qj_val (wn1 rfl rfl rfl rfl) rfl rfl (y_load ⟨Try.isAgg9, Try.sizeOf9⟩ rfl (by ((repeat (first | exact Find.head _ | apply Find.tail)); done)) rfl) ?_ | refine qj_val (wn1 rfl rfl rfl rfl) rfl rfl (y_load_slc ⟨Try.isAgg9, Try.sizeOf9⟩ rfl (by ((repeat (first | exact Find.head _ | apply Find.tail)); done)) rfl) ?_
            refine qj_val (wn1 rfl rfl rfl rfl) rfl rfl (y_move rfl) ?_
            refine qj_val (wn1 rfl rfl rfl rfl) rfl rfl (y_nilCheck rfl) ?_
            refine qj_val (wn1 rfl rfl rfl rfl) rfl rfl (y_fieldAddr Try.underlying43 rfl (n := 1) (by decide) Try.sizeOf9 rfl) ?_
            first | refine qj_val (wn1 rfl rfl rfl rfl) rfl rfl (y_load ⟨Try.isAgg9, Try.sizeOf9⟩ rfl (by ((repeat (first | exact Find.head _ | apply Find.tail)); done)) rfl) ?_ | refine qj_val (wn1 rfl rfl rfl rfl) rfl rfl (y_load_slc ⟨Try.isAgg9, Try.sizeOf9⟩ rfl (by ((repeat (first | exact Find.head _ | apply Find.tail)); done)) rfl) ?_
            refine qj_val (wn1 rfl rfl rfl rfl) rfl rfl (y_sadd rfl rfl (by (first | omega | (dsimp only; omega)))) ?_
            refine qj_val (wn1 rfl rfl rfl rfl) rfl rfl (y_sneq rfl rfl) ?_
            refine qj_eq 140 rfl (v' := .bool false) (by simp) ?_
            refine qj_val (wn1 rfl rfl rfl rfl) rfl rfl (y_pick_f rfl rfl) ?_
            refine qj_val (wn1 rfl rfl rfl rfl) rfl rfl (y_pick_t rfl rfl) ?_
            refine qj_val (wn0 rfl) rfl rfl (y_pick_f rfl rfl) ?_
            refine qj_nil ?_
            refine hK23 _ _ _ ?_
            refine cj_env (Env.le_cons (t := 3) rfl (Env.le_cons (t := 4) rfl (Env.le_cons (t := 17) rfl (Env.le_cons (t := 18) rfl (Env.le_cons (t := 19) rfl (Env.le_cons (t := 143) rfl (Env.le_nil _))))))) ?_
            refine cj_cond_f rfl ?_
            refine cj_skip ?_
            refine hK14 _ _ _ ?_
            refine cj_region ?_
            first | refine rj_val (wn0 rfl) rfl rfl (y_add64 rfl rfl (by (first | omega | (dsimp only; omega)))) ?_ | refine rj_val (wn0 rfl) rfl rfl (y_add rfl rfl) ?_
            refine rj_val (wn0 rfl) rfl rfl (y_move rfl) ?_
            refine rj_nil ?_
            refine ej_on (q' := roundK _ _ _ _ _ _ _) rfl ?_
            refine ej_round ((i + 1, ⟨rs2 ++ rw2, rs2.length, fu2, bo2, _⟩, ⟨rs2, rw2, rf2, _⟩, ud2)) (⟨by simp only; omega, hrel2, by simp only; omega⟩) (by simp only; omega) (Env.le_cons rfl (Env.le_cons rfl (Env.le_cons rfl (Env.le_cons rfl (Env.le_cons rfl (Env.le_nil _)))))) rfl (by (repeat (first | exact Sub.refl _ | (apply Sub.pick; focus (repeat (first | exact Find.head _ | apply Find.tail))) | apply Sub.drop)))
        refine cj_seq (fun K24 hK24 => ?_)
        refine cj_region ?_
        refine rj_val (wn0 rfl) rfl rfl (y_fieldAddr Try.underlying40 rfl (n := 1) (by decide) Try.sizeOf3 rfl) ?_
        first | refine rj_val (wn0 rfl) rfl rfl (y_load ⟨Try.isAgg3, Try.sizeOf3⟩ rfl (by ((repeat (first | exact Find.head _ | apply Find.tail)); done)) rfl) ?_ | refine rj_val (wn0 rfl) rfl rfl (y_load_slc ⟨Try.isAgg3, Try.sizeOf3⟩ rfl (by ((repeat (first | exact Find.head _ | apply Find.tail)); done)) rfl) ?_
        refine rj_nil ?_
        refine hK24 _ _ _ ?_
        refine cj_block ?_
        refine cj_seq (fun K25 hK25 => ?_)
        refine cj_region ?_
        refine rj_val (wn0 rfl) rfl rfl (y_eql rfl rfl) ?_
        refine rj_val (wn0 rfl) rfl rfl (y_assign rfl) ?_
        refine rj_nil ?_
        refine hK25 _ _ _ ?_
        refine cj_env (Env.le_cons (t := 3) rfl (Env.le_cons (t := 4) rfl (Env.le_cons (t := 6) rfl (Env.le_cons (t := 7) rfl (Env.le_cons (t := 17) rfl (Env.le_cons (t := 18) rfl (Env.le_cons (t := 19) rfl (Env.le_cons (t := 28) rfl (Env.le_cons (t := 29) rfl (Env.le_nil _)))))))))) ?_
        refine cj_cond rfl (fun hc29 => ?_) (fun hc29 => ?_)
        · try simp only [decide_eq_true_eq, decide_eq_false_iff_not, Bool.not_eq_true', Bool.not_eq_false', Bool.true_eq_false, Bool.false_eq_true] at hc29
          refine cj_mixg (L := [blk b6 [.int .i64 what, .int .i64 n, .string (str s)] 40]) [0, 1, 2, 4, 5, 6] [3] [7, 8, 9] _ (by (repeat (first | exact Sub.refl _ | (apply Sub.pick; focus (repeat (first | exact Find.head _ | apply Find.tail))) | apply Sub.drop))) (by kernel_rfl) (by kernel_rfl) rfl ?_
          refine fj_val rfl rfl rfl (wn0 rfl) (fun G => (y_move rfl)) ?_
          refine fj_val rfl rfl rfl (wn0 rfl) (fun G => (y_fieldAddr Try.underlying40 rfl (n := 1) (by decide) Try.sizeOf9 rfl)) ?_
          first | refine fj_val rfl rfl rfl (wn0 rfl) (fun G => (y_load ⟨Try.isAgg9, Try.sizeOf9⟩ rfl (by ((repeat (first | exact Find.head _ | apply Find.tail)); done)) rfl)) ?_ | refine fj_val rfl rfl rfl (wn0 rfl) (fun G => (y_load_slc ⟨Try.isAgg9, Try.sizeOf9⟩ rfl (by ((repeat (first | exact Find.head _ | apply Find.tail)); done)) rfl)) ?_
          refine fj_val rfl rfl rfl (wn0 rfl) (fun G => (y_move rfl)) ?_
          refine fj_val rfl rfl rfl (wn0 rfl) (fun G => (y_fieldAddr Try.underlying40 rfl (n := 1) (by decide) Try.sizeOf9 rfl)) ?_
          first | refine fj_val rfl rfl rfl (wn0 rfl) (fun G => (y_load ⟨Try.isAgg9, Try.sizeOf9⟩ rfl (by ((repeat (first | exact Find.head _ | apply Find.tail)); done)) rfl)) ?_ | refine fj_val rfl rfl rfl (wn0 rfl) (fun G => (y_load_slc ⟨Try.isAgg9, Try.sizeOf9⟩ rfl (by ((repeat (first | exact Find.head _ | apply Find.tail)); done)) rfl)) ?_
          refine fj_nil ?_
          refine xj_call2 rfl rfl (wn0 rfl) Try.call8 rfl (append_t bd ud D 100000 (hrel.ok (by omega)) s (by omega)) (by (repeat (first | exact Split.nil _ | (apply Split.cons; focus (repeat (first | exact Find.head _ | apply Find.tail)))))) ?_
          rintro v R' L' hR ⟨rfl, rfl, u2, rfl⟩
          obtain ⟨k1, k2, k3⟩ := hrel.append s
          refine ⟨rfl, ?_⟩
          try simp only [List.cons_append, List.nil_append]
          refine xj_nil ?_
          try simp only [List.cons_append, List.nil_append, List.append_nil]
          refine rj_call (wn0 rfl) rfl Try.call14 rfl (rappend_t br X hfu s (by omega)) (by (repeat (first | exact Split.nil _ | (apply Split.cons; focus (repeat (first | exact Find.head _ | apply Find.tail)))))) (fun _ _ _ _ h => h.elim) ?_
          rintro v R' L' hR ⟨rfl, rfl, rfl⟩
          try simp only [List.cons_append, List.nil_append]
          refine rj_val (wn0 rfl) rfl rfl (y_eql rfl rfl) ?_
          refine rj_eq 39 rfl (v' := .bool true) (by simp [k1]) ?_
          refine rj_val (wn0 rfl) rfl rfl (y_assign rfl) ?_
          refine rj_nil ?_
          refine ej_join hJ25 (((D.append s).2, (X.append s).2, u2)) (⟨k2, by dsimp only; omega⟩) (Env.le_cons rfl (Env.le_cons rfl (Env.le_cons rfl (Env.le_cons rfl (Env.le_cons rfl (Env.le_cons rfl (Env.le_nil _))))))) rfl (by (repeat (first | exact Sub.refl _ | (apply Sub.pick; focus (repeat (first | exact Find.head _ | apply Find.tail))) | apply Sub.drop)))
        · try simp only [decide_eq_true_eq, decide_eq_false_iff_not, Bool.not_eq_true', Bool.not_eq_false', Bool.true_eq_false, Bool.false_eq_true] at hc29
          refine cj_seq (fun K27 hK27 => ?_)
          refine cj_region ?_
          refine rj_val (wn0 rfl) rfl rfl (y_eql rfl rfl) ?_
          refine rj_val (wn0 rfl) rfl rfl (y_assign rfl) ?_
          refine rj_nil ?_
          refine hK27 _ _ _ ?_
          refine cj_cond rfl (fun hc40 => ?_) (fun hc40 => ?_)
          · try simp only [decide_eq_true_eq, decide_eq_false_iff_not, Bool.not_eq_true', Bool.not_eq_false', Bool.true_eq_false, Bool.false_eq_true] at hc40
            refine cj_region ?_
            refine rj_val (wn0 rfl) rfl rfl (y_move rfl) ?_
            refine rj_call (wn0 rfl) rfl Try.call9 rfl (sync_t bd ud D 100000 (hrel.ok (by omega))) (by (repeat (first | exact Split.nil _ | (apply Split.cons; focus (repeat (first | exact Find.head _ | apply Find.tail)))))) (fun _ _ _ _ h => h.elim) ?_
            rintro v R' L' hR ⟨rfl, rfl, u2, rfl⟩
            obtain ⟨k1, k2, k3⟩ := hrel.sync
            try simp only [List.cons_append, List.nil_append]
            refine rj_val (wn0 rfl) rfl rfl (y_move rfl) ?_
            refine rj_call (wn0 rfl) rfl Try.call15 rfl (rsync_t br X hfu (by omega)) (by (repeat (first | exact Split.nil _ | (apply Split.cons; focus (repeat (first | exact Find.head _ | apply Find.tail)))))) (fun _ _ _ _ h => h.elim) ?_
            rintro v R' L' hR ⟨rfl, rfl, rfl⟩
            try simp only [List.cons_append, List.nil_append]
            refine rj_val (wn0 rfl) rfl rfl (y_eql rfl rfl) ?_
            refine rj_eq 46 rfl (v' := .bool true) (by simp [k1]) ?_
            refine rj_val (wn0 rfl) rfl rfl (y_assign rfl) ?_
            refine rj_nil ?_
            refine ej_join hJ25 ((D.sync.2, X.sync.2, u2)) (⟨k2, by dsimp only; omega⟩) (Env.le_cons rfl (Env.le_cons rfl (Env.le_cons rfl (Env.le_cons rfl (Env.le_cons rfl (Env.le_cons rfl (Env.le_nil _))))))) rfl (by (repeat (first | exact Sub.refl _ | (apply Sub.pick; focus (repeat (first | exact Find.head _ | apply Find.tail))) | apply Sub.drop)))
          · try simp only [decide_eq_true_eq, decide_eq_false_iff_not, Bool.not_eq_true', Bool.not_eq_false', Bool.true_eq_false, Bool.false_eq_true] at hc40
            refine cj_seq (fun K29 hK29 => ?_)
            refine cj_region ?_
            refine rj_val (wn0 rfl) rfl rfl (y_eql rfl rfl) ?_
            refine rj_val (wn0 rfl) rfl rfl (y_assign rfl) ?_
            refine rj_nil ?_
            refine hK29 _ _ _ ?_
            refine cj_env (Env.le_cons (t := 3) rfl (Env.le_cons (t := 4) rfl (Env.le_cons (t := 6) rfl (Env.le_cons (t := 7) rfl (Env.le_cons (t := 17) rfl (Env.le_cons (t := 18) rfl (Env.le_cons (t := 19) rfl (Env.le_cons (t := 28) rfl (Env.le_cons (t := 47) rfl (Env.le_nil _)))))))))) ?_
            refine cj_cond rfl (fun hc47 => ?_) (fun hc47 => ?_)
            · try simp only [decide_eq_true_eq, decide_eq_false_iff_not, Bool.not_eq_true', Bool.not_eq_false', Bool.true_eq_false, Bool.false_eq_true] at hc47
              refine cj_mixg (L := [blk b6 [.int .i64 what, .int .i64 n, .string (str s)] 40]) [0, 1, 2, 4, 5, 6] [3] [7, 8, 9] _ (by (repeat (first | exact Sub.refl _ | (apply Sub.pick; focus (repeat (first | exact Find.head _ | apply Find.tail))) | apply Sub.drop))) (by kernel_rfl) (by kernel_rfl) rfl ?_
              refine fj_val rfl rfl rfl (wn0 rfl) (fun G => (y_move rfl)) ?_
              refine fj_val rfl rfl rfl (wn0 rfl) (fun G => (y_fieldAddr Try.underlying40 rfl (n := 1) (by decide) Try.sizeOf9 rfl)) ?_
              first | refine fj_val rfl rfl rfl (wn0 rfl) (fun G => (y_load ⟨Try.isAgg9, Try.sizeOf9⟩ rfl (by ((repeat (first | exact Find.head _ | apply Find.tail)); done)) rfl)) ?_ | refine fj_val rfl rfl rfl (wn0 rfl) (fun G => (y_load_slc ⟨Try.isAgg9, Try.sizeOf9⟩ rfl (by ((repeat (first | exact Find.head _ | apply Find.tail)); done)) rfl)) ?_
              refine fj_val rfl rfl rfl (wn0 rfl) (fun G => (y_move rfl)) ?_
              refine fj_val rfl rfl rfl (wn0 rfl) (fun G => (y_fieldAddr Try.underlying40 rfl (n := 1) (by decide) Try.sizeOf9 rfl)) ?_
              first | refine fj_val rfl rfl rfl (wn0 rfl) (fun G => (y_load ⟨Try.isAgg9, Try.sizeOf9⟩ rfl (by ((repeat (first | exact Find.head _ | apply Find.tail)); done)) rfl)) ?_ | refine fj_val rfl rfl rfl (wn0 rfl) (fun G => (y_load_slc ⟨Try.isAgg9, Try.sizeOf9⟩ rfl (by ((repeat (first | exact Find.head _ | apply Find.tail)); done)) rfl)) ?_
              refine fj_nil ?_
              refine xj_call2 rfl rfl (wn0 rfl) Try.call16 rfl (swap_t bd ud D 100000 (hrel.ok (by omega)) s (by omega)) (by (repeat (first | exact Split.nil _ | (apply Split.cons; focus (repeat (first | exact Find.head _ | apply Find.tail)))))) ?_
              rintro v R' L' hR ⟨rfl, rfl, u2, rfl⟩
              obtain ⟨k1, k2, k3⟩ := hrel.swap s
              refine ⟨rfl, ?_⟩
              try simp only [List.cons_append, List.nil_append]
              refine xj_nil ?_
              try simp only [List.cons_append, List.nil_append, List.append_nil]
              refine rj_call (wn0 rfl) rfl Try.call17 rfl (rswap_t br X hfu s) (by (repeat (first | exact Split.nil _ | (apply Split.cons; focus (repeat (first | exact Find.head _ | apply Find.tail)))))) (fun _ _ _ _ h => h.elim) ?_
              rintro v R' L' hR ⟨rfl, rfl, rfl⟩
              try simp only [List.cons_append, List.nil_append]
              refine rj_val (wn0 rfl) rfl rfl (y_eql rfl rfl) ?_
              refine rj_eq 57 rfl (v' := .bool true) (by simp [k1]) ?_
              refine rj_val (wn0 rfl) rfl rfl (y_assign rfl) ?_
              refine rj_nil ?_
              refine ej_join hJ25 (((D.swap s).2, (X.swap s).2, u2)) (⟨k2, by dsimp only; omega⟩) (Env.le_cons rfl (Env.le_cons rfl (Env.le_cons rfl (Env.le_cons rfl (Env.le_cons rfl (Env.le_cons rfl (Env.le_nil _))))))) rfl (by (repeat (first | exact Sub.refl _ | (apply Sub.pick; focus (repeat (first | exact Find.head _ | apply Find.tail))) | apply Sub.drop)))
            · try simp only [decide_eq_true_eq, decide_eq_false_iff_not, Bool.not_eq_true', Bool.not_eq_false', Bool.true_eq_false, Bool.false_eq_true] at hc47
              refine cj_seq (fun K31 hK31 => ?_)
              refine cj_region ?_
              refine rj_val (wn0 rfl) rfl rfl (y_eql rfl rfl) ?_
              refine rj_val (wn0 rfl) rfl rfl (y_assign rfl) ?_
              refine rj_nil ?_
              refine hK31 _ _ _ ?_
              refine cj_cond rfl (fun hc58 => ?_) (fun hc58 => ?_)
              · try simp only [decide_eq_true_eq, decide_eq_false_iff_not, Bool.not_eq_true', Bool.not_eq_false', Bool.true_eq_false, Bool.false_eq_true] at hc58
                refine cj_seq (fun K33 hK33 => ?_)
                refine cj_region ?_
                refine rj_val (wn0 rfl) rfl rfl (y_move rfl) ?_
                refine rj_val (wn0 rfl) rfl rfl (y_fieldAddr Try.underlying40 rfl (n := 1) (by decide) Try.sizeOf3 rfl) ?_
                first | refine rj_val (wn0 rfl) rfl rfl (y_load ⟨Try.isAgg3, Try.sizeOf3⟩ rfl (by ((repeat (first | exact Find.head _ | apply Find.tail)); done)) rfl) ?_ | refine rj_val (wn0 rfl) rfl rfl (y_load_slc ⟨Try.isAgg3, Try.sizeOf3⟩ rfl (by ((repeat (first | exact Find.head _ | apply Find.tail)); done)) rfl) ?_
                refine rj_call (wn0 rfl) rfl Try.call18 rfl (fuel_t bd ud D n) (by (repeat (first | exact Split.nil _ | (apply Split.cons; focus (repeat (first | exact Find.head _ | apply Find.tail)))))) (fun _ _ _ _ h => h.elim) ?_
                rintro v R' L' hR ⟨rfl, rfl⟩
                try simp only [List.cons_append, List.nil_append]
                refine rj_nil ?_
                refine hK33 _ _ _ ?_
                refine cj_env (Env.le_cons (t := 3) rfl (Env.le_cons (t := 4) rfl (Env.le_cons (t := 6) rfl (Env.le_cons (t := 7) rfl (Env.le_cons (t := 17) rfl (Env.le_cons (t := 18) rfl (Env.le_cons (t := 19) rfl (Env.le_nil _)))))))) ?_
                refine cj_region ?_
                refine rj_val (wn0 rfl) rfl rfl (y_move rfl) ?_
                refine rj_val (wn0 rfl) rfl rfl (y_fieldAddr Try.underlying40 rfl (n := 1) (by decide) Try.sizeOf3 rfl) ?_
                first | refine rj_val (wn0 rfl) rfl rfl (y_load ⟨Try.isAgg3, Try.sizeOf3⟩ rfl (by ((repeat (first | exact Find.head _ | apply Find.tail)); done)) rfl) ?_ | refine rj_val (wn0 rfl) rfl rfl (y_load_slc ⟨Try.isAgg3, Try.sizeOf3⟩ rfl (by ((repeat (first | exact Find.head _ | apply Find.tail)); done)) rfl) ?_
                refine rj_val (wn0 rfl) rfl rfl (y_max rfl rfl) ?_
                refine rj_val (wn0 rfl) rfl rfl (y_nilCheck rfl) ?_
                refine rj_val (wn0 rfl) rfl rfl (y_fieldAddr Try.underlying43 rfl (n := 1) (by decide) Try.sizeOf3 rfl) ?_
                refine rj_store ⟨Try.isAgg3, Try.sizeOf3⟩ (wn0 rfl) rfl rfl (by (first | rfl | assumption | (apply cutV_one; assumption))) (by ((repeat (first | exact Find.head _ | apply Find.tail)); done)) rfl rfl ?_
                refine rj_nil ?_
                refine ej_join hJ25 ((D.setFuel n, { X with fuel := max n (-1) }, ud)) (⟨hrel.setFuel n bd4, by show D.b.length ≤ _; omega⟩) (Env.le_cons rfl (Env.le_cons rfl (Env.le_cons rfl (Env.le_cons rfl (Env.le_cons rfl (Env.le_cons rfl (Env.le_nil _))))))) rfl (by (repeat (first | exact Sub.refl _ | (apply Sub.pick; focus (repeat (first | exact Find.head _ | apply Find.tail))) | apply Sub.drop)))
              · try simp only [decide_eq_true_eq, decide_eq_false_iff_not, Bool.not_eq_true', Bool.not_eq_false', Bool.true_eq_false, Bool.false_eq_true] at hc58
                refine cj_seq (fun K34 hK34 => ?_)
                refine cj_region ?_
                refine rj_val (wn0 rfl) rfl rfl (y_eql rfl rfl) ?_
                refine rj_val (wn0 rfl) rfl rfl (y_assign rfl) ?_
                refine rj_nil ?_
                refine hK34 _ _ _ ?_
                refine cj_env (Env.le_cons (t := 3) rfl (Env.le_cons (t := 4) rfl (Env.le_cons (t := 6) rfl (Env.le_cons (t := 7) rfl (Env.le_cons (t := 17) rfl (Env.le_cons (t := 18) rfl (Env.le_cons (t := 19) rfl (Env.le_cons (t := 70) rfl (Env.le_nil _))))))))) ?_
                refine cj_cond rfl (fun hc70 => ?_) (fun hc70 => ?_)
                · try simp only [decide_eq_true_eq, decide_eq_false_iff_not, Bool.not_eq_true', Bool.not_eq_false', Bool.true_eq_false, Bool.false_eq_true] at hc70
                  refine cj_seq (fun K36 hK36 => ?_)
                  refine cj_region ?_
                  refine rj_val (wn0 rfl) rfl rfl (y_move rfl) ?_
                  refine rj_val (wn0 rfl) rfl rfl (y_fieldAddr Try.underlying40 rfl (n := 1) (by decide) Try.sizeOf3 rfl) ?_
                  first | refine rj_val (wn0 rfl) rfl rfl (y_load ⟨Try.isAgg3, Try.sizeOf3⟩ rfl (by ((repeat (first | exact Find.head _ | apply Find.tail)); done)) rfl) ?_ | refine rj_val (wn0 rfl) rfl rfl (y_load_slc ⟨Try.isAgg3, Try.sizeOf3⟩ rfl (by ((repeat (first | exact Find.head _ | apply Find.tail)); done)) rfl) ?_
                  refine rj_call (wn0 rfl) rfl Try.call10 rfl (crash_t bd ud D 100000 (hrel.ok (by omega)) (by omega) n) (by (repeat (first | exact Split.nil _ | (apply Split.cons; focus (repeat (first | exact Find.head _ | apply Find.tail)))))) (fun _ _ _ _ h => h.elim) ?_
                  rintro v R' L' hR ⟨rfl, u2, rfl⟩
                  obtain ⟨k2, k3⟩ := hrel.crash n
                  try simp only [List.cons_append, List.nil_append]
                  refine rj_nil ?_
                  refine hK36 _ _ _ ?_
                  refine cj_env (Env.le_cons (t := 3) rfl (Env.le_cons (t := 4) rfl (Env.le_cons (t := 6) rfl (Env.le_cons (t := 7) rfl (Env.le_cons (t := 17) rfl (Env.le_cons (t := 18) rfl (Env.le_cons (t := 19) rfl (Env.le_nil _)))))))) ?_
                  refine cj_region ?_
                  refine rj_val (wn0 rfl) rfl rfl (y_move rfl) ?_
                  refine rj_val (wn0 rfl) rfl rfl (y_fieldAddr Try.underlying40 rfl (n := 1) (by decide) Try.sizeOf3 rfl) ?_
                  first | refine rj_val (wn0 rfl) rfl rfl (y_load ⟨Try.isAgg3, Try.sizeOf3⟩ rfl (by ((repeat (first | exact Find.head _ | apply Find.tail)); done)) rfl) ?_ | refine rj_val (wn0 rfl) rfl rfl (y_load_slc ⟨Try.isAgg3, Try.sizeOf3⟩ rfl (by ((repeat (first | exact Find.head _ | apply Find.tail)); done)) rfl) ?_
                  refine rj_call (wn0 rfl) rfl Try.call19 rfl (rcrash_t br X (by omega) n) (by (repeat (first | exact Split.nil _ | (apply Split.cons; focus (repeat (first | exact Find.head _ | apply Find.tail)))))) (fun _ _ _ _ h => h.elim) ?_
                  rintro v R' L' hR ⟨rfl, rfl⟩
                  try simp only [List.cons_append, List.nil_append]
                  refine rj_nil ?_
                  refine ej_join hJ25 ((D.crash n, X.crash n, u2)) (⟨k2, by dsimp only; omega⟩) (Env.le_cons rfl (Env.le_cons rfl (Env.le_cons rfl (Env.le_cons rfl (Env.le_cons rfl (Env.le_cons rfl (Env.le_nil _))))))) rfl (by (repeat (first | exact Sub.refl _ | (apply Sub.pick; focus (repeat (first | exact Find.head _ | apply Find.tail))) | apply Sub.drop)))
                · try simp only [decide_eq_true_eq, decide_eq_false_iff_not, Bool.not_eq_true', Bool.not_eq_false', Bool.true_eq_false, Bool.false_eq_true] at hc70
                  refine cj_skip ?_
                  refine ej_join hJ25 ((D, X, ud)) (⟨hrel, by show D.b.length ≤ _; omega⟩) (Env.le_cons rfl (Env.le_cons rfl (Env.le_cons rfl (Env.le_cons rfl (Env.le_cons rfl (Env.le_cons rfl (Env.le_nil _))))))) rfl (by (repeat (first | exact Sub.refl _ | (apply Sub.pick; focus (repeat (first | exact Find.head _ | apply Find.tail))) | apply Sub.drop)))
    · try simp only [decide_eq_true_eq, decide_eq_false_iff_not, Bool.not_eq_true', Bool.not_eq_false', Bool.true_eq_false, Bool.false_eq_true] at hc20
      refine cj_exit ?_
      refine hK9 _ _ _ ?_
      refine cj_env (Env.le_nil _) ?_
      refine cj_seq (fun K37 hK37 => ?_)
      refine cj_region ?_
      refine rj_val (wn0 rfl) rfl rfl (y_assign rfl) ?_
      refine rj_nil ?_
      refine hK37 _ _ _ ?_
      refine cj_ret ?_
      refine hret _ _ _ ?_
      apply ej_ret Try.results5 (.cons (rv_tmp rfl) .nil) _ [] (Hp.le_refl _) rfl
      case hp => rfl
      case hS => (repeat (first | exact Sub.refl _ | (apply Sub.pick; focus (repeat (first | exact Find.head _ | apply Find.tail))) | apply Sub.drop))
end V
end Go.Proofs.Ytialiioicbnakaa
