/- What the functions of package tape do, told of the memory they touch. -/
import Derived.Test.YtmgloghpaoodmaaT4p
import Derived.Test.YtmgloghpaoodmaaProg
import Derived.KernelRfl
set_option linter.unusedSimpArgs false
set_option linter.unusedVariables false
namespace Go.Proofs.Ytmgloghpaoodmaa
open Go.RowKit
namespace V
/-- a tape at block b: its bytes, how many were taken -/
@[reducible] def tapeA (b : Nat) (s : List UInt8) (k : Int) : Asn := blk b [.string (str s), .int .i64 k] 53
set_option maxHeartbeats 1000000
theorem new_t {R : Hp} (s : List UInt8) : Tri Try.prog 8 [.string (str s)] R [] (fun v R' L' => R = R' ∧ ∃ b, v = .pointer (some ⟨b, 0, none⟩) ∧ L' = [tapeA b s 0]) := by
  refine tri_of Try.func8 rfl Try.ntmps8 rfl (fun σ F Q hret hend hpan => ?_)
  try simp only [List.cons_append, List.nil_append]
  refine cj_env (Env.le_cons (t := 0) rfl (Env.le_nil _)) ?_
  refine cj_seq (fun K1 hK1 => ?_)
  refine cj_region ?_
  refine rj_val (wn0 rfl) rfl rfl (y_assign rfl) ?_
  refine rj_nil ?_
  refine hK1 _ _ _ ?_
  refine cj_seq (fun K2 hK2 => ?_)
  refine cj_region ?_
  refine rj_val (wn0 rfl) rfl rfl (y_move rfl) ?_
  refine rj_val (wn0 rfl) rfl rfl (y_build (cells := [_, _]) [(0, 1), (1, 1)] Try.underlying53 Try.zeroValue53 (fun _ => rfl) rfl rfl) ?_
  refine rj_box (wn0 rfl) rfl rfl rfl (fun b5 => ?_)
  refine rj_val (wn0 rfl) rfl rfl (y_assign rfl) ?_
  refine rj_nil ?_
  refine hK2 _ _ _ ?_
  refine cj_env (Env.le_cons (t := 2) rfl (Env.le_nil _)) ?_
  refine cj_ret ?_
  refine hret _ _ _ ?_
  apply ej_ret Try.results8 (.cons (rv_tmp rfl) .nil) _ _ (Hp.le_refl _) rfl
  case hp => exact ⟨rfl, _, rfl, rfl⟩
  case hS => (repeat (first | exact Sub.refl _ | (apply Sub.pick; focus (repeat (first | exact Find.head _ | apply Find.tail))) | apply Sub.drop))
theorem load_q {R : Hp} (b : Nat) (s : List UInt8) (k : Int) : QTri Try.prog 15 [.pointer (some ⟨b, 1, none⟩)] R [tapeA b s k] (.int .i64 k) := by
  refine Tri.q ?_
  refine tri_of Try.func15 rfl Try.ntmps15 rfl (fun σ F Q hret hend hpan => ?_)
  try simp only [List.cons_append, List.nil_append]
  refine cj_env (Env.le_cons (t := 0) rfl (Env.le_nil _)) ?_
  refine cj_seq (fun K1 hK1 => ?_)
  refine cj_region ?_
  refine rj_val (wn0 rfl) rfl rfl (y_assign rfl) ?_
  refine rj_nil ?_
  refine hK1 _ _ _ ?_
  refine cj_seq (fun K2 hK2 => ?_)
  refine cj_region ?_
  refine rj_val (wn0 rfl) rfl rfl (y_move rfl) ?_
  refine rj_val (wn0 rfl) rfl rfl (y_nilCheck rfl) ?_
  refine rj_val (wn0 rfl) rfl rfl (y_fieldAddr Try.underlying51 rfl (n := 1) (by decide) Try.sizeOf2 rfl) ?_
  refine rj_val (wn0 rfl) rfl rfl (y_extern rfl (v := .int .i64 k) (fun w hs => run_call_load (P := Try.prog) Try.func17 (by kernel_rfl) (by kernel_rfl) (by kernel_rfl) .i64 (by kernel_rfl) (by rw [hs.blk_cell]; rfl))) ?_
  refine rj_val (wn0 rfl) rfl rfl (y_assign rfl) ?_
  refine rj_nil ?_
  refine hK2 _ _ _ ?_
  refine cj_env (Env.le_cons (t := 2) rfl (Env.le_nil _)) ?_
  refine cj_ret ?_
  refine hret _ _ _ ?_
  apply ej_ret Try.results15 (.cons (rv_tmp rfl) .nil) _ [tapeA b s k] (Hp.le_refl _) rfl
  case hp => exact ⟨rfl, rfl, rfl⟩
  case hS => (repeat (first | exact Sub.refl _ | (apply Sub.pick; focus (repeat (first | exact Find.head _ | apply Find.tail))) | apply Sub.drop))
theorem taken_q {R : Hp} (b : Nat) (s : List UInt8) (k : Int) : QTri Try.prog 11 [.pointer (some ⟨b, 0, none⟩)] R [tapeA b s k] (.int .i64 k) := by
  refine Tri.q ?_
  refine tri_of Try.func11 rfl Try.ntmps11 rfl (fun σ F Q hret hend hpan => ?_)
  try simp only [List.cons_append, List.nil_append]
  refine cj_env (Env.le_cons (t := 0) rfl (Env.le_nil _)) ?_
  refine cj_seq (fun K1 hK1 => ?_)
  refine cj_region ?_
  refine rj_val (wn0 rfl) rfl rfl (y_assign rfl) ?_
  refine rj_nil ?_
  refine hK1 _ _ _ ?_
  refine cj_seq (fun K2 hK2 => ?_)
  refine cj_seq (fun K3 hK3 => ?_)
  refine cj_region ?_
  refine rj_val (wn0 rfl) rfl rfl (y_move rfl) ?_
  refine rj_val (wn0 rfl) rfl rfl (y_peql Try.underlying24 rfl rfl) ?_
  refine rj_nil ?_
  refine hK3 _ _ _ ?_
  refine cj_cond rfl (fun hc4 => ?_) (fun hc4 => ?_)
  · cases hc4
  · try simp only [decide_eq_true_eq, decide_eq_false_iff_not, Bool.not_eq_true', Bool.not_eq_false', Bool.true_eq_false, Bool.false_eq_true] at hc4
    refine cj_skip ?_
    refine hK2 _ _ _ ?_
    refine cj_env (Env.le_cons (t := 0) rfl (Env.le_nil _)) ?_
    refine cj_seq (fun K5 hK5 => ?_)
    refine cj_region ?_
    refine rj_val (wn0 rfl) rfl rfl (y_move rfl) ?_
    refine rj_val (wn0 rfl) rfl rfl (y_nilCheck rfl) ?_
    refine rj_val (wn0 rfl) rfl rfl (y_fieldAddr Try.underlying53 rfl (n := 1) (by decide) Try.sizeOf51 rfl) ?_
    refine rj_val (wn0 rfl) rfl rfl (y_call Try.call15 rfl (load_q b s k) (by (repeat (first | exact Split.nil _ | (apply Split.cons; focus (repeat (first | exact Find.head _ | apply Find.tail))))))) ?_
    refine rj_val (wn0 rfl) rfl rfl (y_assign rfl) ?_
    refine rj_nil ?_
    refine hK5 _ _ _ ?_
    refine cj_env (Env.le_cons (t := 2) rfl (Env.le_nil _)) ?_
    refine cj_ret ?_
    refine hret _ _ _ ?_
    apply ej_ret Try.results11 (.cons (rv_tmp rfl) .nil) _ [tapeA b s k] (Hp.le_refl _) rfl
    case hp => exact ⟨rfl, rfl, rfl⟩
    case hS => (repeat (first | exact Sub.refl _ | (apply Sub.pick; focus (repeat (first | exact Find.head _ | apply Find.tail))) | apply Sub.drop))
theorem left_q {R : Hp} (b : Nat) (s : List UInt8) (k : Int) (h : 0 ≤ k ∧ k ≤ s.length ∧ s.length ≤ 9223372036854775807) : QTri Try.prog 9 [.pointer (some ⟨b, 0, none⟩)] R [tapeA b s k] (.int .i64 (s.length - k)) := by
  refine Tri.q ?_
  obtain ⟨hk0, hk1, hk2⟩ := h
  refine tri_of Try.func9 rfl Try.ntmps9 rfl (fun σ F Q hret hend hpan => ?_)
  try simp only [List.cons_append, List.nil_append]
  refine cj_env (Env.le_cons (t := 0) rfl (Env.le_nil _)) ?_
  refine cj_seq (fun K1 hK1 => ?_)
  refine cj_region ?_
  refine rj_val (wn0 rfl) rfl rfl (y_assign rfl) ?_
  refine rj_nil ?_
  refine hK1 _ _ _ ?_
  refine cj_seq (fun K2 hK2 => ?_)
  refine cj_seq (fun K3 hK3 => ?_)
  refine cj_region ?_
  refine rj_val (wn0 rfl) rfl rfl (y_move rfl) ?_
  refine rj_val (wn0 rfl) rfl rfl (y_peql Try.underlying24 rfl rfl) ?_
  refine rj_nil ?_
  refine hK3 _ _ _ ?_
  refine cj_cond rfl (fun hc4 => ?_) (fun hc4 => ?_)
  · cases hc4
  · try simp only [decide_eq_true_eq, decide_eq_false_iff_not, Bool.not_eq_true', Bool.not_eq_false', Bool.true_eq_false, Bool.false_eq_true] at hc4
    refine cj_skip ?_
    refine hK2 _ _ _ ?_
    refine cj_env (Env.le_cons (t := 0) rfl (Env.le_nil _)) ?_
    refine cj_seq (fun K5 hK5 => ?_)
    refine cj_draw (by kernel_rfl) (by kernel_rfl) ?_
    refine qj_val (wn0 rfl) rfl rfl (y_move rfl) ?_
    refine qj_val (wn0 rfl) rfl rfl (y_nilCheck rfl) ?_
    refine qj_val (wn0 rfl) rfl rfl (y_fieldAddr Try.underlying53 rfl (n := 1) (by decide) Try.sizeOf9 rfl) ?_
    refine qj_val (wn0 rfl) rfl rfl (y_load ⟨Try.isAgg9, Try.sizeOf9⟩ rfl (by (repeat (first | exact Find.head _ | apply Find.tail))) rfl) ?_
    refine qj_val (wn0 rfl) rfl rfl (y_slen Try.underlying9 rfl) ?_
    refine qj_val (wn0 rfl) rfl rfl (y_move rfl) ?_
    refine qj_val (wn0 rfl) rfl rfl (y_call Try.call11 rfl (taken_q b s k) (by (repeat (first | exact Split.nil _ | (apply Split.cons; focus (repeat (first | exact Find.head _ | apply Find.tail))))))) ?_
    first | refine qj_val (wn0 rfl) rfl rfl (y_sub64 rfl rfl (by omega)) ?_ | refine qj_val (wn0 rfl) rfl rfl (y_sub rfl rfl) ?_
    refine qj_val (wn0 rfl) rfl rfl (y_assign rfl) ?_
    refine qj_nil ?_
    refine hK5 _ _ _ ?_
    refine cj_env (Env.le_cons (t := 2) rfl (Env.le_nil _)) ?_
    refine cj_ret ?_
    refine hret _ _ _ ?_
    apply ej_ret Try.results9 (.cons (rv_tmp rfl) .nil) _ [tapeA b s k] (Hp.le_refl _) rfl
    case hp => exact ⟨rfl, rfl, rfl⟩
    case hS => (repeat (first | exact Sub.refl _ | (apply Sub.pick; focus (repeat (first | exact Find.head _ | apply Find.tail))) | apply Sub.drop))
theorem cas_t {R : Hp} (b : Nat) (s : List UInt8) (k n : Int) :
    Tri Try.prog 16 [.pointer (some ⟨b, 1, none⟩), .int .i64 k, .int .i64 n] R [tapeA b s k] (fun v R' L' => v = .bool true ∧ R = R' ∧ L' = [tapeA b s n]) := by
  refine tri_of Try.func16 rfl Try.ntmps16 rfl (fun σ F Q hret hend hpan => ?_)
  try simp only [List.cons_append, List.nil_append]
  refine cj_env (Env.le_cons (t := 0) rfl (Env.le_cons (t := 1) rfl (Env.le_cons (t := 2) rfl (Env.le_nil _)))) ?_
  refine cj_seq (fun K1 hK1 => ?_)
  refine cj_region ?_
  refine rj_val (wn0 rfl) rfl rfl (y_assign rfl) ?_
  refine rj_nil ?_
  refine hK1 _ _ _ ?_
  refine cj_seq (fun K2 hK2 => ?_)
  refine cj_region ?_
  refine rj_val (wn0 rfl) rfl rfl (y_move rfl) ?_
  refine rj_val (wn0 rfl) rfl rfl (y_nilCheck rfl) ?_
  refine rj_val (wn0 rfl) rfl rfl (y_fieldAddr Try.underlying51 rfl (n := 1) (by decide) Try.sizeOf2 rfl) ?_
  refine rj_val (wn0 rfl) rfl rfl (y_move rfl) ?_
  refine rj_val (wn0 rfl) rfl rfl (y_move rfl) ?_
  refine rj_extern (wn0 rfl) rfl rfl (v := .bool true) (fun w hs => ⟨_, run_call_cas_hit (P := Try.prog) Try.func18 (by kernel_rfl) (by kernel_rfl) (by kernel_rfl) .i64 (by kernel_rfl) (by rw [hs.blk_cell]; rfl) (hs.blk_frozen _), hs.blk_set (.int .i64 n)⟩) ?_
  refine rj_val (wn0 rfl) rfl rfl (y_assign rfl) ?_
  refine rj_nil ?_
  refine hK2 _ _ _ ?_
  refine cj_env (Env.le_cons (t := 6) rfl (Env.le_nil _)) ?_
  refine cj_ret ?_
  refine hret _ _ _ ?_
  apply ej_ret Try.results16 (.cons (rv_tmp rfl) .nil) _ _ (Hp.le_refl _) rfl
  case hp => exact ⟨rfl, rfl, rfl⟩
  case hS => (repeat (first | exact Sub.refl _ | (apply Sub.pick; focus (repeat (first | exact Find.head _ | apply Find.tail))) | apply Sub.drop))
theorem take_t {R : Hp} (b : Nat) (s : List UInt8) (k n : Int) (h : 0 ≤ k ∧ k ≤ s.length ∧ s.length ≤ 9223372036854775807) :
    Tri Try.prog 10 [.pointer (some ⟨b, 0, none⟩), .int .i64 n] R [tapeA b s k]
      (fun v R' L' => R = R' ∧ v = .tuple #[.string (str (takeM s k n).1), .int .i64 (takeM s k n).2.1] ∧ L' = [tapeA b s (takeM s k n).2.2]) := by
  obtain ⟨hk0, hk1, hk2⟩ := h
  refine tri_of Try.func10 rfl Try.ntmps10 rfl (fun σ F Q hret hend hpan => ?_)
  try simp only [List.cons_append, List.nil_append]
  refine cj_env (Env.le_cons (t := 0) rfl (Env.le_cons (t := 1) rfl (Env.le_nil _))) ?_
  refine cj_seq (fun K1 hK1 => ?_)
  refine cj_region ?_
  refine rj_val (wn0 rfl) rfl rfl (y_assign rfl) ?_
  refine rj_val (wn0 rfl) rfl rfl (y_assign rfl) ?_
  refine rj_nil ?_
  refine hK1 _ _ _ ?_
  refine cj_seq (fun K2 hK2 => ?_)
  refine cj_block ?_
  refine cj_seq (fun K3 hK3 => ?_)
  refine cj_region ?_
  refine rj_val (wn0 rfl) rfl rfl (y_move rfl) ?_
  refine rj_val (wn0 rfl) rfl rfl (y_peql Try.underlying24 rfl rfl) ?_
  refine rj_val (wn0 rfl) rfl rfl (y_assign rfl) ?_
  refine rj_nil ?_
  refine hK3 _ _ _ ?_
  refine cj_env (Env.le_cons (t := 0) rfl (Env.le_cons (t := 1) rfl (Env.le_cons (t := 7) rfl (Env.le_nil _)))) ?_
  refine cj_cond rfl (fun hc7 => ?_) (fun hc7 => ?_)
  · cases hc7
  · try simp only [decide_eq_true_eq, decide_eq_false_iff_not, Bool.not_eq_true', Bool.not_eq_false', Bool.true_eq_false, Bool.false_eq_true] at hc7
    refine cj_seq (fun K5 hK5 => ?_)
    refine cj_region ?_
    refine rj_val (wn0 rfl) rfl rfl (y_move rfl) ?_
    refine rj_val (wn0 rfl) rfl rfl (y_lss rfl rfl) ?_
    refine rj_val (wn0 rfl) rfl rfl (y_assign rfl) ?_
    refine rj_nil ?_
    refine hK5 _ _ _ ?_
    refine cj_env (Env.le_cons (t := 0) rfl (Env.le_cons (t := 1) rfl (Env.le_cons (t := 10) rfl (Env.le_nil _)))) ?_
    refine cj_cond rfl (fun hc10 => ?_) (fun hc10 => ?_)
    · try simp only [decide_eq_true_eq, decide_eq_false_iff_not, Bool.not_eq_true', Bool.not_eq_false', Bool.true_eq_false, Bool.false_eq_true] at hc10
      refine cj_seq (fun K7 hK7 => ?_)
      refine cj_region ?_
      refine rj_val (wn0 rfl) rfl rfl (y_assign rfl) ?_
      refine rj_val (wn0 rfl) rfl rfl (y_assign rfl) ?_
      refine rj_nil ?_
      refine hK7 _ _ _ ?_
      refine cj_env (Env.le_cons (t := 4) rfl (Env.le_cons (t := 5) rfl (Env.le_nil _))) ?_
      refine cj_ret ?_
      refine hret _ _ _ ?_
      apply ej_ret Try.results10 (.cons (rv_tmp rfl) (.cons (rv_tmp rfl) .nil)) _ _ (Hp.le_refl _) rfl
      case hp => unfold takeM; rw [if_pos hc10]; exact ⟨rfl, rfl, rfl⟩
      case hS => (repeat (first | exact Sub.refl _ | (apply Sub.pick; focus (repeat (first | exact Find.head _ | apply Find.tail))) | apply Sub.drop))
    · try simp only [decide_eq_true_eq, decide_eq_false_iff_not, Bool.not_eq_true', Bool.not_eq_false', Bool.true_eq_false, Bool.false_eq_true] at hc10
      refine cj_skip ?_
      refine hK2 _ _ _ ?_
      refine cj_block ?_
      refine cj_loop_once ?_
      refine cj_block ?_
      refine cj_seq (fun K8 hK8 => ?_)
      refine cj_region ?_
      refine rj_val (wn0 rfl) rfl rfl (y_move rfl) ?_
      refine rj_val (wn0 rfl) rfl rfl (y_nilCheck rfl) ?_
      refine rj_val (wn0 rfl) rfl rfl (y_fieldAddr Try.underlying53 rfl (n := 1) (by decide) Try.sizeOf51 rfl) ?_
      refine rj_val (wn0 rfl) rfl rfl (y_call Try.call15 rfl (load_q b s k) (by (repeat (first | exact Split.nil _ | (apply Split.cons; focus (repeat (first | exact Find.head _ | apply Find.tail))))))) ?_
      refine rj_val (wn0 rfl) rfl rfl (y_assign rfl) ?_
      refine rj_nil ?_
      refine hK8 _ _ _ ?_
      refine cj_env (Env.le_cons (t := 0) rfl (Env.le_cons (t := 1) rfl (Env.le_cons (t := 6) rfl (Env.le_cons (t := 10) rfl (Env.le_nil _))))) ?_
      refine cj_seq (fun K9 hK9 => ?_)
      refine cj_seq (fun K10 hK10 => ?_)
      refine cj_region ?_
      refine rj_val (wn0 rfl) rfl rfl (y_move rfl) ?_
      refine rj_val (wn0 rfl) rfl rfl (y_move rfl) ?_
      refine rj_val (wn0 rfl) rfl rfl (y_nilCheck rfl) ?_
      refine rj_val (wn0 rfl) rfl rfl (y_fieldAddr Try.underlying53 rfl (n := 1) (by decide) Try.sizeOf9 rfl) ?_
      refine rj_val (wn0 rfl) rfl rfl (y_load ⟨Try.isAgg9, Try.sizeOf9⟩ rfl (by (repeat (first | exact Find.head _ | apply Find.tail))) rfl) ?_
      refine rj_val (wn0 rfl) rfl rfl (y_slen Try.underlying9 rfl) ?_
      refine rj_val (wn0 rfl) rfl rfl (y_move rfl) ?_
      first | refine rj_val (wn0 rfl) rfl rfl (y_sub64 rfl rfl (by omega)) ?_ | refine rj_val (wn0 rfl) rfl rfl (y_sub rfl rfl) ?_
      refine rj_val (wn0 rfl) rfl rfl (y_gtr rfl rfl) ?_
      refine rj_nil ?_
      refine hK10 _ _ _ ?_
      refine cj_env (Env.le_cons (t := 0) rfl (Env.le_cons (t := 1) rfl (Env.le_cons (t := 6) rfl (Env.le_cons (t := 10) rfl (Env.le_cons (t := 25) rfl (Env.le_nil _)))))) ?_
      refine cj_cond rfl (fun hc25 => ?_) (fun hc25 => ?_)
      · try simp only [decide_eq_true_eq, decide_eq_false_iff_not, Bool.not_eq_true', Bool.not_eq_false', Bool.true_eq_false, Bool.false_eq_true] at hc25
        refine cj_seq (fun K12 hK12 => ?_)
        refine cj_region ?_
        refine rj_val (wn0 rfl) rfl rfl (y_assign rfl) ?_
        refine rj_val (wn0 rfl) rfl rfl (y_assign rfl) ?_
        refine rj_nil ?_
        refine hK12 _ _ _ ?_
        refine cj_env (Env.le_cons (t := 4) rfl (Env.le_cons (t := 5) rfl (Env.le_nil _))) ?_
        refine cj_ret ?_
        refine hret _ _ _ ?_
        apply ej_ret Try.results10 (.cons (rv_tmp rfl) (.cons (rv_tmp rfl) .nil)) _ _ (Hp.le_refl _) rfl
        case hp => unfold takeM; rw [if_neg (by omega), if_pos hc25]; exact ⟨rfl, rfl, rfl⟩
        case hS => (repeat (first | exact Sub.refl _ | (apply Sub.pick; focus (repeat (first | exact Find.head _ | apply Find.tail))) | apply Sub.drop))
      · try simp only [decide_eq_true_eq, decide_eq_false_iff_not, Bool.not_eq_true', Bool.not_eq_false', Bool.true_eq_false, Bool.false_eq_true] at hc25
        refine cj_skip ?_
        refine hK9 _ _ _ ?_
        refine cj_seq (fun K13 hK13 => ?_)
        refine cj_region ?_
        refine rj_val (wn0 rfl) rfl rfl (y_move rfl) ?_
        refine rj_val (wn0 rfl) rfl rfl (y_nilCheck rfl) ?_
        refine rj_val (wn0 rfl) rfl rfl (y_fieldAddr Try.underlying53 rfl (n := 1) (by decide) Try.sizeOf51 rfl) ?_
        refine rj_val (wn0 rfl) rfl rfl (y_move rfl) ?_
        refine rj_val (wn0 rfl) rfl rfl (y_move rfl) ?_
        refine rj_val (wn0 rfl) rfl rfl (y_move rfl) ?_
        first | refine rj_val (wn0 rfl) rfl rfl (y_add64 rfl rfl (by omega)) ?_ | refine rj_val (wn0 rfl) rfl rfl (y_add rfl rfl) ?_
        refine rj_call (wn0 rfl) rfl Try.call16 rfl (cas_t b s k (k + n)) (by (repeat (first | exact Split.nil _ | (apply Split.cons; focus (repeat (first | exact Find.head _ | apply Find.tail)))))) (fun _ _ _ _ h => h.elim) ?_
        rintro v R' L' hR ⟨rfl, rfl, rfl⟩
        try simp only [List.cons_append, List.nil_append]
        refine rj_nil ?_
        refine hK13 _ _ _ ?_
        refine cj_env (Env.le_cons (t := 0) rfl (Env.le_cons (t := 1) rfl (Env.le_cons (t := 6) rfl (Env.le_cons (t := 10) rfl (Env.le_cons (t := 33) rfl (Env.le_nil _)))))) ?_
        refine cj_cond rfl (fun hc33 => ?_) (fun hc33 => ?_)
        · try simp only [decide_eq_true_eq, decide_eq_false_iff_not, Bool.not_eq_true', Bool.not_eq_false', Bool.true_eq_false, Bool.false_eq_true] at hc33
          refine cj_seq (fun K15 hK15 => ?_)
          refine cj_region ?_
          refine rj_val (wn0 rfl) rfl rfl (y_move rfl) ?_
          refine rj_val (wn0 rfl) rfl rfl (y_nilCheck rfl) ?_
          refine rj_val (wn0 rfl) rfl rfl (y_fieldAddr Try.underlying53 rfl (n := 1) (by decide) Try.sizeOf9 rfl) ?_
          refine rj_val (wn0 rfl) rfl rfl (y_load ⟨Try.isAgg9, Try.sizeOf9⟩ rfl (by (repeat (first | exact Find.head _ | apply Find.tail))) rfl) ?_
          refine rj_val (wn0 rfl) rfl rfl (y_move rfl) ?_
          refine rj_val (wn0 rfl) rfl rfl (y_move rfl) ?_
          refine rj_val (wn0 rfl) rfl rfl (y_move rfl) ?_
          first | refine rj_val (wn0 rfl) rfl rfl (y_add64 rfl rfl (by omega)) ?_ | refine rj_val (wn0 rfl) rfl rfl (y_add rfl rfl) ?_
          refine rj_val (wn0 rfl) rfl rfl (y_slice_s Try.underlying9 rfl rfl rfl (by omega)) ?_
          refine rj_val (wn0 rfl) rfl rfl (y_assign rfl) ?_
          refine rj_val (wn0 rfl) rfl rfl (y_assign rfl) ?_
          refine rj_nil ?_
          refine hK15 _ _ _ ?_
          refine cj_env (Env.le_cons (t := 4) rfl (Env.le_cons (t := 5) rfl (Env.le_nil _))) ?_
          refine cj_ret ?_
          refine hret _ _ _ ?_
          apply ej_ret Try.results10 (.cons (rv_tmp rfl) (.cons (rv_tmp rfl) .nil)) _ _ (Hp.le_refl _) rfl
          case hp => unfold takeM; rw [if_neg (by omega), if_neg (by omega), show (k + n).toNat - k.toNat = n.toNat by omega]; exact ⟨rfl, rfl, rfl⟩
          case hS => (repeat (first | exact Sub.refl _ | (apply Sub.pick; focus (repeat (first | exact Find.head _ | apply Find.tail))) | apply Sub.drop))
        · cases hc33
theorem below_t {R : Hp} (b : Nat) (s : List UInt8) (k m : Int) (h : 0 ≤ k ∧ k ≤ s.length ∧ s.length ≤ 9223372036854775807) :
    Tri Try.prog 12 [.pointer (some ⟨b, 0, none⟩), .int .i64 m] R [tapeA b s k]
      (fun v R' L' => R = R' ∧ v = .tuple #[.int .i64 (belowM s k m).1, .int .i64 (belowM s k m).2.1] ∧ L' = [tapeA b s (belowM s k m).2.2]) := by
  refine tri_of Try.func12 rfl Try.ntmps12 rfl (fun σ F Q hret hend hpan => ?_)
  try simp only [List.cons_append, List.nil_append]
  refine cj_env (Env.le_cons (t := 0) rfl (Env.le_cons (t := 1) rfl (Env.le_nil _))) ?_
  refine cj_seq (fun K1 hK1 => ?_)
  refine cj_region ?_
  refine rj_val (wn0 rfl) rfl rfl (y_assign rfl) ?_
  refine rj_val (wn0 rfl) rfl rfl (y_assign rfl) ?_
  refine rj_nil ?_
  refine hK1 _ _ _ ?_
  refine cj_seq (fun K2 hK2 => ?_)
  refine cj_block ?_
  refine cj_seq (fun K3 hK3 => ?_)
  refine cj_region ?_
  refine rj_val (wn0 rfl) rfl rfl (y_move rfl) ?_
  refine rj_val (wn0 rfl) rfl rfl (y_peql Try.underlying24 rfl rfl) ?_
  refine rj_val (wn0 rfl) rfl rfl (y_assign rfl) ?_
  refine rj_nil ?_
  refine hK3 _ _ _ ?_
  refine cj_env (Env.le_cons (t := 0) rfl (Env.le_cons (t := 1) rfl (Env.le_cons (t := 10) rfl (Env.le_nil _)))) ?_
  refine cj_cond rfl (fun hc10 => ?_) (fun hc10 => ?_)
  · cases hc10
  · try simp only [decide_eq_true_eq, decide_eq_false_iff_not, Bool.not_eq_true', Bool.not_eq_false', Bool.true_eq_false, Bool.false_eq_true] at hc10
    refine cj_seq (fun K5 hK5 => ?_)
    refine cj_region ?_
    refine rj_val (wn0 rfl) rfl rfl (y_move rfl) ?_
    refine rj_val (wn0 rfl) rfl rfl (y_lss rfl rfl) ?_
    refine rj_val (wn0 rfl) rfl rfl (y_move rfl) ?_
    refine rj_part 16 rfl (fun hg16 => ?_) (fun hg16 => ?_)
    · try simp only [decide_eq_true_eq, decide_eq_false_iff_not, Bool.not_eq_true', Bool.not_eq_false', Bool.true_eq_false, Bool.false_eq_true] at hg16
      refine rj_skip (wn2 rfl rfl rfl rfl rfl) rfl rfl ?_
      refine rj_skip (wn2 rfl rfl rfl rfl rfl) rfl rfl ?_
      refine rj_val (wn0 rfl) rfl rfl (y_pick_t rfl rfl) ?_
      refine rj_val (wn0 rfl) rfl rfl (y_assign rfl) ?_
      refine rj_nil ?_
      refine hK5 _ _ _ ?_
      refine cj_env (Env.le_cons (t := 0) rfl (Env.le_cons (t := 1) rfl (Env.le_cons (t := 13) rfl (Env.le_nil _)))) ?_
      refine cj_cond_t rfl ?_
      refine cj_seq (fun K6 hK6 => ?_)
      refine cj_region ?_
      refine rj_val (wn0 rfl) rfl rfl (y_assign rfl) ?_
      refine rj_val (wn0 rfl) rfl rfl (y_assign rfl) ?_
      refine rj_nil ?_
      refine hK6 _ _ _ ?_
      refine cj_env (Env.le_cons (t := 4) rfl (Env.le_cons (t := 5) rfl (Env.le_nil _))) ?_
      refine cj_ret ?_
      refine hret _ _ _ ?_
      apply ej_ret Try.results12 (.cons (rv_tmp rfl) (.cons (rv_tmp rfl) .nil)) _ _ (Hp.le_refl _) rfl
      case hp => unfold belowM; rw [if_pos (by omega)]; exact ⟨rfl, rfl, rfl⟩
      case hS => (repeat (first | exact Sub.refl _ | (apply Sub.pick; focus (repeat (first | exact Find.head _ | apply Find.tail))) | apply Sub.drop))
    · try simp only [decide_eq_true_eq, decide_eq_false_iff_not, Bool.not_eq_true', Bool.not_eq_false', Bool.true_eq_false, Bool.false_eq_true] at hg16
      refine rj_val (wn1 rfl rfl rfl rfl) rfl rfl (y_move rfl) ?_
      refine rj_val (wn1 rfl rfl rfl rfl) rfl rfl (y_gtr rfl rfl) ?_
      refine rj_val (wn0 rfl) rfl rfl (y_pick_f rfl rfl) ?_
      refine rj_val (wn0 rfl) rfl rfl (y_assign rfl) ?_
      refine rj_nil ?_
      refine hK5 _ _ _ ?_
      refine cj_env (Env.le_cons (t := 0) rfl (Env.le_cons (t := 1) rfl (Env.le_cons (t := 13) rfl (Env.le_nil _)))) ?_
      refine cj_cond rfl (fun hc13 => ?_) (fun hc13 => ?_)
      · try simp only [decide_eq_true_eq, decide_eq_false_iff_not, Bool.not_eq_true', Bool.not_eq_false', Bool.true_eq_false, Bool.false_eq_true] at hc13
        refine cj_seq (fun K8 hK8 => ?_)
        refine cj_region ?_
        refine rj_val (wn0 rfl) rfl rfl (y_assign rfl) ?_
        refine rj_val (wn0 rfl) rfl rfl (y_assign rfl) ?_
        refine rj_nil ?_
        refine hK8 _ _ _ ?_
        refine cj_env (Env.le_cons (t := 4) rfl (Env.le_cons (t := 5) rfl (Env.le_nil _))) ?_
        refine cj_ret ?_
        refine hret _ _ _ ?_
        apply ej_ret Try.results12 (.cons (rv_tmp rfl) (.cons (rv_tmp rfl) .nil)) _ _ (Hp.le_refl _) rfl
        case hp => unfold belowM; rw [if_pos (by omega)]; exact ⟨rfl, rfl, rfl⟩
        case hS => (repeat (first | exact Sub.refl _ | (apply Sub.pick; focus (repeat (first | exact Find.head _ | apply Find.tail))) | apply Sub.drop))
      · try simp only [decide_eq_true_eq, decide_eq_false_iff_not, Bool.not_eq_true', Bool.not_eq_false', Bool.true_eq_false, Bool.false_eq_true] at hc13
        refine cj_skip ?_
        refine hK2 _ _ _ ?_
        refine cj_seq (fun K9 hK9 => ?_)
        refine cj_region ?_
        refine rj_val (wn0 rfl) rfl rfl (y_move rfl) ?_
        refine rj_call (wn0 rfl) rfl Try.call10 rfl (take_t b s k 8 h) (by (repeat (first | exact Split.nil _ | (apply Split.cons; focus (repeat (first | exact Find.head _ | apply Find.tail)))))) (fun _ _ _ _ h => h.elim) ?_
        rintro v R' L' hR ⟨rfl, rfl, rfl⟩
        try simp only [List.cons_append, List.nil_append]
        refine rj_val (wn0 rfl) rfl rfl (y_move rfl) ?_
        refine rj_val (wn0 rfl) rfl rfl (y_extract rfl rfl) ?_
        refine rj_val (wn0 rfl) rfl rfl (y_extract rfl rfl) ?_
        refine rj_val (wn0 rfl) rfl rfl (y_assign rfl) ?_
        refine rj_val (wn0 rfl) rfl rfl (y_assign rfl) ?_
        refine rj_nil ?_
        refine hK9 _ _ _ ?_
        refine cj_env (Env.le_cons (t := 1) rfl (Env.le_cons (t := 6) rfl (Env.le_cons (t := 7) rfl (Env.le_nil _)))) ?_
        refine cj_seq (fun K10 hK10 => ?_)
        refine cj_seq (fun K11 hK11 => ?_)
        refine cj_region ?_
        refine rj_val (wn0 rfl) rfl rfl (y_move rfl) ?_
        refine rj_val (wn0 rfl) rfl rfl (y_neq rfl rfl) ?_
        refine rj_nil ?_
        refine hK11 _ _ _ ?_
        refine cj_cond rfl (fun hc26 => ?_) (fun hc26 => ?_)
        · try simp only [decide_eq_true_eq, decide_eq_false_iff_not, Bool.not_eq_true', Bool.not_eq_false', Bool.true_eq_false, Bool.false_eq_true] at hc26
          refine cj_seq (fun K13 hK13 => ?_)
          refine cj_region ?_
          refine rj_val (wn0 rfl) rfl rfl (y_move rfl) ?_
          refine rj_val (wn0 rfl) rfl rfl (y_assign rfl) ?_
          refine rj_val (wn0 rfl) rfl rfl (y_assign rfl) ?_
          refine rj_nil ?_
          refine hK13 _ _ _ ?_
          refine cj_env (Env.le_cons (t := 4) rfl (Env.le_cons (t := 5) rfl (Env.le_nil _))) ?_
          refine cj_ret ?_
          refine hret _ _ _ ?_
          apply ej_ret Try.results12 (.cons (rv_tmp rfl) (.cons (rv_tmp rfl) .nil)) _ _ (Hp.le_refl _) rfl
          case hp => unfold belowM; rw [if_neg (by omega), if_neg hc26]; exact ⟨rfl, rfl, rfl⟩
          case hS => (repeat (first | exact Sub.refl _ | (apply Sub.pick; focus (repeat (first | exact Find.head _ | apply Find.tail))) | apply Sub.drop))
        · try simp only [decide_eq_true_eq, decide_eq_false_iff_not, Bool.not_eq_true', Bool.not_eq_false', Bool.true_eq_false, Bool.false_eq_true] at hc26
          refine cj_skip ?_
          refine hK10 _ _ _ ?_
          refine cj_env (Env.le_cons (t := 1) rfl (Env.le_cons (t := 6) rfl (Env.le_nil _))) ?_
          refine cj_seq (fun K14 hK14 => ?_)
          refine cj_region ?_
          refine rj_val (wn0 rfl) rfl rfl (y_assign rfl) ?_
          refine rj_nil ?_
          refine hK14 _ _ _ ?_
          refine cj_seq (fun K15 hK15 => ?_)
          refine cj_seq (fun K16 hK16 => ?_)
          refine cj_region ?_
          refine rj_val (wn0 rfl) rfl rfl (y_move rfl) ?_
          refine rj_val (wn0 rfl) rfl rfl (y_slen Try.underlying9 rfl) ?_
          refine rj_val (wn0 rfl) rfl rfl (y_move rfl) ?_
          refine rj_nil ?_
          refine hK16 _ _ _ ?_
          refine cj_block ?_
          have hq : (takeM s k 8).1.length = 8 := takeM_len hc26 h.1
          have hb : belowM s k m = ((wordOf (takeM s k 8).1) % m, 0, (takeM s k 8).2.2) := by unfold belowM; rw [if_neg (by omega), if_pos hc26]
          refine cj_env (E' := (fun (i : Nat) => [(1, .int .i64 m), (6, .string (str (takeM s k 8).1)), (29, .int .i64 ((takeM s k 8).1.length : Int)), (30, .int .i64 (i : Int)), (8, .int .u64 (wordOf ((takeM s k 8).1.take i)))]) 0) (Env.le_cons rfl (Env.le_cons rfl (Env.le_cons rfl (Env.le_cons rfl (Env.le_cons (Eq.trans rfl (congrArg some (by first | rfl | exact congrArg _ (wordOf_step _ i hq (by omega)).symm))) (Env.le_nil _)))))) ?_
          refine cj_sub (M := (fun (i : Nat) => tapeA b s (takeM s k 8).2.2 :: F) 0) (by (repeat (first | exact Sub.refl _ | (apply Sub.pick; focus (repeat (first | exact Find.head _ | apply Find.tail))) | apply Sub.drop))) ?_
          refine cj_loop (fun (i : Nat) => [(1, .int .i64 m), (6, .string (str (takeM s k 8).1)), (29, .int .i64 ((takeM s k 8).1.length : Int)), (30, .int .i64 (i : Int)), (8, .int .u64 (wordOf ((takeM s k 8).1.take i)))]) (fun (i : Nat) => R) (fun (i : Nat) => tapeA b s (takeM s k 8).2.2 :: F) (fun (i : Nat) => i ≤ (takeM s k 8).1.length) (fun (i : Nat) => (takeM s k 8).1.length - i) 0 (by omega) ?_
          rintro i hI10
          try dsimp only
          have r2 := byteAt_bd (takeM s k 8).1 i
          refine cj_seq (fun K17 hK17 => ?_)
          refine cj_region ?_
          refine rj_val (wn0 rfl) rfl rfl (y_lss rfl rfl) ?_
          refine rj_nil ?_
          refine hK17 _ _ _ ?_
          refine cj_seq (fun K18 hK18 => ?_)
          refine cj_cond rfl (fun hc31 => ?_) (fun hc31 => ?_)
          · try simp only [decide_eq_true_eq, decide_eq_false_iff_not, Bool.not_eq_true', Bool.not_eq_false', Bool.true_eq_false, Bool.false_eq_true] at hc31
            refine cj_skip ?_
            refine hK18 _ _ _ ?_
            refine cj_seq (fun K20 hK20 => ?_)
            refine cj_block ?_
            refine cj_seq (fun K21 hK21 => ?_)
            refine cj_region ?_
            refine rj_val (wn0 rfl) rfl rfl (y_move rfl) ?_
            refine rj_val (wn0 rfl) rfl rfl (y_assign rfl) ?_
            refine rj_nil ?_
            refine hK21 _ _ _ ?_
            refine cj_region ?_
            refine rj_val (wn0 rfl) rfl rfl (y_move rfl) ?_
            refine rj_val (wn0 rfl) rfl rfl (y_shl rfl rfl (by omega)) ?_
            refine rj_val (wn0 rfl) rfl rfl (y_move rfl) ?_
            refine rj_val (wn0 rfl) rfl rfl (y_move rfl) ?_
            refine rj_val (wn0 rfl) rfl rfl (y_index_s Try.underlying9 rfl rfl (by omega)) ?_
            first | refine rj_val (wn0 rfl) rfl rfl (y_conv_in Try.underlying5 Try.underlying56 rfl (by (simp only [IntKind.min, IntKind.max, IntKind.signed, IntKind.bits, Bool.false_eq_true, ite_false, ite_true]; omega))) ?_ | refine rj_val (wn0 rfl) rfl rfl (y_conv Try.underlying5 Try.underlying56 rfl) ?_
            refine rj_val (wn0 rfl) rfl rfl (y_or rfl rfl) ?_
            refine rj_val (wn0 rfl) rfl rfl (y_assign rfl) ?_
            refine rj_nil ?_
            refine hK20 _ _ _ ?_
            refine cj_env (Env.le_cons (t := 1) rfl (Env.le_cons (t := 6) rfl (Env.le_cons (t := 8) rfl (Env.le_cons (t := 29) rfl (Env.le_cons (t := 30) rfl (Env.le_nil _)))))) ?_
            refine cj_region ?_
            first | refine rj_val (wn0 rfl) rfl rfl (y_add64 rfl rfl (by omega)) ?_ | refine rj_val (wn0 rfl) rfl rfl (y_add rfl rfl) ?_
            refine rj_val (wn0 rfl) rfl rfl (y_move rfl) ?_
            refine rj_nil ?_
            refine ej_on (q' := roundK _ _ _ _ _ _ _) rfl ?_
            refine ej_round (i + 1) (by omega) (by omega) (Env.le_cons rfl (Env.le_cons rfl (Env.le_cons rfl (Env.le_cons rfl (Env.le_cons (Eq.trans rfl (congrArg some (by first | rfl | exact congrArg _ (wordOf_step _ i hq (by omega)).symm))) (Env.le_nil _)))))) rfl (by (repeat (first | exact Sub.refl _ | (apply Sub.pick; focus (repeat (first | exact Find.head _ | apply Find.tail))) | apply Sub.drop)))
          · try simp only [decide_eq_true_eq, decide_eq_false_iff_not, Bool.not_eq_true', Bool.not_eq_false', Bool.true_eq_false, Bool.false_eq_true] at hc31
            refine cj_exit ?_
            refine hK15 _ _ _ ?_
            refine cj_env (Env.le_cons (t := 1) rfl (Env.le_cons (t := 8) rfl (Env.le_nil _))) ?_
            refine cj_seq (fun K22 hK22 => ?_)
            refine cj_region ?_
            have ew : (takeM s k 8).1.take i = (takeM s k 8).1 := List.take_of_length_le (by omega)
            have hw := wordOf_bd (takeM s k 8).1
            have h1 := Int.emod_nonneg (wordOf (takeM s k 8).1) (b := m) (by omega)
            have h2 := Int.emod_lt_of_pos (wordOf (takeM s k 8).1) (b := m) (by omega)
            rw [ew]
            refine rj_val (wn0 rfl) rfl rfl (y_move rfl) ?_
            refine rj_val (wn0 rfl) rfl rfl (y_move rfl) ?_
            first | refine rj_val (wn0 rfl) rfl rfl (y_conv_in Try.underlying3 Try.underlying56 rfl (by (simp only [IntKind.min, IntKind.max, IntKind.signed, IntKind.bits, Bool.false_eq_true, ite_false, ite_true]; omega))) ?_ | refine rj_val (wn0 rfl) rfl rfl (y_conv Try.underlying3 Try.underlying56 rfl) ?_
            refine rj_val (wn0 rfl) rfl rfl (y_rem rfl rfl (by omega)) ?_
            refine rj_eq 44 rfl (congrArg _ (Int.tmod_eq_emod_of_nonneg hw.1)) ?_
            first | refine rj_val (wn0 rfl) rfl rfl (y_conv_in Try.underlying56 Try.underlying3 rfl (by (simp only [IntKind.min, IntKind.max, IntKind.signed, IntKind.bits, Bool.false_eq_true, ite_false, ite_true]; omega))) ?_ | refine rj_val (wn0 rfl) rfl rfl (y_conv Try.underlying56 Try.underlying3 rfl) ?_
            refine rj_val (wn0 rfl) rfl rfl (y_assign rfl) ?_
            refine rj_val (wn0 rfl) rfl rfl (y_assign rfl) ?_
            refine rj_nil ?_
            refine hK22 _ _ _ ?_
            refine cj_env (Env.le_cons (t := 4) rfl (Env.le_cons (t := 5) rfl (Env.le_nil _))) ?_
            refine cj_ret ?_
            refine hret _ _ _ ?_
            apply ej_ret Try.results12 (.cons (rv_tmp rfl) (.cons (rv_tmp rfl) .nil)) _ _ (Hp.le_refl _) rfl
            case hp => rw [hb]; exact ⟨rfl, rfl, rfl⟩
            case hS => (repeat (first | exact Sub.refl _ | (apply Sub.pick; focus (repeat (first | exact Find.head _ | apply Find.tail))) | apply Sub.drop))
/-! ### the document's tape -/
@[reducible] def refA (b : Nat) (s : List UInt8) (k : Int) : Asn := blk b [.string (str s), .int .i64 k] 39
theorem rtake_t {R : Hp} (b : Nat) (s : List UInt8) (k n : Int) (h : 0 ≤ k ∧ k ≤ s.length ∧ s.length ≤ 9223372036854775807) :
    Tri Try.prog 13 [.pointer (some ⟨b, 0, none⟩), .int .i64 n] R [refA b s k]
      (fun v R' L' => R = R' ∧ v = .tuple #[.string (str (takeM s k n).1), .int .i64 (takeM s k n).2.1] ∧ L' = [refA b s (takeM s k n).2.2]) := by
  obtain ⟨hk0, hk1, hk2⟩ := h
  refine tri_of Try.func13 rfl Try.ntmps13 rfl (fun σ F Q hret hend hpan => ?_)
  try simp only [List.cons_append, List.nil_append]
  refine cj_env (Env.le_cons (t := 0) rfl (Env.le_cons (t := 1) rfl (Env.le_nil _))) ?_
  refine cj_seq (fun K1 hK1 => ?_)
  refine cj_region ?_
  refine rj_val (wn0 rfl) rfl rfl (y_assign rfl) ?_
  refine rj_val (wn0 rfl) rfl rfl (y_assign rfl) ?_
  refine rj_nil ?_
  refine hK1 _ _ _ ?_
  refine cj_seq (fun K2 hK2 => ?_)
  refine cj_seq (fun K3 hK3 => ?_)
  refine cj_region ?_
  refine rj_val (wn0 rfl) rfl rfl (y_move rfl) ?_
  refine rj_val (wn0 rfl) rfl rfl (y_lss rfl rfl) ?_
  refine rj_nil ?_
  refine hK3 _ _ _ ?_
  refine cj_env (Env.le_cons (t := 0) rfl (Env.le_cons (t := 1) rfl (Env.le_cons (t := 8) rfl (Env.le_nil _)))) ?_
  refine cj_cond rfl (fun hc8 => ?_) (fun hc8 => ?_)
  · try simp only [decide_eq_true_eq, decide_eq_false_iff_not, Bool.not_eq_true', Bool.not_eq_false', Bool.true_eq_false, Bool.false_eq_true] at hc8
    refine cj_seq (fun K5 hK5 => ?_)
    refine cj_region ?_
    refine rj_val (wn0 rfl) rfl rfl (y_assign rfl) ?_
    refine rj_val (wn0 rfl) rfl rfl (y_assign rfl) ?_
    refine rj_nil ?_
    refine hK5 _ _ _ ?_
    refine cj_env (Env.le_cons (t := 4) rfl (Env.le_cons (t := 5) rfl (Env.le_nil _))) ?_
    refine cj_ret ?_
    refine hret _ _ _ ?_
    apply ej_ret Try.results13 (.cons (rv_tmp rfl) (.cons (rv_tmp rfl) .nil)) _ _ (Hp.le_refl _) rfl
    case hp => unfold takeM; rw [if_pos hc8]; exact ⟨rfl, rfl, rfl⟩
    case hS => (repeat (first | exact Sub.refl _ | (apply Sub.pick; focus (repeat (first | exact Find.head _ | apply Find.tail))) | apply Sub.drop))
  · try simp only [decide_eq_true_eq, decide_eq_false_iff_not, Bool.not_eq_true', Bool.not_eq_false', Bool.true_eq_false, Bool.false_eq_true] at hc8
    refine cj_skip ?_
    refine hK2 _ _ _ ?_
    refine cj_seq (fun K6 hK6 => ?_)
    refine cj_seq (fun K7 hK7 => ?_)
    refine cj_draw (by kernel_rfl) (by kernel_rfl) ?_
    refine qj_val (wn0 rfl) rfl rfl (y_move rfl) ?_
    refine qj_val (wn0 rfl) rfl rfl (y_move rfl) ?_
    refine qj_val (wn0 rfl) rfl rfl (y_nilCheck rfl) ?_
    refine qj_val (wn0 rfl) rfl rfl (y_fieldAddr Try.underlying39 rfl (n := 1) (by decide) Try.sizeOf9 rfl) ?_
    refine qj_val (wn0 rfl) rfl rfl (y_load ⟨Try.isAgg9, Try.sizeOf9⟩ rfl (by (repeat (first | exact Find.head _ | apply Find.tail))) rfl) ?_
    refine qj_val (wn0 rfl) rfl rfl (y_slen Try.underlying9 rfl) ?_
    refine qj_val (wn0 rfl) rfl rfl (y_move rfl) ?_
    refine qj_val (wn0 rfl) rfl rfl (y_nilCheck rfl) ?_
    refine qj_val (wn0 rfl) rfl rfl (y_fieldAddr Try.underlying39 rfl (n := 1) (by decide) Try.sizeOf3 rfl) ?_
    refine qj_val (wn0 rfl) rfl rfl (y_load ⟨Try.isAgg3, Try.sizeOf3⟩ rfl (by (repeat (first | exact Find.head _ | apply Find.tail))) rfl) ?_
    first | refine qj_val (wn0 rfl) rfl rfl (y_sub64 rfl rfl (by omega)) ?_ | refine qj_val (wn0 rfl) rfl rfl (y_sub rfl rfl) ?_
    refine qj_val (wn0 rfl) rfl rfl (y_gtr rfl rfl) ?_
    refine qj_nil ?_
    refine hK7 _ _ _ ?_
    refine cj_env (Env.le_cons (t := 0) rfl (Env.le_cons (t := 1) rfl (Env.le_cons (t := 20) rfl (Env.le_nil _)))) ?_
    refine cj_cond rfl (fun hc20 => ?_) (fun hc20 => ?_)
    · try simp only [decide_eq_true_eq, decide_eq_false_iff_not, Bool.not_eq_true', Bool.not_eq_false', Bool.true_eq_false, Bool.false_eq_true] at hc20
      refine cj_seq (fun K9 hK9 => ?_)
      refine cj_region ?_
      refine rj_val (wn0 rfl) rfl rfl (y_assign rfl) ?_
      refine rj_val (wn0 rfl) rfl rfl (y_assign rfl) ?_
      refine rj_nil ?_
      refine hK9 _ _ _ ?_
      refine cj_env (Env.le_cons (t := 4) rfl (Env.le_cons (t := 5) rfl (Env.le_nil _))) ?_
      refine cj_ret ?_
      refine hret _ _ _ ?_
      apply ej_ret Try.results13 (.cons (rv_tmp rfl) (.cons (rv_tmp rfl) .nil)) _ _ (Hp.le_refl _) rfl
      case hp => unfold takeM; rw [if_neg (by omega), if_pos hc20]; exact ⟨rfl, rfl, rfl⟩
      case hS => (repeat (first | exact Sub.refl _ | (apply Sub.pick; focus (repeat (first | exact Find.head _ | apply Find.tail))) | apply Sub.drop))
    · try simp only [decide_eq_true_eq, decide_eq_false_iff_not, Bool.not_eq_true', Bool.not_eq_false', Bool.true_eq_false, Bool.false_eq_true] at hc20
      refine cj_skip ?_
      refine hK6 _ _ _ ?_
      refine cj_seq (fun K10 hK10 => ?_)
      refine cj_draw (by kernel_rfl) (by kernel_rfl) ?_
      refine qj_val (wn0 rfl) rfl rfl (y_move rfl) ?_
      refine qj_val (wn0 rfl) rfl rfl (y_nilCheck rfl) ?_
      refine qj_val (wn0 rfl) rfl rfl (y_fieldAddr Try.underlying39 rfl (n := 1) (by decide) Try.sizeOf9 rfl) ?_
      refine qj_val (wn0 rfl) rfl rfl (y_load ⟨Try.isAgg9, Try.sizeOf9⟩ rfl (by (repeat (first | exact Find.head _ | apply Find.tail))) rfl) ?_
      refine qj_val (wn0 rfl) rfl rfl (y_move rfl) ?_
      refine qj_val (wn0 rfl) rfl rfl (y_nilCheck rfl) ?_
      refine qj_val (wn0 rfl) rfl rfl (y_fieldAddr Try.underlying39 rfl (n := 1) (by decide) Try.sizeOf3 rfl) ?_
      refine qj_val (wn0 rfl) rfl rfl (y_load ⟨Try.isAgg3, Try.sizeOf3⟩ rfl (by (repeat (first | exact Find.head _ | apply Find.tail))) rfl) ?_
      refine qj_val (wn0 rfl) rfl rfl (y_move rfl) ?_
      refine qj_val (wn0 rfl) rfl rfl (y_nilCheck rfl) ?_
      refine qj_val (wn0 rfl) rfl rfl (y_fieldAddr Try.underlying39 rfl (n := 1) (by decide) Try.sizeOf3 rfl) ?_
      refine qj_val (wn0 rfl) rfl rfl (y_load ⟨Try.isAgg3, Try.sizeOf3⟩ rfl (by (repeat (first | exact Find.head _ | apply Find.tail))) rfl) ?_
      refine qj_val (wn0 rfl) rfl rfl (y_move rfl) ?_
      first | refine qj_val (wn0 rfl) rfl rfl (y_add64 rfl rfl (by omega)) ?_ | refine qj_val (wn0 rfl) rfl rfl (y_add rfl rfl) ?_
      refine qj_val (wn0 rfl) rfl rfl (y_slice_s Try.underlying9 rfl rfl rfl (by omega)) ?_
      refine qj_val (wn0 rfl) rfl rfl (y_assign rfl) ?_
      refine qj_nil ?_
      refine hK10 _ _ _ ?_
      refine cj_env (Env.le_cons (t := 0) rfl (Env.le_cons (t := 1) rfl (Env.le_cons (t := 6) rfl (Env.le_nil _)))) ?_
      refine cj_seq (fun K11 hK11 => ?_)
      refine cj_region ?_
      refine rj_val (wn0 rfl) rfl rfl (y_move rfl) ?_
      refine rj_val (wn0 rfl) rfl rfl (y_move rfl) ?_
      refine rj_val (wn0 rfl) rfl rfl (y_nilCheck rfl) ?_
      refine rj_val (wn0 rfl) rfl rfl (y_fieldAddr Try.underlying39 rfl (n := 1) (by decide) Try.sizeOf3 rfl) ?_
      refine rj_val (wn0 rfl) rfl rfl (y_load ⟨Try.isAgg3, Try.sizeOf3⟩ rfl (by (repeat (first | exact Find.head _ | apply Find.tail))) rfl) ?_
      refine rj_val (wn0 rfl) rfl rfl (y_move rfl) ?_
      first | refine rj_val (wn0 rfl) rfl rfl (y_add64 rfl rfl (by omega)) ?_ | refine rj_val (wn0 rfl) rfl rfl (y_add rfl rfl) ?_
      refine rj_val (wn0 rfl) rfl rfl (y_nilCheck rfl) ?_
      refine rj_val (wn0 rfl) rfl rfl (y_fieldAddr Try.underlying39 rfl (n := 1) (by decide) Try.sizeOf3 rfl) ?_
      refine rj_store ⟨Try.isAgg3, Try.sizeOf3⟩ (wn0 rfl) rfl rfl rfl (by (repeat (first | exact Find.head _ | apply Find.tail))) rfl rfl ?_
      refine rj_nil ?_
      refine hK11 _ _ _ ?_
      refine cj_env (Env.le_cons (t := 6) rfl (Env.le_nil _)) ?_
      refine cj_seq (fun K12 hK12 => ?_)
      refine cj_region ?_
      refine rj_val (wn0 rfl) rfl rfl (y_move rfl) ?_
      refine rj_val (wn0 rfl) rfl rfl (y_assign rfl) ?_
      refine rj_val (wn0 rfl) rfl rfl (y_assign rfl) ?_
      refine rj_nil ?_
      refine hK12 _ _ _ ?_
      refine cj_ret ?_
      refine hret _ _ _ ?_
      apply ej_ret Try.results13 (.cons (rv_tmp rfl) (.cons (rv_tmp rfl) .nil)) _ _ (Hp.le_refl _) rfl
      case hp => unfold takeM; rw [if_neg (by omega), if_neg (by omega), show (k + n).toNat - k.toNat = n.toNat by omega]; exact ⟨rfl, rfl, rfl⟩
      case hS => (repeat (first | exact Sub.refl _ | (apply Sub.pick; focus (repeat (first | exact Find.head _ | apply Find.tail))) | apply Sub.drop))
theorem rbelow_t {R : Hp} (b : Nat) (s : List UInt8) (k m : Int) (h : 0 ≤ k ∧ k ≤ s.length ∧ s.length ≤ 9223372036854775807) :
    Tri Try.prog 14 [.pointer (some ⟨b, 0, none⟩), .int .i64 m] R [refA b s k]
      (fun v R' L' => R = R' ∧ v = .tuple #[.int .i64 (belowM s k m).1, .int .i64 (belowM s k m).2.1] ∧ L' = [refA b s (belowM s k m).2.2]) := by
  refine tri_of Try.func14 rfl Try.ntmps14 rfl (fun σ F Q hret hend hpan => ?_)
  try simp only [List.cons_append, List.nil_append]
  refine cj_env (Env.le_cons (t := 0) rfl (Env.le_cons (t := 1) rfl (Env.le_nil _))) ?_
  refine cj_seq (fun K1 hK1 => ?_)
  refine cj_region ?_
  refine rj_val (wn0 rfl) rfl rfl (y_assign rfl) ?_
  refine rj_val (wn0 rfl) rfl rfl (y_assign rfl) ?_
  refine rj_nil ?_
  refine hK1 _ _ _ ?_
  refine cj_seq (fun K2 hK2 => ?_)
  refine cj_seq (fun K3 hK3 => ?_)
  refine cj_region ?_
  refine rj_val (wn0 rfl) rfl rfl (y_move rfl) ?_
  refine rj_val (wn0 rfl) rfl rfl (y_lss rfl rfl) ?_
  refine rj_val (wn0 rfl) rfl rfl (y_move rfl) ?_
  refine rj_part 12 rfl (fun hg12 => ?_) (fun hg12 => ?_)
  · try simp only [decide_eq_true_eq, decide_eq_false_iff_not, Bool.not_eq_true', Bool.not_eq_false', Bool.true_eq_false, Bool.false_eq_true] at hg12
    refine rj_skip (wn2 rfl rfl rfl rfl rfl) rfl rfl ?_
    refine rj_skip (wn2 rfl rfl rfl rfl rfl) rfl rfl ?_
    refine rj_val (wn0 rfl) rfl rfl (y_pick_t rfl rfl) ?_
    refine rj_nil ?_
    refine hK3 _ _ _ ?_
    refine cj_env (Env.le_cons (t := 0) rfl (Env.le_cons (t := 1) rfl (Env.le_cons (t := 15) rfl (Env.le_nil _)))) ?_
    refine cj_cond_t rfl ?_
    refine cj_seq (fun K4 hK4 => ?_)
    refine cj_region ?_
    refine rj_val (wn0 rfl) rfl rfl (y_assign rfl) ?_
    refine rj_val (wn0 rfl) rfl rfl (y_assign rfl) ?_
    refine rj_nil ?_
    refine hK4 _ _ _ ?_
    refine cj_env (Env.le_cons (t := 4) rfl (Env.le_cons (t := 5) rfl (Env.le_nil _))) ?_
    refine cj_ret ?_
    refine hret _ _ _ ?_
    apply ej_ret Try.results14 (.cons (rv_tmp rfl) (.cons (rv_tmp rfl) .nil)) _ _ (Hp.le_refl _) rfl
    case hp => unfold belowM; rw [if_pos (by omega)]; exact ⟨rfl, rfl, rfl⟩
    case hS => (repeat (first | exact Sub.refl _ | (apply Sub.pick; focus (repeat (first | exact Find.head _ | apply Find.tail))) | apply Sub.drop))
  · try simp only [decide_eq_true_eq, decide_eq_false_iff_not, Bool.not_eq_true', Bool.not_eq_false', Bool.true_eq_false, Bool.false_eq_true] at hg12
    refine rj_val (wn1 rfl rfl rfl rfl) rfl rfl (y_move rfl) ?_
    refine rj_val (wn1 rfl rfl rfl rfl) rfl rfl (y_gtr rfl rfl) ?_
    refine rj_val (wn0 rfl) rfl rfl (y_pick_f rfl rfl) ?_
    refine rj_nil ?_
    refine hK3 _ _ _ ?_
    refine cj_env (Env.le_cons (t := 0) rfl (Env.le_cons (t := 1) rfl (Env.le_cons (t := 15) rfl (Env.le_nil _)))) ?_
    refine cj_cond rfl (fun hc15 => ?_) (fun hc15 => ?_)
    · try simp only [decide_eq_true_eq, decide_eq_false_iff_not, Bool.not_eq_true', Bool.not_eq_false', Bool.true_eq_false, Bool.false_eq_true] at hc15
      refine cj_seq (fun K6 hK6 => ?_)
      refine cj_region ?_
      refine rj_val (wn0 rfl) rfl rfl (y_assign rfl) ?_
      refine rj_val (wn0 rfl) rfl rfl (y_assign rfl) ?_
      refine rj_nil ?_
      refine hK6 _ _ _ ?_
      refine cj_env (Env.le_cons (t := 4) rfl (Env.le_cons (t := 5) rfl (Env.le_nil _))) ?_
      refine cj_ret ?_
      refine hret _ _ _ ?_
      apply ej_ret Try.results14 (.cons (rv_tmp rfl) (.cons (rv_tmp rfl) .nil)) _ _ (Hp.le_refl _) rfl
      case hp => unfold belowM; rw [if_pos (by omega)]; exact ⟨rfl, rfl, rfl⟩
      case hS => (repeat (first | exact Sub.refl _ | (apply Sub.pick; focus (repeat (first | exact Find.head _ | apply Find.tail))) | apply Sub.drop))
    · try simp only [decide_eq_true_eq, decide_eq_false_iff_not, Bool.not_eq_true', Bool.not_eq_false', Bool.true_eq_false, Bool.false_eq_true] at hc15
      refine cj_skip ?_
      refine hK2 _ _ _ ?_
      refine cj_seq (fun K7 hK7 => ?_)
      refine cj_region ?_
      refine rj_val (wn0 rfl) rfl rfl (y_move rfl) ?_
      refine rj_call (wn0 rfl) rfl Try.call13 rfl (rtake_t b s k 8 h) (by (repeat (first | exact Split.nil _ | (apply Split.cons; focus (repeat (first | exact Find.head _ | apply Find.tail)))))) (fun _ _ _ _ h => h.elim) ?_
      rintro v R' L' hR ⟨rfl, rfl, rfl⟩
      try simp only [List.cons_append, List.nil_append]
      refine rj_val (wn0 rfl) rfl rfl (y_move rfl) ?_
      refine rj_val (wn0 rfl) rfl rfl (y_extract rfl rfl) ?_
      refine rj_val (wn0 rfl) rfl rfl (y_extract rfl rfl) ?_
      refine rj_val (wn0 rfl) rfl rfl (y_assign rfl) ?_
      refine rj_val (wn0 rfl) rfl rfl (y_assign rfl) ?_
      refine rj_nil ?_
      refine hK7 _ _ _ ?_
      refine cj_env (Env.le_cons (t := 1) rfl (Env.le_cons (t := 6) rfl (Env.le_cons (t := 7) rfl (Env.le_nil _)))) ?_
      refine cj_seq (fun K8 hK8 => ?_)
      refine cj_seq (fun K9 hK9 => ?_)
      refine cj_region ?_
      refine rj_val (wn0 rfl) rfl rfl (y_move rfl) ?_
      refine rj_val (wn0 rfl) rfl rfl (y_neq rfl rfl) ?_
      refine rj_nil ?_
      refine hK9 _ _ _ ?_
      refine cj_cond rfl (fun hc22 => ?_) (fun hc22 => ?_)
      · try simp only [decide_eq_true_eq, decide_eq_false_iff_not, Bool.not_eq_true', Bool.not_eq_false', Bool.true_eq_false, Bool.false_eq_true] at hc22
        refine cj_seq (fun K11 hK11 => ?_)
        refine cj_region ?_
        refine rj_val (wn0 rfl) rfl rfl (y_move rfl) ?_
        refine rj_val (wn0 rfl) rfl rfl (y_assign rfl) ?_
        refine rj_val (wn0 rfl) rfl rfl (y_assign rfl) ?_
        refine rj_nil ?_
        refine hK11 _ _ _ ?_
        refine cj_env (Env.le_cons (t := 4) rfl (Env.le_cons (t := 5) rfl (Env.le_nil _))) ?_
        refine cj_ret ?_
        refine hret _ _ _ ?_
        apply ej_ret Try.results14 (.cons (rv_tmp rfl) (.cons (rv_tmp rfl) .nil)) _ _ (Hp.le_refl _) rfl
        case hp => unfold belowM; rw [if_neg (by omega), if_neg (by omega)]; exact ⟨rfl, rfl, rfl⟩
        case hS => (repeat (first | exact Sub.refl _ | (apply Sub.pick; focus (repeat (first | exact Find.head _ | apply Find.tail))) | apply Sub.drop))
      · try simp only [decide_eq_true_eq, decide_eq_false_iff_not, Bool.not_eq_true', Bool.not_eq_false', Bool.true_eq_false, Bool.false_eq_true] at hc22
        refine cj_skip ?_
        refine hK8 _ _ _ ?_
        refine cj_env (Env.le_cons (t := 1) rfl (Env.le_cons (t := 6) rfl (Env.le_nil _))) ?_
        refine cj_seq (fun K12 hK12 => ?_)
        refine cj_region ?_
        refine rj_val (wn0 rfl) rfl rfl (y_assign rfl) ?_
        refine rj_nil ?_
        refine hK12 _ _ _ ?_
        refine cj_seq (fun K13 hK13 => ?_)
        refine cj_seq (fun K14 hK14 => ?_)
        refine cj_region ?_
        refine rj_val (wn0 rfl) rfl rfl (y_assign rfl) ?_
        refine rj_nil ?_
        refine hK14 _ _ _ ?_
        refine cj_block ?_
        have hq : (takeM s k 8).1.length = 8 := takeM_len hc22 h.1
        have hb : belowM s k m = ((wordOf (takeM s k 8).1) % m, 0, (takeM s k 8).2.2) := by unfold belowM; rw [if_neg (by omega), if_pos hc22]
        refine cj_env (E' := (fun (i : Nat) => [(1, .int .i64 m), (6, .string (str (takeM s k 8).1)), (9, .int .i64 (i : Int)), (8, .int .i64 (wordOf ((takeM s k 8).1.take i) % m))]) 0) (Env.le_cons rfl (Env.le_cons rfl (Env.le_cons rfl (Env.le_cons (Eq.trans rfl (congrArg some (by first | rfl | (simp [wordOf]; done) | exact congrArg _ (modw_step _ i m hq (by omega) (by omega)).symm))) (Env.le_nil _))))) ?_
        refine cj_sub (M := (fun (i : Nat) => refA b s (takeM s k 8).2.2 :: F) 0) (by (repeat (first | exact Sub.refl _ | (apply Sub.pick; focus (repeat (first | exact Find.head _ | apply Find.tail))) | apply Sub.drop))) ?_
        refine cj_loop (fun (i : Nat) => [(1, .int .i64 m), (6, .string (str (takeM s k 8).1)), (9, .int .i64 (i : Int)), (8, .int .i64 (wordOf ((takeM s k 8).1.take i) % m))]) (fun (i : Nat) => R) (fun (i : Nat) => refA b s (takeM s k 8).2.2 :: F) (fun (i : Nat) => i ≤ 8) (fun (i : Nat) => 8 - i) 0 (by omega) ?_
        rintro i hI8
        try dsimp only
        have r0 := Int.emod_nonneg (wordOf ((takeM s k 8).1.take i)) (b := m) (by omega)
        have r1 := Int.emod_lt_of_pos (wordOf ((takeM s k 8).1.take i)) (b := m) (by omega)
        have r2 := byteAt_bd (takeM s k 8).1 i
        refine cj_seq (fun K15 hK15 => ?_)
        refine cj_seq (fun K16 hK16 => ?_)
        refine cj_region ?_
        refine rj_val (wn0 rfl) rfl rfl (y_move rfl) ?_
        refine rj_val (wn0 rfl) rfl rfl (y_lss rfl rfl) ?_
        refine rj_nil ?_
        refine hK16 _ _ _ ?_
        refine cj_cond rfl (fun hc25 => ?_) (fun hc25 => ?_)
        · try simp only [decide_eq_true_eq, decide_eq_false_iff_not, Bool.not_eq_true', Bool.not_eq_false', Bool.true_eq_false, Bool.false_eq_true] at hc25
          refine cj_skip ?_
          refine hK15 _ _ _ ?_
          refine cj_seq (fun K18 hK18 => ?_)
          refine cj_block ?_
          refine cj_region ?_
          refine rj_val (wn0 rfl) rfl rfl (y_move rfl) ?_
          first | refine rj_val (wn0 rfl) rfl rfl (y_mul64 rfl rfl (by omega)) ?_ | refine rj_val (wn0 rfl) rfl rfl (y_mul rfl rfl) ?_
          refine rj_val (wn0 rfl) rfl rfl (y_move rfl) ?_
          refine rj_val (wn0 rfl) rfl rfl (y_move rfl) ?_
          refine rj_val (wn0 rfl) rfl rfl (y_index_s Try.underlying9 rfl rfl (by omega)) ?_
          first | refine rj_val (wn0 rfl) rfl rfl (y_conv_in Try.underlying5 Try.underlying3 rfl (by (simp only [IntKind.min, IntKind.max, IntKind.signed, IntKind.bits, Bool.false_eq_true, ite_false, ite_true]; omega))) ?_ | refine rj_val (wn0 rfl) rfl rfl (y_conv Try.underlying5 Try.underlying3 rfl) ?_
          first | refine rj_val (wn0 rfl) rfl rfl (y_add64 rfl rfl (by omega)) ?_ | refine rj_val (wn0 rfl) rfl rfl (y_add rfl rfl) ?_
          refine rj_val (wn0 rfl) rfl rfl (y_move rfl) ?_
          refine rj_val (wn0 rfl) rfl rfl (y_rem rfl rfl (by omega)) ?_
          refine rj_val (wn0 rfl) rfl rfl (y_assign rfl) ?_
          refine rj_nil ?_
          refine hK18 _ _ _ ?_
          refine cj_env (Env.le_cons (t := 1) rfl (Env.le_cons (t := 6) rfl (Env.le_cons (t := 8) rfl (Env.le_cons (t := 9) rfl (Env.le_nil _))))) ?_
          refine cj_region ?_
          refine rj_val (wn0 rfl) rfl rfl (y_move rfl) ?_
          first | refine rj_val (wn0 rfl) rfl rfl (y_add64 rfl rfl (by omega)) ?_ | refine rj_val (wn0 rfl) rfl rfl (y_add rfl rfl) ?_
          refine rj_val (wn0 rfl) rfl rfl (y_assign rfl) ?_
          refine rj_nil ?_
          refine ej_on (q' := roundK _ _ _ _ _ _ _) rfl ?_
          refine ej_round (i + 1) (by omega) (by omega) (Env.le_cons rfl (Env.le_cons rfl (Env.le_cons rfl (Env.le_cons (Eq.trans rfl (congrArg some (by first | rfl | (simp [wordOf]; done) | exact congrArg _ (modw_step _ i m hq (by omega) (by omega)).symm))) (Env.le_nil _))))) rfl (by (repeat (first | exact Sub.refl _ | (apply Sub.pick; focus (repeat (first | exact Find.head _ | apply Find.tail))) | apply Sub.drop)))
        · try simp only [decide_eq_true_eq, decide_eq_false_iff_not, Bool.not_eq_true', Bool.not_eq_false', Bool.true_eq_false, Bool.false_eq_true] at hc25
          refine cj_exit ?_
          refine hK13 _ _ _ ?_
          refine cj_env (Env.le_cons (t := 8) rfl (Env.le_nil _)) ?_
          refine cj_seq (fun K19 hK19 => ?_)
          refine cj_region ?_
          have ew : (takeM s k 8).1.take i = (takeM s k 8).1 := List.take_of_length_le (by omega)
          rw [ew]
          refine rj_val (wn0 rfl) rfl rfl (y_move rfl) ?_
          refine rj_val (wn0 rfl) rfl rfl (y_assign rfl) ?_
          refine rj_val (wn0 rfl) rfl rfl (y_assign rfl) ?_
          refine rj_nil ?_
          refine hK19 _ _ _ ?_
          refine cj_ret ?_
          refine hret _ _ _ ?_
          apply ej_ret Try.results14 (.cons (rv_tmp rfl) (.cons (rv_tmp rfl) .nil)) _ _ (Hp.le_refl _) rfl
          case hp => rw [hb]; exact ⟨rfl, rfl, rfl⟩
          case hS => (repeat (first | exact Sub.refl _ | (apply Sub.pick; focus (repeat (first | exact Find.head _ | apply Find.tail))) | apply Sub.drop))
end V
end Go.Proofs.Ytmgloghpaoodmaa
