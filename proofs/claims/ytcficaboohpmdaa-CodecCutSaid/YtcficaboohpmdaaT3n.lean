/- The laws CodecWrites, CodecUnlike, CodecJoins and CodecCut walked. -/
import Derived.Test.YtcficaboohpmdaaT3m
import Derived.Test.YtcficaboohpmdaaT3k
set_option linter.unusedSimpArgs false
set_option linter.unusedVariables false
namespace Go.Proofs.Ytcficaboohpmdaa
open Go.RowKit
namespace V
set_option maxHeartbeats 4000000
theorem writeM_ok {x : Nd} (h : (writeM x).2 = true) : rightB 20 x = true ∧ (wr x).length ≤ 16777216 ∧ writeM x = (wr x, true) := by
  unfold writeM at h ⊢
  split at h
  · rename_i hc; exact ⟨hc.1, hc.2, by rw [if_pos hc]⟩
  · cases h
theorem unlike {x y : Nd} (hx : OkN x) (hy : OkN y) (h1 : (writeM x).2 = true) (h2 : (writeM y).2 = true) (hne : ¬ x = y) : ¬ (wr x).take (min (wr x).length (wr y).length) = (wr y).take (min (wr x).length (wr y).length) := by
  obtain ⟨a1, a2, _⟩ := writeM_ok h1
  obtain ⟨b1, b2, _⟩ := writeM_ok h2
  have key : ∀ x y : Nd, OkN x → OkN y → rightB 20 x = true → rightB 20 y = true → (wr x).length ≤ 16777216 → (wr y).length ≤ 16777216 → (wr x).length ≤ (wr y).length → wr x = (wr y).take (wr x).length → x = y := by
    intro x y hx hy a1 b1 a2 b2 hl e
    have e2 : wr y = wr x ++ (wr y).drop (wr x).length := by
      have := List.take_append_drop (wr x).length (wr y)
      rw [← e] at this; exact this.symm
    have r1 := rd_wr 20 x ((wr y).drop (wr x).length) hx a1 (by omega)
    have r2 := rd_wr 20 y [] hy b1 (by omega)
    rw [List.append_nil, e2, r1] at r2
    simp at r2
    exact r2.1
  intro e
  rcases Nat.le_total (wr x).length (wr y).length with hl | hl
  · rw [Nat.min_eq_left hl, List.take_of_length_le (Nat.le_refl _)] at e
    exact hne (key x y hx hy a1 b1 a2 b2 hl e)
  · rw [Nat.min_eq_right hl, List.take_of_length_le (Nat.le_refl (wr y).length)] at e
    exact hne (key y x hy hx b1 a1 b2 a2 hl e.symm).symm
theorem cut_none {x : Nd} (hx : OkN x) (h : (writeM x).2 = true) {k : Nat} (hk : k < (wr x).length) : (readM ((wr x).take k)).2 = false := by
  obtain ⟨a1, a2, _⟩ := writeM_ok h
  cases hr : (readM ((wr x).take k)).2 with
  | false => rfl
  | true =>
    obtain ⟨b1, b2⟩ := readM_yes hr
    obtain ⟨c1, c2, c3⟩ := wr_rd 20 _ _ [] b1
    rw [List.append_nil] at c1
    have r1 := rd_wr 20 _ ((wr x).drop k) c3 c2 (by rw [← c1]; simp; omega)
    have r2 := rd_wr 20 x [] hx a1 (by omega)
    rw [← c1, List.take_append_drop] at r1
    rw [List.append_nil, r1] at r2
    simp at r2
    omega
theorem more_none {x : Nd} (hx : OkN x) (h : (writeM x).2 = true) (u : UInt8) : (readM (wr x ++ [u])).2 = false := by
  obtain ⟨a1, a2, _⟩ := writeM_ok h
  rw [readM_rest (fun _ => rd_wr 20 x [u] hx a1 (by omega)) (by simp)]
theorem kid_right {k : Int} {n : Nat} {s : List UInt8} {ks : List Nd} (h : (writeM (.mk k n s ks)).2 = true) (hk : k = 2) {y : Nd} (hy : y ∈ ks) : (writeM y).2 = true ∧ writeM y = (wr y, true) := by
  obtain ⟨a1, a2, _⟩ := writeM_ok h
  subst hk
  have h1 : rightB 19 y = true := by
    rw [rightB] at a1
    simp at a1
    exact a1.2 y hy
  have h2 : (wr y).length ≤ (wr (.mk 2 n s ks)).length := by
    rw [wr]
    obtain ⟨i, hi, rfl⟩ := List.getElem_of_mem hy
    have := wrs_le (l := ks) (i := i) (x := ks[i]) (by simp)
    simp; omega
  have : writeM y = (wr y, true) := by unfold writeM; rw [if_pos ⟨rightB_mono _ _ h1, by omega⟩]
  rw [this]; exact ⟨rfl, rfl⟩
theorem cost_big {x : Nd} (hx : OkN x) (hc : cost x ≤ 30000) : deepN x ≤ big ∧ (wr x).length ≤ big ∧ (wr x).length ≤ 30000 := by
  have h1 := deepN_cost x
  have h2 := wr_cost x hx (by omega)
  unfold big; omega
theorem writes_t {R : Hp} (v0 : Value) (l : List (Int × Int × List UInt8)) (h : slcR 3 (pairR 1 (intR .i64) (pairR 1 (intR .u64) strR)) R [v0] l) :
    Tri Try.prog 7 [v0] R [] (fun v _ _ => v = .bool true) := by
  have hl := steps_of h
  refine tri_of Try.func7 rfl Try.ntmps7 rfl (fun σ F Q hret hend hpan => ?_)
  try simp only [List.cons_append, List.nil_append]
  refine cj_env (Env.le_cons (t := 0) rfl (Env.le_nil _)) ?_
  refine cj_seq (fun K1 hK1 => ?_)
  refine cj_region ?_
  refine rj_val (wn0 rfl) rfl rfl (y_assign rfl) ?_
  refine rj_nil ?_
  refine hK1 _ _ _ ?_
  refine cj_seq (fun K2 hK2 => ?_)
  refine cj_seq (fun K3 hK3 => ?_)
  refine cj_region ?_
  refine rj_call (wn0 rfl) rfl Try.call9 rfl (awake_t) (by (repeat (first | exact Split.nil _ | (apply Split.cons; focus (repeat (first | exact Find.head _ | apply Find.tail)))))) (fun _ _ _ _ h => h.elim) ?_
  rintro v R0 L' hR0 ⟨rfl, rfl⟩
  try simp only [List.cons_append, List.nil_append]
  refine rj_val (wn0 rfl) rfl rfl (y_not rfl) ?_
  refine rj_nil ?_
  refine hK3 _ _ _ ?_
  refine cj_cond_f rfl ?_
  refine cj_skip ?_
  refine hK2 _ _ _ ?_
  refine cj_env (Env.le_cons (t := 0) rfl (Env.le_nil _)) ?_
  refine cj_seq (fun K4 hK4 => ?_)
  refine cj_region ?_
  refine rj_val (wn0 rfl) rfl rfl (y_move rfl) ?_
  refine rj_call (wn0 rfl) rfl Try.call16 rfl (tree_t v0 l (hl.mono hR0)) (by (repeat (first | exact Split.nil _ | (apply Split.cons; focus (repeat (first | exact Find.head _ | apply Find.tail)))))) (fun _ _ _ _ h => h.elim) ?_
  rintro r R1 L' hR1 ⟨rfl, x, cx, ok, rfl, hx, hox, hcx, -⟩
  obtain ⟨k1, n1, st1, l1, q1, cap1, hx1, rfl, _⟩ := id hx.inv
  have hbig := cost_big hox hcx
  try simp only [List.cons_append, List.nil_append]
  refine rj_val (wn0 rfl) rfl rfl (y_move rfl) ?_
  refine rj_val (wn0 rfl) rfl rfl (y_extract rfl rfl) ?_
  refine rj_val (wn0 rfl) rfl rfl (y_extract rfl rfl) ?_
  refine rj_alloc (wn0 rfl) rfl Try.zeroValue26 rfl (fun b3 => ?_)
  refine rj_stores ⟨Try.isAgg26, Try.sizeOf26⟩ rfl (wn0 rfl) rfl rfl (by (first | (simp [Value.oneCell']; done) | (intro u hu; simp only [List.mem_cons, List.not_mem_nil, or_false] at hu; rcases hu with rfl | rfl | rfl | rfl <;> first | rfl | assumption))) (by ((repeat (first | exact Find.head _ | apply Find.tail)); done)) (by (simp)) rfl ?_
  refine rj_val (wn0 rfl) rfl rfl (y_assign rfl) ?_
  refine rj_nil ?_
  refine hK4 _ _ _ ?_
  refine cj_env (Env.le_cons (t := 3) rfl (Env.le_cons (t := 4) rfl (Env.le_nil _))) ?_
  refine cj_seq (fun K5 hK5 => ?_)
  refine cj_seq (fun K6 hK6 => ?_)
  refine cj_region ?_
  refine rj_val (wn0 rfl) rfl rfl (y_move rfl) ?_
  refine rj_val (wn0 rfl) rfl rfl (y_not rfl) ?_
  refine rj_nil ?_
  refine hK6 _ _ _ ?_
  refine cj_cond rfl (fun hc19 => ?_) (fun hc19 => ?_)
  · try simp only [decide_eq_true_eq, decide_eq_false_iff_not, Bool.not_eq_true', Bool.not_eq_false', Bool.true_eq_false, Bool.false_eq_true] at hc19
    refine cj_seq (fun K8 hK8 => ?_)
    refine cj_region ?_
    refine rj_val (wn0 rfl) rfl rfl (y_assign rfl) ?_
    refine rj_nil ?_
    refine hK8 _ _ _ ?_
    refine cj_env (Env.le_cons (t := 2) rfl (Env.le_nil _)) ?_
    refine cj_ret ?_
    refine hret _ _ _ ?_
    apply ej_ret Try.results7 (.cons (rv_tmp rfl) .nil) _ [] (by first | exact hR0 | exact Hp.le_trans hR0 hR1 | exact Hp.le_trans hR0 (Hp.le_trans hR1 hR3)) rfl
    case hp => rfl
    case hS => (repeat (first | exact Sub.refl _ | (apply Sub.pick; focus (repeat (first | exact Find.head _ | apply Find.tail))) | apply Sub.drop | exact Sub.tailApp _ _))
  · try simp only [decide_eq_true_eq, decide_eq_false_iff_not, Bool.not_eq_true', Bool.not_eq_false', Bool.true_eq_false, Bool.false_eq_true] at hc19
    refine cj_skip ?_
    refine hK5 _ _ _ ?_
    refine cj_env (Env.le_cons (t := 3) rfl (Env.le_nil _)) ?_
    refine cj_seq (fun K9 hK9 => ?_)
    refine cj_region ?_
    first | refine rj_val (wn0 rfl) rfl rfl (y_loads_blk ⟨Try.isAgg26, Try.sizeOf26⟩ rfl (by ((repeat (first | exact Find.head _ | apply Find.tail)); done)) rfl rfl) ?_ | refine rj_val (wn0 rfl) rfl rfl (y_loads_slc ⟨Try.isAgg26, Try.sizeOf26⟩ rfl (by ((repeat (first | exact Find.head _ | apply Find.tail)); done)) rfl rfl (by (first | omega | (dsimp only; omega) | (simp; done) | (simp; omega)))) ?_
    refine rj_val (wn0 rfl) rfl rfl (y_call Try.call13 rfl (write_t x _ hx hox) (by (repeat (first | exact Split.nil _ | (apply Split.cons; focus (repeat (first | exact Find.head _ | apply Find.tail))))))) ?_
    refine rj_val (wn0 rfl) rfl rfl (y_move rfl) ?_
    refine rj_val (wn0 rfl) rfl rfl (y_extract rfl rfl) ?_
    refine rj_val (wn0 rfl) rfl rfl (y_extract rfl rfl) ?_
    refine rj_val (wn0 rfl) rfl rfl (y_assign rfl) ?_
    refine rj_val (wn0 rfl) rfl rfl (y_assign rfl) ?_
    refine rj_nil ?_
    refine hK9 _ _ _ ?_
    refine cj_env (Env.le_cons (t := 3) rfl (Env.le_cons (t := 5) rfl (Env.le_cons (t := 6) rfl (Env.le_nil _)))) ?_
    refine cj_seq (fun K10 hK10 => ?_)
    refine cj_region ?_
    first | refine rj_val (wn0 rfl) rfl rfl (y_loads_blk ⟨Try.isAgg26, Try.sizeOf26⟩ rfl (by ((repeat (first | exact Find.head _ | apply Find.tail)); done)) rfl rfl) ?_ | refine rj_val (wn0 rfl) rfl rfl (y_loads_slc ⟨Try.isAgg26, Try.sizeOf26⟩ rfl (by ((repeat (first | exact Find.head _ | apply Find.tail)); done)) rfl rfl (by (first | omega | (dsimp only; omega) | (simp; done) | (simp; omega)))) ?_
    refine rj_val (wn0 rfl) rfl rfl (y_call Try.call17 rfl (rwrite_q x _ hx hox hbig.1 hbig.2.1) (by (repeat (first | exact Split.nil _ | (apply Split.cons; focus (repeat (first | exact Find.head _ | apply Find.tail))))))) ?_
    refine rj_val (wn0 rfl) rfl rfl (y_move rfl) ?_
    refine rj_val (wn0 rfl) rfl rfl (y_extract rfl rfl) ?_
    refine rj_val (wn0 rfl) rfl rfl (y_extract rfl rfl) ?_
    refine rj_val (wn0 rfl) rfl rfl (y_assign rfl) ?_
    refine rj_val (wn0 rfl) rfl rfl (y_assign rfl) ?_
    refine rj_nil ?_
    refine hK10 _ _ _ ?_
    refine cj_env (Env.le_cons (t := 3) rfl (Env.le_cons (t := 5) rfl (Env.le_cons (t := 6) rfl (Env.le_cons (t := 7) rfl (Env.le_cons (t := 8) rfl (Env.le_nil _)))))) ?_
    refine cj_seq (fun K11 hK11 => ?_)
    refine cj_seq (fun K12 hK12 => ?_)
    refine cj_draw (by kernel_rfl) (by kernel_rfl) ?_
    refine qj_val (wn0 rfl) rfl rfl (y_move rfl) ?_
    refine qj_val (wn0 rfl) rfl rfl (y_move rfl) ?_
    refine qj_val (wn0 rfl) rfl rfl (y_sneq rfl rfl) ?_
    refine qj_eq 32 rfl (v' := .bool false) (by simp) ?_
    refine qj_val (wn0 rfl) rfl rfl (y_move rfl) ?_
    refine qj_val (wn1 rfl rfl rfl rfl) rfl rfl (y_move rfl) ?_
    refine qj_val (wn1 rfl rfl rfl rfl) rfl rfl (y_move rfl) ?_
    refine qj_val (wn1 rfl rfl rfl rfl) rfl rfl (y_bneq Try.underlying4 rfl rfl) ?_
    refine qj_eq 36 rfl (v' := .bool false) (by simp) ?_
    refine qj_val (wn0 rfl) rfl rfl (y_pick_f rfl rfl) ?_
    refine qj_val (wn0 rfl) rfl rfl (y_move rfl) ?_
    first | refine qj_val (wn1 rfl rfl rfl rfl) rfl rfl (y_loads_blk ⟨Try.isAgg26, Try.sizeOf26⟩ rfl (by ((repeat (first | exact Find.head _ | apply Find.tail)); done)) rfl rfl) ?_ | refine qj_val (wn1 rfl rfl rfl rfl) rfl rfl (y_loads_slc ⟨Try.isAgg26, Try.sizeOf26⟩ rfl (by ((repeat (first | exact Find.head _ | apply Find.tail)); done)) rfl rfl (by (first | omega | (dsimp only; omega) | (simp; done) | (simp; omega)))) ?_
    refine qj_val (wn1 rfl rfl rfl rfl) rfl rfl (y_call Try.call15 rfl (isRight_q x _ hx) (by (repeat (first | exact Split.nil _ | (apply Split.cons; focus (repeat (first | exact Find.head _ | apply Find.tail))))))) ?_
    first | refine qj_val (wn1 rfl rfl rfl rfl) rfl rfl (y_loads_blk ⟨Try.isAgg26, Try.sizeOf26⟩ rfl (by ((repeat (first | exact Find.head _ | apply Find.tail)); done)) rfl rfl) ?_ | refine qj_val (wn1 rfl rfl rfl rfl) rfl rfl (y_loads_slc ⟨Try.isAgg26, Try.sizeOf26⟩ rfl (by ((repeat (first | exact Find.head _ | apply Find.tail)); done)) rfl rfl (by (first | omega | (dsimp only; omega) | (simp; done) | (simp; omega)))) ?_
    refine qj_val (wn1 rfl rfl rfl rfl) rfl rfl (y_call Try.call18 rfl (rright_q x _ hx hbig.1) (by (repeat (first | exact Split.nil _ | (apply Split.cons; focus (repeat (first | exact Find.head _ | apply Find.tail))))))) ?_
    refine qj_val (wn1 rfl rfl rfl rfl) rfl rfl (y_bneq Try.underlying4 rfl rfl) ?_
    refine qj_eq 43 rfl (v' := .bool false) (by simp) ?_
    refine qj_val (wn0 rfl) rfl rfl (y_pick_f rfl rfl) ?_
    refine qj_nil ?_
    refine hK12 _ _ _ ?_
    refine cj_env (Env.le_cons (t := 3) rfl (Env.le_cons (t := 5) rfl (Env.le_cons (t := 6) rfl (Env.le_cons (t := 44) rfl (Env.le_nil _))))) ?_
    refine cj_cond_f rfl ?_
    refine cj_skip ?_
    refine hK11 _ _ _ ?_
    refine cj_seq (fun K13 hK13 => ?_)
    refine cj_seq (fun K14 hK14 => ?_)
    refine cj_region ?_
    refine rj_val (wn0 rfl) rfl rfl (y_move rfl) ?_
    refine rj_val (wn0 rfl) rfl rfl (y_not rfl) ?_
    refine rj_nil ?_
    refine hK14 _ _ _ ?_
    refine cj_env (Env.le_cons (t := 3) rfl (Env.le_cons (t := 5) rfl (Env.le_cons (t := 46) rfl (Env.le_nil _)))) ?_
    refine cj_cond rfl (fun hc46 => ?_) (fun hc46 => ?_)
    · try simp only [decide_eq_true_eq, decide_eq_false_iff_not, Bool.not_eq_true', Bool.not_eq_false', Bool.true_eq_false, Bool.false_eq_true] at hc46
      refine cj_seq (fun K16 hK16 => ?_)
      refine cj_region ?_
      refine rj_val (wn0 rfl) rfl rfl (y_assign rfl) ?_
      refine rj_nil ?_
      refine hK16 _ _ _ ?_
      refine cj_env (Env.le_cons (t := 2) rfl (Env.le_nil _)) ?_
      refine cj_ret ?_
      refine hret _ _ _ ?_
      apply ej_ret Try.results7 (.cons (rv_tmp rfl) .nil) _ [] (by first | exact hR0 | exact Hp.le_trans hR0 hR1 | exact Hp.le_trans hR0 (Hp.le_trans hR1 hR3)) rfl
      case hp => rfl
      case hS => (repeat (first | exact Sub.refl _ | (apply Sub.pick; focus (repeat (first | exact Find.head _ | apply Find.tail))) | apply Sub.drop | exact Sub.tailApp _ _))
    · try simp only [decide_eq_true_eq, decide_eq_false_iff_not, Bool.not_eq_true', Bool.not_eq_false', Bool.true_eq_false, Bool.false_eq_true] at hc46
      refine cj_skip ?_
      refine hK13 _ _ _ ?_
      refine cj_seq (fun K17 hK17 => ?_)
      refine cj_region ?_
      have hwok : (writeM x).2 = true := by simpa using hc46
      have hwm := writeM_ok hwok
      rw [hwm.2.2]
      dsimp only
      refine rj_val (wn0 rfl) rfl rfl (y_move rfl) ?_
      refine rj_call (wn0 rfl) rfl Try.call10 rfl (read_t (wr x) hbig.2.1) (by (repeat (first | exact Split.nil _ | (apply Split.cons; focus (repeat (first | exact Find.head _ | apply Find.tail)))))) (fun _ _ _ _ h => h.elim) ?_
      rintro r R3 L' hR3 ⟨cy, rfl, hy, rfl⟩
      rw [readM_wr hox hwm.1 hwm.2.1] at hy ⊢
      obtain ⟨k2, n2, st2, l2, q2, cap2, hx2, rfl, _⟩ := id hy.inv
      try simp only [List.cons_append, List.nil_append]
      refine rj_val (wn0 rfl) rfl rfl (y_move rfl) ?_
      refine rj_val (wn0 rfl) rfl rfl (y_extract rfl rfl) ?_
      refine rj_val (wn0 rfl) rfl rfl (y_extract rfl rfl) ?_
      refine rj_alloc (wn0 rfl) rfl Try.zeroValue26 rfl (fun b9 => ?_)
      refine rj_stores ⟨Try.isAgg26, Try.sizeOf26⟩ rfl (wn0 rfl) rfl rfl (by (first | (simp [Value.oneCell']; done) | (intro u hu; simp only [List.mem_cons, List.not_mem_nil, or_false] at hu; rcases hu with rfl | rfl | rfl | rfl <;> first | rfl | assumption))) (by ((repeat (first | exact Find.head _ | apply Find.tail)); done)) (by (simp)) rfl ?_
      refine rj_val (wn0 rfl) rfl rfl (y_assign rfl) ?_
      refine rj_nil ?_
      refine hK17 _ _ _ ?_
      refine cj_env (Env.le_cons (t := 3) rfl (Env.le_cons (t := 9) rfl (Env.le_cons (t := 10) rfl (Env.le_nil _)))) ?_
      refine cj_seq (fun K18 hK18 => ?_)
      refine cj_region ?_
      refine rj_val (wn0 rfl) rfl rfl (y_move rfl) ?_
      refine rj_val (wn0 rfl) rfl rfl (y_move rfl) ?_
      first | refine rj_val (wn1 rfl rfl rfl rfl) rfl rfl (y_loads_blk ⟨Try.isAgg26, Try.sizeOf26⟩ rfl (by ((repeat (first | exact Find.head _ | apply Find.tail)); done)) rfl rfl) ?_ | refine rj_val (wn1 rfl rfl rfl rfl) rfl rfl (y_loads_slc ⟨Try.isAgg26, Try.sizeOf26⟩ rfl (by ((repeat (first | exact Find.head _ | apply Find.tail)); done)) rfl rfl (by (first | omega | (dsimp only; omega) | (simp; done) | (simp; omega)))) ?_
      first | refine rj_val (wn1 rfl rfl rfl rfl) rfl rfl (y_loads_blk ⟨Try.isAgg26, Try.sizeOf26⟩ rfl (by ((repeat (first | exact Find.head _ | apply Find.tail)); done)) rfl rfl) ?_ | refine rj_val (wn1 rfl rfl rfl rfl) rfl rfl (y_loads_slc ⟨Try.isAgg26, Try.sizeOf26⟩ rfl (by ((repeat (first | exact Find.head _ | apply Find.tail)); done)) rfl rfl (by (first | omega | (dsimp only; omega) | (simp; done) | (simp; omega)))) ?_
      refine rj_val (wn1 rfl rfl rfl rfl) rfl rfl (y_call Try.call19 rfl (same_q _ x x _ _ (Nat.le_refl _) hy (hx.mono hR3)) (by (repeat (first | exact Split.nil _ | (apply Split.cons; focus (repeat (first | exact Find.head _ | apply Find.tail))))))) ?_
      refine rj_eq 56 rfl (v' := .bool true) (by rw [same_iff.2 rfl]) ?_
      refine rj_val (wn0 rfl) rfl rfl (y_pick_t rfl rfl) ?_
      refine rj_val (wn0 rfl) rfl rfl (y_move rfl) ?_
      first | refine rj_val (wn1 rfl rfl rfl rfl) rfl rfl (y_loads_blk ⟨Try.isAgg26, Try.sizeOf26⟩ rfl (by ((repeat (first | exact Find.head _ | apply Find.tail)); done)) rfl rfl) ?_ | refine rj_val (wn1 rfl rfl rfl rfl) rfl rfl (y_loads_slc ⟨Try.isAgg26, Try.sizeOf26⟩ rfl (by ((repeat (first | exact Find.head _ | apply Find.tail)); done)) rfl rfl (by (first | omega | (dsimp only; omega) | (simp; done) | (simp; omega)))) ?_
      first | refine rj_val (wn1 rfl rfl rfl rfl) rfl rfl (y_loads_blk ⟨Try.isAgg26, Try.sizeOf26⟩ rfl (by ((repeat (first | exact Find.head _ | apply Find.tail)); done)) rfl rfl) ?_ | refine rj_val (wn1 rfl rfl rfl rfl) rfl rfl (y_loads_slc ⟨Try.isAgg26, Try.sizeOf26⟩ rfl (by ((repeat (first | exact Find.head _ | apply Find.tail)); done)) rfl rfl (by (first | omega | (dsimp only; omega) | (simp; done) | (simp; omega)))) ?_
      refine rj_val (wn1 rfl rfl rfl rfl) rfl rfl (y_call Try.call12 rfl (rsame_q _ x x _ _ (Nat.le_refl _) hy (hx.mono hR3)) (by (repeat (first | exact Split.nil _ | (apply Split.cons; focus (repeat (first | exact Find.head _ | apply Find.tail))))))) ?_
      refine rj_eq 61 rfl (v' := .bool true) (by rw [same_iff.2 rfl]) ?_
      refine rj_val (wn0 rfl) rfl rfl (y_pick_t rfl rfl) ?_
      refine rj_val (wn0 rfl) rfl rfl (y_assign rfl) ?_
      refine rj_nil ?_
      refine hK18 _ _ _ ?_
      refine cj_env (Env.le_cons (t := 2) rfl (Env.le_nil _)) ?_
      refine cj_ret ?_
      refine hret _ _ _ ?_
      apply ej_ret Try.results7 (.cons (rv_tmp rfl) .nil) _ [] (by first | exact hR0 | exact Hp.le_trans hR0 hR1 | exact Hp.le_trans hR0 (Hp.le_trans hR1 hR3)) rfl
      case hp => rfl
      case hS => (repeat (first | exact Sub.refl _ | (apply Sub.pick; focus (repeat (first | exact Find.head _ | apply Find.tail))) | apply Sub.drop | exact Sub.tailApp _ _))
theorem unlike_t {R : Hp} (v0 : Value) (l : List (Int × Int × List UInt8)) (h : slcR 3 (pairR 1 (intR .i64) (pairR 1 (intR .u64) strR)) R [v0] l)
    (v1 : Value) (l' : List (Int × Int × List UInt8)) (h' : slcR 3 (pairR 1 (intR .i64) (pairR 1 (intR .u64) strR)) R [v1] l') :
    Tri Try.prog 8 [v0, v1] R [] (fun v _ _ => v = .bool true) := by
  have hl := steps_of h
  have hl' := steps_of h'
  refine tri_of Try.func8 rfl Try.ntmps8 rfl (fun σ F Q hret hend hpan => ?_)
  try simp only [List.cons_append, List.nil_append]
  refine cj_env (Env.le_cons (t := 0) rfl (Env.le_cons (t := 1) rfl (Env.le_nil _))) ?_
  refine cj_seq (fun K1 hK1 => ?_)
  refine cj_region ?_
  refine rj_val (wn0 rfl) rfl rfl (y_assign rfl) ?_
  refine rj_nil ?_
  refine hK1 _ _ _ ?_
  refine cj_seq (fun K2 hK2 => ?_)
  refine cj_seq (fun K3 hK3 => ?_)
  refine cj_region ?_
  refine rj_call (wn0 rfl) rfl Try.call9 rfl (awake_t) (by (repeat (first | exact Split.nil _ | (apply Split.cons; focus (repeat (first | exact Find.head _ | apply Find.tail)))))) (fun _ _ _ _ h => h.elim) ?_
  rintro v R0 L' hR0 ⟨rfl, rfl⟩
  try simp only [List.cons_append, List.nil_append]
  refine rj_val (wn0 rfl) rfl rfl (y_not rfl) ?_
  refine rj_nil ?_
  refine hK3 _ _ _ ?_
  refine cj_cond_f rfl ?_
  refine cj_skip ?_
  refine hK2 _ _ _ ?_
  refine cj_env (Env.le_cons (t := 0) rfl (Env.le_cons (t := 1) rfl (Env.le_nil _))) ?_
  refine cj_seq (fun K4 hK4 => ?_)
  refine cj_region ?_
  refine rj_val (wn0 rfl) rfl rfl (y_move rfl) ?_
  refine rj_call (wn0 rfl) rfl Try.call16 rfl (tree_t v0 l (hl.mono hR0)) (by (repeat (first | exact Split.nil _ | (apply Split.cons; focus (repeat (first | exact Find.head _ | apply Find.tail)))))) (fun _ _ _ _ h => h.elim) ?_
  rintro r R1 L' hR1 ⟨rfl, x, cx, ok, rfl, hx, hox, hcx, -⟩
  obtain ⟨k1, n1, st1, l1, q1, cap1, hx1, rfl, _⟩ := id hx.inv
  have hbig := cost_big hox hcx
  try simp only [List.cons_append, List.nil_append]
  refine rj_val (wn0 rfl) rfl rfl (y_move rfl) ?_
  refine rj_val (wn0 rfl) rfl rfl (y_extract rfl rfl) ?_
  refine rj_val (wn0 rfl) rfl rfl (y_extract rfl rfl) ?_
  refine rj_alloc (wn0 rfl) rfl Try.zeroValue26 rfl (fun b5 => ?_)
  refine rj_stores ⟨Try.isAgg26, Try.sizeOf26⟩ rfl (wn0 rfl) rfl rfl (by (first | (simp [Value.oneCell']; done) | (intro u hu; simp only [List.mem_cons, List.not_mem_nil, or_false] at hu; rcases hu with rfl | rfl | rfl | rfl <;> first | rfl | assumption))) (by ((repeat (first | exact Find.head _ | apply Find.tail)); done)) (by (simp)) rfl ?_
  refine rj_val (wn0 rfl) rfl rfl (y_assign rfl) ?_
  refine rj_nil ?_
  refine hK4 _ _ _ ?_
  refine cj_env (Env.le_cons (t := 1) rfl (Env.le_cons (t := 5) rfl (Env.le_cons (t := 6) rfl (Env.le_nil _)))) ?_
  refine cj_seq (fun K5 hK5 => ?_)
  refine cj_region ?_
  refine rj_val (wn0 rfl) rfl rfl (y_move rfl) ?_
  refine rj_call (wn0 rfl) rfl Try.call16 rfl (tree_t v1 l' (hl'.mono (Hp.le_trans hR0 hR1))) (by (repeat (first | exact Split.nil _ | (apply Split.cons; focus (repeat (first | exact Find.head _ | apply Find.tail)))))) (fun _ _ _ _ h => h.elim) ?_
  rintro r R2 L' hR2 ⟨rfl, y, cy, ok', rfl, hy, hoy, hcy, -⟩
  obtain ⟨k2, n2, st2, l2, q2, cap2, hx2, rfl, _⟩ := id hy.inv
  have hbig' := cost_big hoy hcy
  have hxx := hx.mono hR2
  try simp only [List.cons_append, List.nil_append]
  refine rj_val (wn0 rfl) rfl rfl (y_move rfl) ?_
  refine rj_val (wn0 rfl) rfl rfl (y_extract rfl rfl) ?_
  refine rj_val (wn0 rfl) rfl rfl (y_extract rfl rfl) ?_
  refine rj_alloc (wn0 rfl) rfl Try.zeroValue26 rfl (fun b7 => ?_)
  refine rj_stores ⟨Try.isAgg26, Try.sizeOf26⟩ rfl (wn0 rfl) rfl rfl (by (first | (simp [Value.oneCell']; done) | (intro u hu; simp only [List.mem_cons, List.not_mem_nil, or_false] at hu; rcases hu with rfl | rfl | rfl | rfl <;> first | rfl | assumption))) (by ((repeat (first | exact Find.head _ | apply Find.tail)); done)) (by (simp)) rfl ?_
  refine rj_val (wn0 rfl) rfl rfl (y_assign rfl) ?_
  refine rj_nil ?_
  refine hK5 _ _ _ ?_
  refine cj_env (Env.le_cons (t := 5) rfl (Env.le_cons (t := 6) rfl (Env.le_cons (t := 7) rfl (Env.le_cons (t := 8) rfl (Env.le_nil _))))) ?_
  refine cj_seq (fun K6 hK6 => ?_)
  refine cj_seq (fun K7 hK7 => ?_)
  refine cj_region ?_
  refine rj_val (wn0 rfl) rfl rfl (y_move rfl) ?_
  refine rj_val (wn0 rfl) rfl rfl (y_not rfl) ?_
  refine rj_val (wn0 rfl) rfl rfl (y_move rfl) ?_
  refine rj_part 28 rfl (fun hg28 => ?_) (fun hg28 => ?_)
  · try simp only [decide_eq_true_eq, decide_eq_false_iff_not, Bool.not_eq_true', Bool.not_eq_false', Bool.true_eq_false, Bool.false_eq_true] at hg28
    refine rj_skip (wn2 rfl rfl rfl rfl rfl) rfl rfl ?_
    refine rj_skip (wn2 rfl rfl rfl rfl rfl) rfl rfl ?_
    refine rj_val (wn0 rfl) rfl rfl (y_pick_t rfl rfl) ?_
    refine rj_nil ?_
    refine hK7 _ _ _ ?_
    refine cj_env (Env.le_cons (t := 5) rfl (Env.le_cons (t := 7) rfl (Env.le_cons (t := 31) rfl (Env.le_nil _)))) ?_
    refine cj_cond_t rfl ?_
    refine cj_seq (fun K8 hK8 => ?_)
    refine cj_region ?_
    refine rj_val (wn0 rfl) rfl rfl (y_assign rfl) ?_
    refine rj_nil ?_
    refine hK8 _ _ _ ?_
    refine cj_env (Env.le_cons (t := 4) rfl (Env.le_nil _)) ?_
    refine cj_ret ?_
    refine hret _ _ _ ?_
    apply ej_ret Try.results8 (.cons (rv_tmp rfl) .nil) _ [] (by first | exact hR0 | exact Hp.le_trans hR0 (Hp.le_trans hR1 hR2)) rfl
    case hp => rfl
    case hS => (repeat (first | exact Sub.refl _ | (apply Sub.pick; focus (repeat (first | exact Find.head _ | apply Find.tail))) | apply Sub.drop | exact Sub.tailApp _ _))
  · try simp only [decide_eq_true_eq, decide_eq_false_iff_not, Bool.not_eq_true', Bool.not_eq_false', Bool.true_eq_false, Bool.false_eq_true] at hg28
    refine rj_val (wn1 rfl rfl rfl rfl) rfl rfl (y_move rfl) ?_
    refine rj_val (wn1 rfl rfl rfl rfl) rfl rfl (y_not rfl) ?_
    refine rj_val (wn0 rfl) rfl rfl (y_pick_f rfl rfl) ?_
    refine rj_nil ?_
    refine hK7 _ _ _ ?_
    refine cj_env (Env.le_cons (t := 5) rfl (Env.le_cons (t := 7) rfl (Env.le_cons (t := 31) rfl (Env.le_nil _)))) ?_
    refine cj_cond rfl (fun hc31 => ?_) (fun hc31 => ?_)
    · try simp only [decide_eq_true_eq, decide_eq_false_iff_not, Bool.not_eq_true', Bool.not_eq_false', Bool.true_eq_false, Bool.false_eq_true] at hc31
      refine cj_seq (fun K10 hK10 => ?_)
      refine cj_region ?_
      refine rj_val (wn0 rfl) rfl rfl (y_assign rfl) ?_
      refine rj_nil ?_
      refine hK10 _ _ _ ?_
      refine cj_env (Env.le_cons (t := 4) rfl (Env.le_nil _)) ?_
      refine cj_ret ?_
      refine hret _ _ _ ?_
      apply ej_ret Try.results8 (.cons (rv_tmp rfl) .nil) _ [] (by first | exact hR0 | exact Hp.le_trans hR0 (Hp.le_trans hR1 hR2)) rfl
      case hp => rfl
      case hS => (repeat (first | exact Sub.refl _ | (apply Sub.pick; focus (repeat (first | exact Find.head _ | apply Find.tail))) | apply Sub.drop | exact Sub.tailApp _ _))
    · try simp only [decide_eq_true_eq, decide_eq_false_iff_not, Bool.not_eq_true', Bool.not_eq_false', Bool.true_eq_false, Bool.false_eq_true] at hc31
      refine cj_skip ?_
      refine hK6 _ _ _ ?_
      refine cj_seq (fun K11 hK11 => ?_)
      refine cj_region ?_
      first | refine rj_val (wn0 rfl) rfl rfl (y_loads_blk ⟨Try.isAgg26, Try.sizeOf26⟩ rfl (by ((repeat (first | exact Find.head _ | apply Find.tail)); done)) rfl rfl) ?_ | refine rj_val (wn0 rfl) rfl rfl (y_loads_slc ⟨Try.isAgg26, Try.sizeOf26⟩ rfl (by ((repeat (first | exact Find.head _ | apply Find.tail)); done)) rfl rfl (by (first | omega | (dsimp only; omega) | (simp; done) | (simp; omega)))) ?_
      refine rj_val (wn0 rfl) rfl rfl (y_call Try.call13 rfl (write_t x _ hxx hox) (by (repeat (first | exact Split.nil _ | (apply Split.cons; focus (repeat (first | exact Find.head _ | apply Find.tail))))))) ?_
      refine rj_val (wn0 rfl) rfl rfl (y_move rfl) ?_
      refine rj_val (wn0 rfl) rfl rfl (y_extract rfl rfl) ?_
      refine rj_val (wn0 rfl) rfl rfl (y_extract rfl rfl) ?_
      refine rj_val (wn0 rfl) rfl rfl (y_assign rfl) ?_
      refine rj_val (wn0 rfl) rfl rfl (y_assign rfl) ?_
      refine rj_nil ?_
      refine hK11 _ _ _ ?_
      refine cj_env (Env.le_cons (t := 5) rfl (Env.le_cons (t := 7) rfl (Env.le_cons (t := 9) rfl (Env.le_cons (t := 10) rfl (Env.le_nil _))))) ?_
      refine cj_seq (fun K12 hK12 => ?_)
      refine cj_region ?_
      first | refine rj_val (wn0 rfl) rfl rfl (y_loads_blk ⟨Try.isAgg26, Try.sizeOf26⟩ rfl (by ((repeat (first | exact Find.head _ | apply Find.tail)); done)) rfl rfl) ?_ | refine rj_val (wn0 rfl) rfl rfl (y_loads_slc ⟨Try.isAgg26, Try.sizeOf26⟩ rfl (by ((repeat (first | exact Find.head _ | apply Find.tail)); done)) rfl rfl (by (first | omega | (dsimp only; omega) | (simp; done) | (simp; omega)))) ?_
      refine rj_val (wn0 rfl) rfl rfl (y_call Try.call13 rfl (write_t y _ hy hoy) (by (repeat (first | exact Split.nil _ | (apply Split.cons; focus (repeat (first | exact Find.head _ | apply Find.tail))))))) ?_
      refine rj_val (wn0 rfl) rfl rfl (y_move rfl) ?_
      refine rj_val (wn0 rfl) rfl rfl (y_extract rfl rfl) ?_
      refine rj_val (wn0 rfl) rfl rfl (y_extract rfl rfl) ?_
      refine rj_val (wn0 rfl) rfl rfl (y_assign rfl) ?_
      refine rj_val (wn0 rfl) rfl rfl (y_assign rfl) ?_
      refine rj_nil ?_
      refine hK12 _ _ _ ?_
      refine cj_env (Env.le_cons (t := 5) rfl (Env.le_cons (t := 7) rfl (Env.le_cons (t := 9) rfl (Env.le_cons (t := 10) rfl (Env.le_cons (t := 11) rfl (Env.le_cons (t := 12) rfl (Env.le_nil _))))))) ?_
      refine cj_seq (fun K13 hK13 => ?_)
      refine cj_seq (fun K14 hK14 => ?_)
      refine cj_region ?_
      refine rj_val (wn0 rfl) rfl rfl (y_move rfl) ?_
      refine rj_val (wn0 rfl) rfl rfl (y_not rfl) ?_
      refine rj_val (wn0 rfl) rfl rfl (y_move rfl) ?_
      refine rj_part 44 rfl (fun hg44 => ?_) (fun hg44 => ?_)
      · try simp only [decide_eq_true_eq, decide_eq_false_iff_not, Bool.not_eq_true', Bool.not_eq_false', Bool.true_eq_false, Bool.false_eq_true] at hg44
        refine rj_skip (wn2 rfl rfl rfl rfl rfl) rfl rfl ?_
        refine rj_skip (wn2 rfl rfl rfl rfl rfl) rfl rfl ?_
        refine rj_val (wn0 rfl) rfl rfl (y_pick_t rfl rfl) ?_
        refine rj_nil ?_
        refine hK14 _ _ _ ?_
        refine cj_env (Env.le_cons (t := 5) rfl (Env.le_cons (t := 7) rfl (Env.le_cons (t := 9) rfl (Env.le_cons (t := 11) rfl (Env.le_cons (t := 47) rfl (Env.le_nil _)))))) ?_
        refine cj_cond_t rfl ?_
        refine cj_seq (fun K15 hK15 => ?_)
        refine cj_region ?_
        refine rj_val (wn0 rfl) rfl rfl (y_assign rfl) ?_
        refine rj_nil ?_
        refine hK15 _ _ _ ?_
        refine cj_env (Env.le_cons (t := 4) rfl (Env.le_nil _)) ?_
        refine cj_ret ?_
        refine hret _ _ _ ?_
        apply ej_ret Try.results8 (.cons (rv_tmp rfl) .nil) _ [] (by first | exact hR0 | exact Hp.le_trans hR0 (Hp.le_trans hR1 hR2)) rfl
        case hp => rfl
        case hS => (repeat (first | exact Sub.refl _ | (apply Sub.pick; focus (repeat (first | exact Find.head _ | apply Find.tail))) | apply Sub.drop | exact Sub.tailApp _ _))
      · try simp only [decide_eq_true_eq, decide_eq_false_iff_not, Bool.not_eq_true', Bool.not_eq_false', Bool.true_eq_false, Bool.false_eq_true] at hg44
        refine rj_val (wn1 rfl rfl rfl rfl) rfl rfl (y_move rfl) ?_
        refine rj_val (wn1 rfl rfl rfl rfl) rfl rfl (y_not rfl) ?_
        refine rj_val (wn0 rfl) rfl rfl (y_pick_f rfl rfl) ?_
        refine rj_nil ?_
        refine hK14 _ _ _ ?_
        refine cj_env (Env.le_cons (t := 5) rfl (Env.le_cons (t := 7) rfl (Env.le_cons (t := 9) rfl (Env.le_cons (t := 11) rfl (Env.le_cons (t := 47) rfl (Env.le_nil _)))))) ?_
        refine cj_cond rfl (fun hc47 => ?_) (fun hc47 => ?_)
        · try simp only [decide_eq_true_eq, decide_eq_false_iff_not, Bool.not_eq_true', Bool.not_eq_false', Bool.true_eq_false, Bool.false_eq_true] at hc47
          refine cj_seq (fun K17 hK17 => ?_)
          refine cj_region ?_
          refine rj_val (wn0 rfl) rfl rfl (y_assign rfl) ?_
          refine rj_nil ?_
          refine hK17 _ _ _ ?_
          refine cj_env (Env.le_cons (t := 4) rfl (Env.le_nil _)) ?_
          refine cj_ret ?_
          refine hret _ _ _ ?_
          apply ej_ret Try.results8 (.cons (rv_tmp rfl) .nil) _ [] (by first | exact hR0 | exact Hp.le_trans hR0 (Hp.le_trans hR1 hR2)) rfl
          case hp => rfl
          case hS => (repeat (first | exact Sub.refl _ | (apply Sub.pick; focus (repeat (first | exact Find.head _ | apply Find.tail))) | apply Sub.drop | exact Sub.tailApp _ _))
        · try simp only [decide_eq_true_eq, decide_eq_false_iff_not, Bool.not_eq_true', Bool.not_eq_false', Bool.true_eq_false, Bool.false_eq_true] at hc47
          refine cj_skip ?_
          refine hK13 _ _ _ ?_
          refine cj_seq (fun K18 hK18 => ?_)
          refine cj_seq (fun K19 hK19 => ?_)
          refine cj_region ?_
          obtain ⟨hw1, hw2⟩ : (writeM x).2 = true ∧ (writeM y).2 = true := ⟨by simpa using hg44, by simpa using hc47⟩
          have e1 := (writeM_ok hw1).2.2
          have e2 := (writeM_ok hw2).2.2
          rw [e1, e2]
          dsimp only
          first | refine rj_val (wn0 rfl) rfl rfl (y_loads_blk ⟨Try.isAgg26, Try.sizeOf26⟩ rfl (by ((repeat (first | exact Find.head _ | apply Find.tail)); done)) rfl rfl) ?_ | refine rj_val (wn0 rfl) rfl rfl (y_loads_slc ⟨Try.isAgg26, Try.sizeOf26⟩ rfl (by ((repeat (first | exact Find.head _ | apply Find.tail)); done)) rfl rfl (by (first | omega | (dsimp only; omega) | (simp; done) | (simp; omega)))) ?_
          first | refine rj_val (wn0 rfl) rfl rfl (y_loads_blk ⟨Try.isAgg26, Try.sizeOf26⟩ rfl (by ((repeat (first | exact Find.head _ | apply Find.tail)); done)) rfl rfl) ?_ | refine rj_val (wn0 rfl) rfl rfl (y_loads_slc ⟨Try.isAgg26, Try.sizeOf26⟩ rfl (by ((repeat (first | exact Find.head _ | apply Find.tail)); done)) rfl rfl (by (first | omega | (dsimp only; omega) | (simp; done) | (simp; omega)))) ?_
          refine rj_val (wn0 rfl) rfl rfl (y_call Try.call19 rfl (same_q _ x y _ _ (Nat.le_refl _) hxx hy) (by (repeat (first | exact Split.nil _ | (apply Split.cons; focus (repeat (first | exact Find.head _ | apply Find.tail))))))) ?_
          refine rj_nil ?_
          refine hK19 _ _ _ ?_
          refine cj_env (Env.le_cons (t := 9) rfl (Env.le_cons (t := 11) rfl (Env.le_cons (t := 50) rfl (Env.le_nil _)))) ?_
          refine cj_cond rfl (fun hc50 => ?_) (fun hc50 => ?_)
          · (try simp only [decide_eq_true_eq, decide_eq_false_iff_not, Bool.not_eq_true', Bool.not_eq_false', Bool.true_eq_false, Bool.false_eq_true] at hc50); obtain rfl := same_iff.1 hc50
            refine cj_seq (fun K21 hK21 => ?_)
            refine cj_region ?_
            refine rj_val (wn0 rfl) rfl rfl (y_move rfl) ?_
            refine rj_val (wn0 rfl) rfl rfl (y_move rfl) ?_
            refine rj_val (wn0 rfl) rfl rfl (y_seql rfl rfl) ?_
            refine rj_eq 53 rfl (v' := .bool true) (by simp) ?_
            refine rj_val (wn0 rfl) rfl rfl (y_assign rfl) ?_
            refine rj_nil ?_
            refine hK21 _ _ _ ?_
            refine cj_env (Env.le_cons (t := 4) rfl (Env.le_nil _)) ?_
            refine cj_ret ?_
            refine hret _ _ _ ?_
            apply ej_ret Try.results8 (.cons (rv_tmp rfl) .nil) _ [] (by first | exact hR0 | exact Hp.le_trans hR0 (Hp.le_trans hR1 hR2)) rfl
            case hp => rfl
            case hS => (repeat (first | exact Sub.refl _ | (apply Sub.pick; focus (repeat (first | exact Find.head _ | apply Find.tail))) | apply Sub.drop | exact Sub.tailApp _ _))
          · (try simp only [decide_eq_true_eq, decide_eq_false_iff_not, Bool.not_eq_true', Bool.not_eq_false', Bool.true_eq_false, Bool.false_eq_true] at hc50); have hne := same_not.1 hc50
            have hun := unlike hox hoy hw1 hw2 hne
            refine cj_skip ?_
            refine hK18 _ _ _ ?_
            refine cj_seq (fun K22 hK22 => ?_)
            refine cj_region ?_
            refine rj_val (wn0 rfl) rfl rfl (y_move rfl) ?_
            refine rj_val (wn0 rfl) rfl rfl (y_slen Try.underlying9 rfl) ?_
            refine rj_val (wn0 rfl) rfl rfl (y_move rfl) ?_
            refine rj_val (wn0 rfl) rfl rfl (y_slen Try.underlying9 rfl) ?_
            refine rj_val (wn0 rfl) rfl rfl (y_min rfl rfl) ?_
            refine rj_eq 58 rfl (v' := .int .i64 ((min (wr x).length (wr y).length : Nat) : Int)) (by congr 1; omega) ?_
            refine rj_val (wn0 rfl) rfl rfl (y_assign rfl) ?_
            refine rj_nil ?_
            refine hK22 _ _ _ ?_
            refine cj_env (Env.le_cons (t := 9) rfl (Env.le_cons (t := 11) rfl (Env.le_cons (t := 13) rfl (Env.le_nil _)))) ?_
            refine cj_seq (fun K23 hK23 => ?_)
            refine cj_draw (by kernel_rfl) (by kernel_rfl) ?_
            refine qj_val (wn0 rfl) rfl rfl (y_move rfl) ?_
            refine qj_val (wn0 rfl) rfl rfl (y_move rfl) ?_
            refine qj_val (wn0 rfl) rfl rfl ((y_slice_s_hi Try.underlying9 rfl rfl (by omega)).to (show _ = Value.string (str ((wr x).take (min (wr x).length (wr y).length))) from rfl)) ?_
            refine qj_val (wn0 rfl) rfl rfl (y_move rfl) ?_
            refine qj_val (wn0 rfl) rfl rfl (y_move rfl) ?_
            refine qj_val (wn0 rfl) rfl rfl ((y_slice_s_hi Try.underlying9 rfl rfl (by omega)).to (show _ = Value.string (str ((wr y).take (min (wr x).length (wr y).length))) from rfl)) ?_
            refine qj_val (wn0 rfl) rfl rfl (y_sneq rfl rfl) ?_
            refine qj_eq 65 rfl (v' := .bool true) (by simp only [hun]; rfl) ?_
            refine qj_val (wn0 rfl) rfl rfl (y_assign rfl) ?_
            refine qj_nil ?_
            refine hK23 _ _ _ ?_
            refine cj_env (Env.le_cons (t := 4) rfl (Env.le_nil _)) ?_
            refine cj_ret ?_
            refine hret _ _ _ ?_
            apply ej_ret Try.results8 (.cons (rv_tmp rfl) .nil) _ [] (by first | exact hR0 | exact Hp.le_trans hR0 (Hp.le_trans hR1 hR2)) rfl
            case hp => rfl
            case hS => (repeat (first | exact Sub.refl _ | (apply Sub.pick; focus (repeat (first | exact Find.head _ | apply Find.tail))) | apply Sub.drop | exact Sub.tailApp _ _))
theorem joins_t {R : Hp} (v0 : Value) (l : List (Int × Int × List UInt8)) (h : slcR 3 (pairR 1 (intR .i64) (pairR 1 (intR .u64) strR)) R [v0] l) :
    Tri Try.prog 5 [v0] R [] (fun v _ _ => v = .bool true) := by
  have hl := steps_of h
  refine tri_of Try.func5 rfl Try.ntmps5 rfl (fun σ F Q hret hend hpan => ?_)
  try simp only [List.cons_append, List.nil_append]
  refine cj_env (Env.le_cons (t := 0) rfl (Env.le_nil _)) ?_
  refine cj_seq (fun K1 hK1 => ?_)
  refine cj_region ?_
  refine rj_val (wn0 rfl) rfl rfl (y_assign rfl) ?_
  refine rj_nil ?_
  refine hK1 _ _ _ ?_
  refine cj_seq (fun K2 hK2 => ?_)
  refine cj_seq (fun K3 hK3 => ?_)
  refine cj_region ?_
  refine rj_call (wn0 rfl) rfl Try.call9 rfl (awake_t) (by (repeat (first | exact Split.nil _ | (apply Split.cons; focus (repeat (first | exact Find.head _ | apply Find.tail)))))) (fun _ _ _ _ h => h.elim) ?_
  rintro v R0 L' hR0 ⟨rfl, rfl⟩
  try simp only [List.cons_append, List.nil_append]
  refine rj_val (wn0 rfl) rfl rfl (y_not rfl) ?_
  refine rj_nil ?_
  refine hK3 _ _ _ ?_
  refine cj_cond_f rfl ?_
  refine cj_skip ?_
  refine hK2 _ _ _ ?_
  refine cj_env (Env.le_cons (t := 0) rfl (Env.le_nil _)) ?_
  refine cj_seq (fun K4 hK4 => ?_)
  refine cj_region ?_
  refine rj_val (wn0 rfl) rfl rfl (y_move rfl) ?_
  refine rj_call (wn0 rfl) rfl Try.call16 rfl (tree_t v0 l (hl.mono hR0)) (by (repeat (first | exact Split.nil _ | (apply Split.cons; focus (repeat (first | exact Find.head _ | apply Find.tail)))))) (fun _ _ _ _ h => h.elim) ?_
  rintro r R1 L' hR1 ⟨rfl, x, cx, ok, rfl, hx, hox, hcx, k0, n0, s0, ks, hxe, hk60, hok2⟩
  obtain ⟨k1, n1, st1, l1, q1, cap1, hx1, rfl, hsb, hl1⟩ := id hx.inv
  have hbig := cost_big hox hcx
  obtain ⟨rfl, rfl, rfl, rfl⟩ : k0 = k1 ∧ n0 = n1 ∧ s0 = st1 ∧ ks = l1 := by rw [hxe] at hx1; cases hx1; exact ⟨rfl, rfl, rfl, rfl⟩
  have hokk : ∀ y ∈ ks, OkN y := by rw [hxe] at hox; cases hox with | mk _ h2 => exact h2
  try simp only [List.cons_append, List.nil_append]
  refine rj_val (wn0 rfl) rfl rfl (y_move rfl) ?_
  refine rj_val (wn0 rfl) rfl rfl (y_extract rfl rfl) ?_
  refine rj_val (wn0 rfl) rfl rfl (y_extract rfl rfl) ?_
  refine rj_alloc (wn0 rfl) rfl Try.zeroValue26 rfl (fun b3 => ?_)
  refine rj_stores ⟨Try.isAgg26, Try.sizeOf26⟩ rfl (wn0 rfl) rfl rfl (by (first | (simp [Value.oneCell']; done) | (intro u hu; simp only [List.mem_cons, List.not_mem_nil, or_false] at hu; rcases hu with rfl | rfl | rfl | rfl <;> first | rfl | assumption))) (by ((repeat (first | exact Find.head _ | apply Find.tail)); done)) (by (simp)) rfl ?_
  refine rj_val (wn0 rfl) rfl rfl (y_assign rfl) ?_
  refine rj_nil ?_
  refine hK4 _ _ _ ?_
  refine cj_env (Env.le_cons (t := 3) rfl (Env.le_cons (t := 4) rfl (Env.le_nil _))) ?_
  refine cj_seq (fun K5 hK5 => ?_)
  refine cj_seq (fun K6 hK6 => ?_)
  refine cj_region ?_
  refine rj_val (wn0 rfl) rfl rfl (y_move rfl) ?_
  refine rj_val (wn0 rfl) rfl rfl (y_not rfl) ?_
  refine rj_nil ?_
  refine hK6 _ _ _ ?_
  refine cj_cond rfl (fun hc20 => ?_) (fun hc20 => ?_)
  · try simp only [decide_eq_true_eq, decide_eq_false_iff_not, Bool.not_eq_true', Bool.not_eq_false', Bool.true_eq_false, Bool.false_eq_true] at hc20
    refine cj_seq (fun K8 hK8 => ?_)
    refine cj_region ?_
    refine rj_val (wn0 rfl) rfl rfl (y_assign rfl) ?_
    refine rj_nil ?_
    refine hK8 _ _ _ ?_
    refine cj_env (Env.le_cons (t := 2) rfl (Env.le_nil _)) ?_
    refine cj_ret ?_
    refine hret _ _ _ ?_
    apply ej_ret Try.results5 (.cons (rv_tmp rfl) .nil) _ [] (by first | exact hR0 | exact Hp.le_trans hR0 hR1) rfl
    case hp => rfl
    case hS => (repeat (first | exact Sub.refl _ | (apply Sub.pick; focus (repeat (first | exact Find.head _ | apply Find.tail))) | apply Sub.drop | exact Sub.tailApp _ _))
  · try simp only [decide_eq_true_eq, decide_eq_false_iff_not, Bool.not_eq_true', Bool.not_eq_false', Bool.true_eq_false, Bool.false_eq_true] at hc20
    refine cj_skip ?_
    refine hK5 _ _ _ ?_
    refine cj_env (Env.le_cons (t := 3) rfl (Env.le_nil _)) ?_
    refine cj_seq (fun K9 hK9 => ?_)
    refine cj_region ?_
    first | refine rj_val (wn0 rfl) rfl rfl (y_loads_blk ⟨Try.isAgg26, Try.sizeOf26⟩ rfl (by ((repeat (first | exact Find.head _ | apply Find.tail)); done)) rfl rfl) ?_ | refine rj_val (wn0 rfl) rfl rfl (y_loads_slc ⟨Try.isAgg26, Try.sizeOf26⟩ rfl (by ((repeat (first | exact Find.head _ | apply Find.tail)); done)) rfl rfl (by (first | omega | (dsimp only; omega) | (simp; done) | (simp; omega)))) ?_
    refine rj_val (wn0 rfl) rfl rfl (y_call Try.call13 rfl (write_t x _ hx hox) (by (repeat (first | exact Split.nil _ | (apply Split.cons; focus (repeat (first | exact Find.head _ | apply Find.tail))))))) ?_
    refine rj_val (wn0 rfl) rfl rfl (y_move rfl) ?_
    refine rj_val (wn0 rfl) rfl rfl (y_extract rfl rfl) ?_
    refine rj_val (wn0 rfl) rfl rfl (y_extract rfl rfl) ?_
    refine rj_val (wn0 rfl) rfl rfl (y_assign rfl) ?_
    refine rj_val (wn0 rfl) rfl rfl (y_assign rfl) ?_
    refine rj_nil ?_
    refine hK9 _ _ _ ?_
    refine cj_env (Env.le_cons (t := 3) rfl (Env.le_cons (t := 5) rfl (Env.le_cons (t := 6) rfl (Env.le_nil _)))) ?_
    refine cj_seq (fun K10 hK10 => ?_)
    refine cj_seq (fun K11 hK11 => ?_)
    refine cj_region ?_
    refine rj_val (wn0 rfl) rfl rfl (y_move rfl) ?_
    refine rj_val (wn0 rfl) rfl rfl (y_not rfl) ?_
    refine rj_nil ?_
    refine hK11 _ _ _ ?_
    refine cj_cond rfl (fun hc27 => ?_) (fun hc27 => ?_)
    · try simp only [decide_eq_true_eq, decide_eq_false_iff_not, Bool.not_eq_true', Bool.not_eq_false', Bool.true_eq_false, Bool.false_eq_true] at hc27
      refine cj_seq (fun K13 hK13 => ?_)
      refine cj_region ?_
      refine rj_val (wn0 rfl) rfl rfl (y_assign rfl) ?_
      refine rj_nil ?_
      refine hK13 _ _ _ ?_
      refine cj_env (Env.le_cons (t := 2) rfl (Env.le_nil _)) ?_
      refine cj_ret ?_
      refine hret _ _ _ ?_
      apply ej_ret Try.results5 (.cons (rv_tmp rfl) .nil) _ [] (by first | exact hR0 | exact Hp.le_trans hR0 hR1) rfl
      case hp => rfl
      case hS => (repeat (first | exact Sub.refl _ | (apply Sub.pick; focus (repeat (first | exact Find.head _ | apply Find.tail))) | apply Sub.drop | exact Sub.tailApp _ _))
    · try simp only [decide_eq_true_eq, decide_eq_false_iff_not, Bool.not_eq_true', Bool.not_eq_false', Bool.true_eq_false, Bool.false_eq_true] at hc27
      refine cj_skip ?_
      refine hK10 _ _ _ ?_
      refine cj_env (Env.le_cons (t := 3) rfl (Env.le_cons (t := 5) rfl (Env.le_nil _))) ?_
      refine cj_seq (fun K14 hK14 => ?_)
      refine cj_region ?_
      obtain rfl : ok = true := by simpa using hc20
      obtain ⟨rfl, rfl, rfl⟩ := hok2 rfl
      have hwok : (writeM x).2 = true := by simpa using hc27
      have hwm := writeM_ok hwok
      rw [hwm.2.2]
      dsimp only
      have hwx : wr x = 108 :: UInt8.ofNat ks.length :: wrs ks := by rw [hxe, wr]; simp [sizeB_small (show ks.length < 128 by omega)]
      have hwl : (wrs ks).length ≤ 30000 := by have := hbig.2.2; rw [hwx] at this; simp at this; omega
      refine rj_val (wn0 rfl) rfl rfl (y_fieldAddr (k := 3) Try.underlying26 rfl (n := 1) (by decide) Try.sizeOf24 rfl) ?_
      first | refine rj_val (wn0 rfl) rfl rfl (y_load ⟨Try.isAgg24, Try.sizeOf24⟩ rfl (by ((repeat (first | exact Find.head _ | apply Find.tail)); done)) rfl) ?_ | refine rj_val (wn0 rfl) rfl rfl (y_load_slc ⟨Try.isAgg24, Try.sizeOf24⟩ rfl (by ((repeat (first | exact Find.head _ | apply Find.tail)); done)) rfl) ?_
      first | refine rj_val (wn0 rfl) rfl rfl (y_len_sl Try.underlying24 rfl) ?_ | refine rj_val (wn0 rfl) rfl rfl (y_len_slc Try.underlying24 rfl (by ((repeat (first | exact Find.head _ | apply Find.tail)); done))) ?_
      first | refine rj_val (wn0 rfl) rfl rfl (y_conv_in Try.underlying3 Try.underlying5 rfl (by (simp only [IntKind.min, IntKind.max, IntKind.signed, IntKind.bits, Bool.false_eq_true, ite_false, ite_true]; omega))) ?_ | refine rj_val (wn0 rfl) rfl rfl (y_conv Try.underlying3 Try.underlying5 rfl) ?_
      refine rj_eq 31 rfl (v' := .int .u8 ((UInt8.ofNat ks.length).toNat : Int)) (by congr 1; simp; omega) ?_
      refine rj_buildSlice (sz := 1) (wn0 rfl) rfl Try.underlying38 Try.sizeOf5 Try.zeroValue5 rfl rfl rfl (by decide) (by decide) (fun b32 => ?_)
      refine rj_val (wn0 rfl) rfl rfl ((y_str_slc (bs := [UInt8.ofNat ks.length]) Try.underlying38 Try.underlying5 Try.underlying9 rfl (by ((repeat (first | exact Find.head _ | apply Find.tail)); done)))) ?_
      refine rj_val (wn0 rfl) rfl rfl (y_sadd rfl rfl (by (first | omega | (dsimp only; omega) | (simp; done) | (simp; omega)))) ?_
      refine rj_val (wn0 rfl) rfl rfl (y_assign rfl) ?_
      refine rj_nil ?_
      refine hK14 _ _ _ ?_
      refine cj_env (Env.le_cons (t := 3) rfl (Env.le_cons (t := 5) rfl (Env.le_cons (t := 7) rfl (Env.le_nil _)))) ?_
      refine cj_seq (fun K15 hK15 => ?_)
      refine cj_seq (fun K16 hK16 => ?_)
      refine cj_region ?_
      refine rj_val (wn0 rfl) rfl rfl (y_fieldAddr (k := 3) Try.underlying26 rfl (n := 1) (by decide) Try.sizeOf24 rfl) ?_
      first | refine rj_val (wn0 rfl) rfl rfl (y_load ⟨Try.isAgg24, Try.sizeOf24⟩ rfl (by ((repeat (first | exact Find.head _ | apply Find.tail)); done)) rfl) ?_ | refine rj_val (wn0 rfl) rfl rfl (y_load_slc ⟨Try.isAgg24, Try.sizeOf24⟩ rfl (by ((repeat (first | exact Find.head _ | apply Find.tail)); done)) rfl) ?_
      first | refine rj_val (wn0 rfl) rfl rfl (y_len_sl Try.underlying24 rfl) ?_ | refine rj_val (wn0 rfl) rfl rfl (y_len_slc Try.underlying24 rfl (by ((repeat (first | exact Find.head _ | apply Find.tail)); done))) ?_
      refine rj_val (wn0 rfl) rfl rfl (y_move rfl) ?_
      refine rj_nil ?_
      refine hK16 _ _ _ ?_
      refine cj_block ?_
      refine cj_env (E' := (fun (x0 : Nat) => [(3, .pointer (some ⟨b3, 0, none⟩)), (5, .string (str (wr x))), (7, .string (str (108 :: UInt8.ofNat ks.length :: wrs (ks.take x0)))), (36, .slice q1 ks.length cap1), (37, .int .i64 (ks.length : Int)), (38, .int .i64 (x0 : Int))]) 0) (Env.le_cons rfl (Env.le_cons rfl (Env.le_cons rfl (Env.le_cons rfl (Env.le_cons rfl (Env.le_cons rfl (Env.le_nil _))))))) ?_
      refine cj_sub (M := (fun (x0 : Nat) => blk b3 [.int .i64 2, .int .u64 ((0 : Nat) : Int), .string (str []), .slice q1 ks.length cap1] 26 :: F) 0) (by (repeat (first | exact Sub.refl _ | (apply Sub.pick; focus (repeat (first | exact Find.head _ | apply Find.tail))) | apply Sub.drop | exact Sub.tailApp _ _))) ?_
      refine cj_loop (fun (x0 : Nat) => [(3, .pointer (some ⟨b3, 0, none⟩)), (5, .string (str (wr x))), (7, .string (str (108 :: UInt8.ofNat ks.length :: wrs (ks.take x0)))), (36, .slice q1 ks.length cap1), (37, .int .i64 (ks.length : Int)), (38, .int .i64 (x0 : Int))]) (fun (x0 : Nat) => R1) (fun (x0 : Nat) => blk b3 [.int .i64 2, .int .u64 ((0 : Nat) : Int), .string (str []), .slice q1 ks.length cap1] 26 :: F) (fun (x0 : Nat) => x0 ≤ ks.length) (fun (x0 : Nat) => ks.length - x0) 0 (by simp) ?_
      rintro i hI11
      try dsimp only
      refine cj_seq (fun K17 hK17 => ?_)
      refine cj_region ?_
      refine rj_val (wn0 rfl) rfl rfl (y_lss rfl rfl) ?_
      refine rj_nil ?_
      refine hK17 _ _ _ ?_
      refine cj_seq (fun K18 hK18 => ?_)
      refine cj_cond rfl (fun hc39 => ?_) (fun hc39 => ?_)
      · try simp only [decide_eq_true_eq, decide_eq_false_iff_not, Bool.not_eq_true', Bool.not_eq_false', Bool.true_eq_false, Bool.false_eq_true] at hc39
        refine cj_skip ?_
        refine hK18 _ _ _ ?_
        refine cj_seq (fun K20 hK20 => ?_)
        refine cj_block ?_
        refine cj_seq (fun K21 hK21 => ?_)
        refine cj_region ?_
        obtain ⟨y, hy⟩ : ∃ y, ks[i]? = some y := ⟨ks[i]'(by omega), by simp⟩
        obtain ⟨b, off, cs, rfl, hc4, hrep, hcell⟩ := hl1.at hy
        obtain ⟨k2, n2, st2, l2, q2, cap2, hy2, rfl, _⟩ := id hrep.inv
        have hky := kid_right (by rw [← hxe]; exact hwok) rfl (List.mem_of_getElem? hy)
        have hle := wrs_le hy
        have hsn := wrs_take hy
        first | refine rj_val (wn0 rfl) rfl rfl (y_indexAddr Try.underlying24 Try.sizeOf26 rfl rfl (by (first | omega | (dsimp only; omega) | (simp; done) | (simp; omega)))) ?_ | refine rj_val (wn0 rfl) rfl rfl (y_index_slc Try.underlying24 Try.sizeOf26 rfl rfl (by ((repeat (first | exact Find.head _ | apply Find.tail)); done)) (by (first | omega | (dsimp only; omega) | (simp; done) | (simp; omega)))) ?_
        refine rj_val (wn0 rfl) rfl rfl ((y_loads_ro ⟨Try.isAgg26, Try.sizeOf26⟩ (vs := [.int .i64 k2, .int .u64 ((n2 : Nat) : Int), .string (str st2), .slice q2 l2.length cap2]) rfl rfl (fun j u hj => by simpa using hcell j u hj))) ?_
        refine rj_alloc (wn0 rfl) rfl Try.zeroValue26 rfl (fun b9 => ?_)
        refine rj_stores ⟨Try.isAgg26, Try.sizeOf26⟩ rfl (wn0 rfl) rfl rfl (by (first | (simp [Value.oneCell']; done) | (intro u hu; simp only [List.mem_cons, List.not_mem_nil, or_false] at hu; rcases hu with rfl | rfl | rfl | rfl <;> first | rfl | assumption))) (by ((repeat (first | exact Find.head _ | apply Find.tail)); done)) (by (simp)) rfl ?_
        refine rj_nil ?_
        refine hK21 _ _ _ ?_
        refine cj_env (Env.le_cons (t := 3) rfl (Env.le_cons (t := 5) rfl (Env.le_cons (t := 7) rfl (Env.le_cons (t := 9) rfl (Env.le_cons (t := 36) rfl (Env.le_cons (t := 37) rfl (Env.le_cons (t := 38) rfl (Env.le_nil _)))))))) ?_
        refine cj_seq (fun K22 hK22 => ?_)
        refine cj_region ?_
        first | refine rj_val (wn0 rfl) rfl rfl (y_loads_blk ⟨Try.isAgg26, Try.sizeOf26⟩ rfl (by ((repeat (first | exact Find.head _ | apply Find.tail)); done)) rfl rfl) ?_ | refine rj_val (wn0 rfl) rfl rfl (y_loads_slc ⟨Try.isAgg26, Try.sizeOf26⟩ rfl (by ((repeat (first | exact Find.head _ | apply Find.tail)); done)) rfl rfl (by (first | omega | (dsimp only; omega) | (simp; done) | (simp; omega)))) ?_
        refine rj_val (wn0 rfl) rfl rfl (y_call Try.call13 rfl (write_t y _ hrep (hokk y (List.mem_of_getElem? hy))) (by (repeat (first | exact Split.nil _ | (apply Split.cons; focus (repeat (first | exact Find.head _ | apply Find.tail))))))) ?_
        rw [hky.2]
        dsimp only
        refine rj_val (wn0 rfl) rfl rfl (y_move rfl) ?_
        refine rj_val (wn0 rfl) rfl rfl (y_extract rfl rfl) ?_
        refine rj_val (wn0 rfl) rfl rfl (y_extract rfl rfl) ?_
        refine rj_val (wn0 rfl) rfl rfl (y_assign rfl) ?_
        refine rj_val (wn0 rfl) rfl rfl (y_assign rfl) ?_
        refine rj_nil ?_
        refine hK22 _ _ _ ?_
        refine cj_env (Env.le_cons (t := 3) rfl (Env.le_cons (t := 5) rfl (Env.le_cons (t := 7) rfl (Env.le_cons (t := 10) rfl (Env.le_cons (t := 11) rfl (Env.le_cons (t := 36) rfl (Env.le_cons (t := 37) rfl (Env.le_cons (t := 38) rfl (Env.le_nil _))))))))) ?_
        refine cj_seq (fun K23 hK23 => ?_)
        refine cj_seq (fun K24 hK24 => ?_)
        refine cj_region ?_
        refine rj_val (wn0 rfl) rfl rfl (y_move rfl) ?_
        refine rj_val (wn0 rfl) rfl rfl (y_not rfl) ?_
        refine rj_nil ?_
        refine hK24 _ _ _ ?_
        refine cj_cond_f rfl ?_
        refine cj_skip ?_
        refine hK23 _ _ _ ?_
        refine cj_env (Env.le_cons (t := 3) rfl (Env.le_cons (t := 5) rfl (Env.le_cons (t := 7) rfl (Env.le_cons (t := 10) rfl (Env.le_cons (t := 36) rfl (Env.le_cons (t := 37) rfl (Env.le_cons (t := 38) rfl (Env.le_nil _)))))))) ?_
        refine cj_region ?_
        refine rj_val (wn0 rfl) rfl rfl (y_move rfl) ?_
        refine rj_val (wn0 rfl) rfl rfl (y_move rfl) ?_
        refine rj_val (wn0 rfl) rfl rfl (y_sadd rfl rfl (by (first | omega | (dsimp only; omega) | (simp; done) | (simp; omega)))) ?_
        refine rj_eq 51 rfl (v' := .string (str (108 :: UInt8.ofNat ks.length :: wrs (ks.take (i + 1))))) (by rw [hsn]; simp) ?_
        refine rj_val (wn0 rfl) rfl rfl (y_assign rfl) ?_
        refine rj_nil ?_
        refine hK20 _ _ _ ?_
        refine cj_env (Env.le_cons (t := 3) rfl (Env.le_cons (t := 5) rfl (Env.le_cons (t := 7) rfl (Env.le_cons (t := 36) rfl (Env.le_cons (t := 37) rfl (Env.le_cons (t := 38) rfl (Env.le_nil _))))))) ?_
        refine cj_region ?_
        first | refine rj_val (wn0 rfl) rfl rfl (y_add64 rfl rfl (by (first | omega | (dsimp only; omega) | (simp; done) | (simp; omega)))) ?_ | refine rj_val (wn0 rfl) rfl rfl (y_add rfl rfl) ?_
        refine rj_val (wn0 rfl) rfl rfl (y_move rfl) ?_
        refine rj_nil ?_
        refine ej_on (q' := roundK _ _ _ _ _ _ _) rfl ?_
        refine ej_round (i + 1) (by omega) (by omega) (Env.le_cons rfl (Env.le_cons rfl (Env.le_cons rfl (Env.le_cons rfl (Env.le_cons rfl (Env.le_cons rfl (Env.le_nil _))))))) rfl (by (repeat (first | exact Sub.refl _ | (apply Sub.pick; focus (repeat (first | exact Find.head _ | apply Find.tail))) | apply Sub.drop | exact Sub.tailApp _ _)))
      · try simp only [decide_eq_true_eq, decide_eq_false_iff_not, Bool.not_eq_true', Bool.not_eq_false', Bool.true_eq_false, Bool.false_eq_true] at hc39
        refine cj_exit ?_
        refine hK15 _ _ _ ?_
        refine cj_env (Env.le_cons (t := 5) rfl (Env.le_cons (t := 7) rfl (Env.le_nil _))) ?_
        refine cj_seq (fun K25 hK25 => ?_)
        refine cj_region ?_
        refine rj_val (wn0 rfl) rfl rfl (y_move rfl) ?_
        refine rj_val (wn0 rfl) rfl rfl (y_move rfl) ?_
        refine rj_val (wn0 rfl) rfl rfl (y_seql rfl rfl) ?_
        refine rj_eq 55 rfl (v' := .bool true) (by simp; rw [hwx, List.take_of_length_le (by omega)]) ?_
        refine rj_val (wn0 rfl) rfl rfl (y_assign rfl) ?_
        refine rj_nil ?_
        refine hK25 _ _ _ ?_
        refine cj_env (Env.le_cons (t := 2) rfl (Env.le_nil _)) ?_
        refine cj_ret ?_
        refine hret _ _ _ ?_
        apply ej_ret Try.results5 (.cons (rv_tmp rfl) .nil) _ [] (by first | exact hR0 | exact Hp.le_trans hR0 hR1) rfl
        case hp => rfl
        case hS => (repeat (first | exact Sub.refl _ | (apply Sub.pick; focus (repeat (first | exact Find.head _ | apply Find.tail))) | apply Sub.drop | exact Sub.tailApp _ _))
theorem cut_t {R : Hp} (v0 : Value) (l : List (Int × Int × List UInt8)) (h : slcR 3 (pairR 1 (intR .i64) (pairR 1 (intR .u64) strR)) R [v0] l) (k : Int) (hk : IntKind.u16.min ≤ k ∧ k ≤ IntKind.u16.max) (u : Int) (hu : IntKind.u8.min ≤ u ∧ u ≤ IntKind.u8.max) :
    Tri Try.prog 6 [v0, .int .u16 k, .int .u8 u] R [] (fun v _ _ => v = .bool true) := by
  have hl := steps_of h
  have hk2 : 0 ≤ k ∧ k ≤ 65535 := hk
  have hu2 : 0 ≤ u ∧ u ≤ 255 := hu
  obtain ⟨k, rfl⟩ := Int.eq_ofNat_of_zero_le hk2.1
  refine tri_of Try.func6 rfl Try.ntmps6 rfl (fun σ F Q hret hend hpan => ?_)
  try simp only [List.cons_append, List.nil_append]
  refine cj_env (Env.le_cons (t := 0) rfl (Env.le_cons (t := 1) rfl (Env.le_cons (t := 2) rfl (Env.le_nil _)))) ?_
  refine cj_seq (fun K1 hK1 => ?_)
  refine cj_region ?_
  refine rj_val (wn0 rfl) rfl rfl (y_assign rfl) ?_
  refine rj_nil ?_
  refine hK1 _ _ _ ?_
  refine cj_seq (fun K2 hK2 => ?_)
  refine cj_seq (fun K3 hK3 => ?_)
  refine cj_region ?_
  refine rj_call (wn0 rfl) rfl Try.call9 rfl (awake_t) (by (repeat (first | exact Split.nil _ | (apply Split.cons; focus (repeat (first | exact Find.head _ | apply Find.tail)))))) (fun _ _ _ _ h => h.elim) ?_
  rintro v R0 L' hR0 ⟨rfl, rfl⟩
  try simp only [List.cons_append, List.nil_append]
  refine rj_val (wn0 rfl) rfl rfl (y_not rfl) ?_
  refine rj_nil ?_
  refine hK3 _ _ _ ?_
  refine cj_cond_f rfl ?_
  refine cj_skip ?_
  refine hK2 _ _ _ ?_
  refine cj_env (Env.le_cons (t := 0) rfl (Env.le_cons (t := 1) rfl (Env.le_cons (t := 2) rfl (Env.le_nil _)))) ?_
  refine cj_seq (fun K4 hK4 => ?_)
  refine cj_region ?_
  refine rj_val (wn0 rfl) rfl rfl (y_move rfl) ?_
  refine rj_call (wn0 rfl) rfl Try.call16 rfl (tree_t v0 l (hl.mono hR0)) (by (repeat (first | exact Split.nil _ | (apply Split.cons; focus (repeat (first | exact Find.head _ | apply Find.tail)))))) (fun _ _ _ _ h => h.elim) ?_
  rintro r R1 L' hR1 ⟨rfl, x, cx, ok, rfl, hx, hox, hcx, -⟩
  obtain ⟨k1, n1, st1, l1, q1, cap1, hx1, rfl, hsb, hl1⟩ := id hx.inv
  have hbig := cost_big hox hcx
  try simp only [List.cons_append, List.nil_append]
  refine rj_val (wn0 rfl) rfl rfl (y_move rfl) ?_
  refine rj_val (wn0 rfl) rfl rfl (y_extract rfl rfl) ?_
  refine rj_val (wn0 rfl) rfl rfl (y_extract rfl rfl) ?_
  refine rj_alloc (wn0 rfl) rfl Try.zeroValue26 rfl (fun b7 => ?_)
  refine rj_stores ⟨Try.isAgg26, Try.sizeOf26⟩ rfl (wn0 rfl) rfl rfl (by (first | (simp [Value.oneCell']; done) | (intro u hu; simp only [List.mem_cons, List.not_mem_nil, or_false] at hu; rcases hu with rfl | rfl | rfl | rfl <;> first | rfl | assumption))) (by ((repeat (first | exact Find.head _ | apply Find.tail)); done)) (by (simp)) rfl ?_
  refine rj_val (wn0 rfl) rfl rfl (y_assign rfl) ?_
  refine rj_nil ?_
  refine hK4 _ _ _ ?_
  refine cj_env (Env.le_cons (t := 1) rfl (Env.le_cons (t := 2) rfl (Env.le_cons (t := 7) rfl (Env.le_cons (t := 8) rfl (Env.le_nil _))))) ?_
  refine cj_seq (fun K5 hK5 => ?_)
  refine cj_seq (fun K6 hK6 => ?_)
  refine cj_region ?_
  refine rj_val (wn0 rfl) rfl rfl (y_move rfl) ?_
  refine rj_val (wn0 rfl) rfl rfl (y_not rfl) ?_
  refine rj_nil ?_
  refine hK6 _ _ _ ?_
  refine cj_cond rfl (fun hc23 => ?_) (fun hc23 => ?_)
  · try simp only [decide_eq_true_eq, decide_eq_false_iff_not, Bool.not_eq_true', Bool.not_eq_false', Bool.true_eq_false, Bool.false_eq_true] at hc23
    refine cj_seq (fun K8 hK8 => ?_)
    refine cj_region ?_
    refine rj_val (wn0 rfl) rfl rfl (y_assign rfl) ?_
    refine rj_nil ?_
    refine hK8 _ _ _ ?_
    refine cj_env (Env.le_cons (t := 6) rfl (Env.le_nil _)) ?_
    refine cj_ret ?_
    refine hret _ _ _ ?_
    apply ej_ret Try.results6 (.cons (rv_tmp rfl) .nil) _ [] (by first | exact hR0 | exact Hp.le_trans hR0 hR1 | exact Hp.le_trans hR0 (Hp.le_trans hR1 (Hp.le_trans hR3 hR4))) rfl
    case hp => rfl
    case hS => (repeat (first | exact Sub.refl _ | (apply Sub.pick; focus (repeat (first | exact Find.head _ | apply Find.tail))) | apply Sub.drop | exact Sub.tailApp _ _))
  · try simp only [decide_eq_true_eq, decide_eq_false_iff_not, Bool.not_eq_true', Bool.not_eq_false', Bool.true_eq_false, Bool.false_eq_true] at hc23
    refine cj_skip ?_
    refine hK5 _ _ _ ?_
    refine cj_env (Env.le_cons (t := 1) rfl (Env.le_cons (t := 2) rfl (Env.le_cons (t := 7) rfl (Env.le_nil _)))) ?_
    refine cj_seq (fun K9 hK9 => ?_)
    refine cj_region ?_
    first | refine rj_val (wn0 rfl) rfl rfl (y_loads_blk ⟨Try.isAgg26, Try.sizeOf26⟩ rfl (by ((repeat (first | exact Find.head _ | apply Find.tail)); done)) rfl rfl) ?_ | refine rj_val (wn0 rfl) rfl rfl (y_loads_slc ⟨Try.isAgg26, Try.sizeOf26⟩ rfl (by ((repeat (first | exact Find.head _ | apply Find.tail)); done)) rfl rfl (by (first | omega | (dsimp only; omega) | (simp; done) | (simp; omega)))) ?_
    refine rj_val (wn0 rfl) rfl rfl (y_call Try.call13 rfl (write_t x _ hx hox) (by (repeat (first | exact Split.nil _ | (apply Split.cons; focus (repeat (first | exact Find.head _ | apply Find.tail))))))) ?_
    refine rj_val (wn0 rfl) rfl rfl (y_move rfl) ?_
    refine rj_val (wn0 rfl) rfl rfl (y_extract rfl rfl) ?_
    refine rj_val (wn0 rfl) rfl rfl (y_extract rfl rfl) ?_
    refine rj_val (wn0 rfl) rfl rfl (y_assign rfl) ?_
    refine rj_val (wn0 rfl) rfl rfl (y_assign rfl) ?_
    refine rj_nil ?_
    refine hK9 _ _ _ ?_
    refine cj_env (Env.le_cons (t := 1) rfl (Env.le_cons (t := 2) rfl (Env.le_cons (t := 9) rfl (Env.le_cons (t := 10) rfl (Env.le_nil _))))) ?_
    refine cj_seq (fun K10 hK10 => ?_)
    refine cj_seq (fun K11 hK11 => ?_)
    refine cj_region ?_
    refine rj_val (wn0 rfl) rfl rfl (y_move rfl) ?_
    refine rj_val (wn0 rfl) rfl rfl (y_not rfl) ?_
    refine rj_nil ?_
    refine hK11 _ _ _ ?_
    refine cj_cond rfl (fun hc30 => ?_) (fun hc30 => ?_)
    · try simp only [decide_eq_true_eq, decide_eq_false_iff_not, Bool.not_eq_true', Bool.not_eq_false', Bool.true_eq_false, Bool.false_eq_true] at hc30
      refine cj_seq (fun K13 hK13 => ?_)
      refine cj_region ?_
      refine rj_val (wn0 rfl) rfl rfl (y_assign rfl) ?_
      refine rj_nil ?_
      refine hK13 _ _ _ ?_
      refine cj_env (Env.le_cons (t := 6) rfl (Env.le_nil _)) ?_
      refine cj_ret ?_
      refine hret _ _ _ ?_
      apply ej_ret Try.results6 (.cons (rv_tmp rfl) .nil) _ [] (by first | exact hR0 | exact Hp.le_trans hR0 hR1 | exact Hp.le_trans hR0 (Hp.le_trans hR1 (Hp.le_trans hR3 hR4))) rfl
      case hp => rfl
      case hS => (repeat (first | exact Sub.refl _ | (apply Sub.pick; focus (repeat (first | exact Find.head _ | apply Find.tail))) | apply Sub.drop | exact Sub.tailApp _ _))
    · try simp only [decide_eq_true_eq, decide_eq_false_iff_not, Bool.not_eq_true', Bool.not_eq_false', Bool.true_eq_false, Bool.false_eq_true] at hc30
      refine cj_skip ?_
      refine hK10 _ _ _ ?_
      refine cj_env (Env.le_cons (t := 1) rfl (Env.le_cons (t := 2) rfl (Env.le_cons (t := 9) rfl (Env.le_nil _)))) ?_
      refine cj_seq (fun K14 hK14 => ?_)
      refine cj_region ?_
      have hwok : (writeM x).2 = true := by simpa using hc30
      have hwm := writeM_ok hwok
      rw [hwm.2.2]
      dsimp only
      have h2 := wr_len x
      have hmod : k % (wr x).length < (wr x).length := Nat.mod_lt _ (by omega)
      have hcn := cut_none hox hwok hmod
      have hmn := more_none hox hwok (UInt8.ofNat u.toNat)
      refine rj_val (wn0 rfl) rfl rfl (y_move rfl) ?_
      refine rj_val (wn0 rfl) rfl rfl (y_move rfl) ?_
      first | refine rj_val (wn0 rfl) rfl rfl (y_conv_in Try.underlying40 Try.underlying3 rfl (by (simp only [IntKind.min, IntKind.max, IntKind.signed, IntKind.bits, Bool.false_eq_true, ite_false, ite_true]; omega))) ?_ | refine rj_val (wn0 rfl) rfl rfl (y_conv Try.underlying40 Try.underlying3 rfl) ?_
      refine rj_val (wn0 rfl) rfl rfl (y_move rfl) ?_
      refine rj_val (wn0 rfl) rfl rfl (y_slen Try.underlying9 rfl) ?_
      refine rj_val (wn0 rfl) rfl rfl (y_rem rfl rfl (by (first | omega | (dsimp only; omega) | (simp; done) | (simp; omega)))) ?_
      refine rj_eq 37 rfl (v' := .int .i64 ((k % (wr x).length : Nat) : Int)) (by congr 1) ?_
      refine rj_val (wn0 rfl) rfl rfl ((y_slice_s_hi Try.underlying9 rfl rfl (by omega)).to (show _ = Value.string (str ((wr x).take (k % (wr x).length))) from rfl)) ?_
      refine rj_call (wn0 rfl) rfl Try.call10 rfl (read_t ((wr x).take (k % (wr x).length)) (by have := hbig.2.1; simp; omega)) (by (repeat (first | exact Split.nil _ | (apply Split.cons; focus (repeat (first | exact Find.head _ | apply Find.tail)))))) (fun _ _ _ _ h => h.elim) ?_
      rintro r R3 L' hR3 ⟨cy, rfl, hy, rfl⟩
      rw [hcn]
      obtain ⟨k2, n2, st2, l2, q2, cap2, hx2, rfl, _⟩ := id hy.inv
      try simp only [List.cons_append, List.nil_append]
      refine rj_val (wn0 rfl) rfl rfl (y_move rfl) ?_
      refine rj_val (wn0 rfl) rfl rfl (y_extract rfl rfl) ?_
      refine rj_val (wn0 rfl) rfl rfl (y_extract rfl rfl) ?_
      refine rj_alloc (wn0 rfl) rfl Try.zeroValue26 rfl (fun b11 => ?_)
      refine rj_stores ⟨Try.isAgg26, Try.sizeOf26⟩ rfl (wn0 rfl) rfl rfl (by (first | (simp [Value.oneCell']; done) | (intro u hu; simp only [List.mem_cons, List.not_mem_nil, or_false] at hu; rcases hu with rfl | rfl | rfl | rfl <;> first | rfl | assumption))) (by ((repeat (first | exact Find.head _ | apply Find.tail)); done)) (by (simp)) rfl ?_
      refine rj_val (wn0 rfl) rfl rfl (y_assign rfl) ?_
      refine rj_nil ?_
      refine hK14 _ _ _ ?_
      refine cj_env (Env.le_cons (t := 2) rfl (Env.le_cons (t := 9) rfl (Env.le_cons (t := 12) rfl (Env.le_nil _)))) ?_
      refine cj_seq (fun K15 hK15 => ?_)
      refine cj_region ?_
      refine rj_val (wn0 rfl) rfl rfl (y_move rfl) ?_
      refine rj_val (wn0 rfl) rfl rfl (y_move rfl) ?_
      refine rj_eq 44 rfl (v' := .int .u8 ((UInt8.ofNat u.toNat).toNat : Int)) (by congr 1; simp; omega) ?_
      refine rj_buildSlice (sz := 1) (wn0 rfl) rfl Try.underlying38 Try.sizeOf5 Try.zeroValue5 rfl rfl rfl (by decide) (by decide) (fun b45 => ?_)
      refine rj_val (wn0 rfl) rfl rfl ((y_str_slc (bs := [UInt8.ofNat u.toNat]) Try.underlying38 Try.underlying5 Try.underlying9 rfl (by ((repeat (first | exact Find.head _ | apply Find.tail)); done)))) ?_
      refine rj_val (wn0 rfl) rfl rfl (y_sadd rfl rfl (by (first | omega | (dsimp only; omega) | (simp; done) | (simp; omega)))) ?_
      refine rj_call (wn0 rfl) rfl Try.call10 rfl (read_t (wr x ++ [UInt8.ofNat u.toNat]) (by have := hbig.2.2; unfold big; simp; omega)) (by (repeat (first | exact Split.nil _ | (apply Split.cons; focus (repeat (first | exact Find.head _ | apply Find.tail)))))) (fun _ _ _ _ h => h.elim) ?_
      rintro r R4 L' hR4 ⟨cz, rfl, hz, rfl⟩
      rw [hmn]
      obtain ⟨k3, n3, st3, l3, q3, cap3, hx3, rfl, _⟩ := id hz.inv
      try simp only [List.cons_append, List.nil_append]
      refine rj_val (wn0 rfl) rfl rfl (y_move rfl) ?_
      refine rj_val (wn0 rfl) rfl rfl (y_extract rfl rfl) ?_
      refine rj_val (wn0 rfl) rfl rfl (y_extract rfl rfl) ?_
      refine rj_alloc (wn0 rfl) rfl Try.zeroValue26 rfl (fun b13 => ?_)
      refine rj_stores ⟨Try.isAgg26, Try.sizeOf26⟩ rfl (wn0 rfl) rfl rfl (by (first | (simp [Value.oneCell']; done) | (intro u hu; simp only [List.mem_cons, List.not_mem_nil, or_false] at hu; rcases hu with rfl | rfl | rfl | rfl <;> first | rfl | assumption))) (by ((repeat (first | exact Find.head _ | apply Find.tail)); done)) (by (simp)) rfl ?_
      refine rj_val (wn0 rfl) rfl rfl (y_assign rfl) ?_
      refine rj_nil ?_
      refine hK15 _ _ _ ?_
      refine cj_env (Env.le_cons (t := 12) rfl (Env.le_cons (t := 14) rfl (Env.le_nil _))) ?_
      refine cj_seq (fun K16 hK16 => ?_)
      refine cj_region ?_
      refine rj_val (wn0 rfl) rfl rfl (y_move rfl) ?_
      refine rj_val (wn0 rfl) rfl rfl (y_not rfl) ?_
      refine rj_val (wn0 rfl) rfl rfl (y_move rfl) ?_
      refine rj_val (wn1 rfl rfl rfl rfl) rfl rfl (y_move rfl) ?_
      refine rj_val (wn1 rfl rfl rfl rfl) rfl rfl (y_not rfl) ?_
      refine rj_val (wn0 rfl) rfl rfl (y_pick_t rfl rfl) ?_
      refine rj_val (wn0 rfl) rfl rfl (y_assign rfl) ?_
      refine rj_nil ?_
      refine hK16 _ _ _ ?_
      refine cj_env (Env.le_cons (t := 6) rfl (Env.le_nil _)) ?_
      refine cj_ret ?_
      refine hret _ _ _ ?_
      apply ej_ret Try.results6 (.cons (rv_tmp rfl) .nil) _ [] (by first | exact hR0 | exact Hp.le_trans hR0 hR1 | exact Hp.le_trans hR0 (Hp.le_trans hR1 (Hp.le_trans hR3 hR4))) rfl
      case hp => rfl
      case hS => (repeat (first | exact Sub.refl _ | (apply Sub.pick; focus (repeat (first | exact Find.head _ | apply Find.tail))) | apply Sub.drop | exact Sub.tailApp _ _))
end V
end Go.Proofs.Ytcficaboohpmdaa
