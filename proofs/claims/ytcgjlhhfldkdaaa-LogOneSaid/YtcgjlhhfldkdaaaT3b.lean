/- The same, plain, deep: what the functions tell of nodes. -/
import Derived.Test.YtcgjlhhfldkdaaaT3a
set_option linter.unusedSimpArgs false
set_option linter.unusedVariables false
set_option maxRecDepth 100000
namespace Go.Proofs.Ytcgjlhhfldkdaaa
open Go.RowKit
namespace V
set_option maxHeartbeats 1000000
/-- the same node -/
noncomputable def same {α : Type} (x y : α) : Bool := @decide (x = y) (Classical.propDecidable _)
theorem same_iff {α : Type} {x y : α} : same x y = true ↔ x = y := by unfold same; exact @decide_eq_true_iff _ (Classical.propDecidable _)
theorem same_not {α : Type} {x y : α} : same x y = false ↔ ¬ x = y := by unfold same; exact @decide_eq_false_iff_not _ (Classical.propDecidable _)
theorem numN_q {R : Hp} (n : Int) : QTri Try.prog 24 [.int .u64 n] R [] (.agg ⟨[.int .i64 0, .int .u64 n, .string (str []), .slice none 0 0]⟩) := by
  refine Tri.q ?_
  refine tri_of Try.func24 rfl Try.ntmps24 rfl (fun σ F Q hret hend hpan => ?_)
  try simp only [List.cons_append, List.nil_append]
  refine cj_env (eL 0 rfl eN) ?_
  refine cj_seq (fun K1 hK1 => ?_)
  refine cj_region ?_
  refine rj_alloc (wn0 rfl) rfl Try.zeroValue62 rfl (fun b2 => ?_)
  refine rj_nil ?_
  refine hK1 _ _ _ ?_
  refine cj_seq (fun K2 hK2 => ?_)
  refine cj_region ?_
  refine rv0 rfl rfl rfl (y_move rfl) ?_
  refine rv0 rfl rfl rfl (y_build (cells := [_, _, _, _]) [(0, 1), (1, 1), (2, 1), (3, 1)] Try.underlying62 Try.zeroValue62 (fun _ => rfl) rfl rfl) ?_
  refine rj_stores ⟨Try.isAgg62, Try.sizeOf62⟩ rfl (wn0 rfl) rfl rfl (by (first | (simp [Value.oneCell']; done) | (intro u hu; simp only [List.mem_cons, List.not_mem_nil, or_false] at hu; rcases hu with rfl | rfl | rfl | rfl <;> first | rfl | assumption))) (by (repeat (first|exact zH _|apply zT));done) (by (simp)) rfl ?_
  refine rj_nil ?_
  refine hK2 _ _ _ ?_
  refine cj_env (eL 2 rfl eN) ?_
  refine cj_ret ?_
  refine hret _ _ _ ?_
  apply ej_ret Try.results24 (.cons (rv_cells ⟨Try.isAgg62, Try.sizeOf62⟩ rfl (by (repeat (first|exact zH _|apply zT));done) rfl rfl) .nil) _ [] (by (first | exact Hp.le_refl _ | assumption | exact Hp.le_trans ‹_› ‹_›)) rfl
  case hp => exact ⟨rfl, rfl, rfl⟩
  case hS => (repeat (first|exact zR _|(apply zP;focus (repeat (first|exact zH _|apply zT)))|apply zD|exact zA _ _))
theorem numS_q {R : Hp} (s : List UInt8) : QTri Try.prog 40 [.string (str s)] R [] (.agg ⟨[.int .i64 1, .int .u64 0, .string (str s), .slice none 0 0]⟩) := by
  refine Tri.q ?_
  refine tri_of Try.func40 rfl Try.ntmps40 rfl (fun σ F Q hret hend hpan => ?_)
  try simp only [List.cons_append, List.nil_append]
  refine cj_env (eL 0 rfl eN) ?_
  refine cj_seq (fun K1 hK1 => ?_)
  refine cj_region ?_
  refine rj_alloc (wn0 rfl) rfl Try.zeroValue62 rfl (fun b2 => ?_)
  refine rj_nil ?_
  refine hK1 _ _ _ ?_
  refine cj_seq (fun K2 hK2 => ?_)
  refine cj_region ?_
  refine rv0 rfl rfl rfl (y_move rfl) ?_
  refine rv0 rfl rfl rfl (y_build (cells := [_, _, _, _]) [(0, 1), (1, 1), (2, 1), (3, 1)] Try.underlying62 Try.zeroValue62 (fun _ => rfl) rfl rfl) ?_
  refine rj_stores ⟨Try.isAgg62, Try.sizeOf62⟩ rfl (wn0 rfl) rfl rfl (by (first | (simp [Value.oneCell']; done) | (intro u hu; simp only [List.mem_cons, List.not_mem_nil, or_false] at hu; rcases hu with rfl | rfl | rfl | rfl <;> first | rfl | assumption))) (by (repeat (first|exact zH _|apply zT));done) (by (simp)) rfl ?_
  refine rj_nil ?_
  refine hK2 _ _ _ ?_
  refine cj_env (eL 2 rfl eN) ?_
  refine cj_ret ?_
  refine hret _ _ _ ?_
  apply ej_ret Try.results40 (.cons (rv_cells ⟨Try.isAgg62, Try.sizeOf62⟩ rfl (by (repeat (first|exact zH _|apply zT));done) rfl rfl) .nil) _ [] (by (first | exact Hp.le_refl _ | assumption | exact Hp.le_trans ‹_› ‹_›)) rfl
  case hp => exact ⟨rfl, rfl, rfl⟩
  case hS => (repeat (first|exact zR _|(apply zP;focus (repeat (first|exact zH _|apply zT)))|apply zD|exact zA _ _))
theorem isRight_q {R : Hp} (x : Nd) (cs : List Value) (h : RepN R x cs) : QTri Try.prog 48 [.agg ⟨cs⟩] R [] (.bool (rightB 20 x)) := by
  obtain ⟨k, n, s, l, q, cap, rfl, rfl, hs, hl⟩ := h.inv
  refine Tri.q ?_
  refine tri_of Try.func48 rfl Try.ntmps48 rfl (fun σ F Q hret hend hpan => ?_)
  try simp only [List.cons_append, List.nil_append]
  refine cj_env (eL 0 rfl eN) ?_
  refine cj_seq (fun K1 hK1 => ?_)
  refine cj_region ?_
  refine rj_box (wn0 rfl) rfl rfl rfl (fun b1 => ?_)
  refine rv0 rfl rfl rfl (y_assign rfl) ?_
  refine rj_nil ?_
  refine hK1 _ _ _ ?_
  refine cj_seq (fun K2 hK2 => ?_)
  refine cj_region ?_
  first | refine rv0 rfl rfl rfl (y_loads_blk ⟨Try.isAgg62, Try.sizeOf62⟩ rfl (by (repeat (first|exact zH _|apply zT));done) rfl rfl) ?_ | refine rv0 rfl rfl rfl (y_loads_slc ⟨Try.isAgg62, Try.sizeOf62⟩ rfl (by (repeat (first|exact zH _|apply zT));done) rfl rfl (by (first | omega | (dsimp only; omega) | (simp; done) | (simp; omega)))) ?_
  refine rv0 rfl rfl rfl (y_call Try.call52 rfl (right_q 20 _ _ h (by omega)) (by (repeat (first|exact zN _|(apply zS;focus (repeat (first|exact zH _|apply zT))))))) ?_
  refine rv0 rfl rfl rfl (y_assign rfl) ?_
  refine rj_nil ?_
  refine hK2 _ _ _ ?_
  refine cj_env (eL 2 rfl eN) ?_
  refine cj_ret ?_
  refine hret _ _ _ ?_
  apply ej_ret Try.results48 (.cons (rv_tmp rfl) .nil) _ [] (by (first | exact Hp.le_refl _ | assumption | exact Hp.le_trans ‹_› ‹_›)) rfl
  case hp => exact ⟨rfl, rfl, rfl⟩
  case hS => (repeat (first|exact zR _|(apply zP;focus (repeat (first|exact zH _|apply zT)))|apply zD|exact zA _ _))
theorem take_eq_succ {l m : List Nd} {i : Nat} {x y : Nd} (hx : l[i]? = some x) (hy : m[i]? = some y) (h : l.take i = m.take i) : l.take (i + 1) = m.take (i + 1) ↔ x = y := by
  rw [List.take_add_one, List.take_add_one, hx, hy, h]
  simp
theorem ne_of_at {l m : List Nd} {i : Nat} {x y : Nd} (hx : l[i]? = some x) (hy : m[i]? = some y) (h : ¬ x = y) : ¬ l = m := by
  rintro rfl
  rw [hx] at hy; cases hy; exact h rfl
theorem same_mk (k k' : Int) (n n' : Nat) (s s' : List UInt8) (l l' : List Nd) (hk : k = k') (hn : n = n') (hs : s = s') : same l l' = same (Nd.mk k n s l) (Nd.mk k' n' s' l') := by
  subst hk hn hs
  rw [Bool.eq_iff_iff, same_iff, same_iff]
  simp
/-! ### the reference's -/
def upTo (p : Nd → Bool) (l : List Nd) (i : Nat) : Prop := ∀ (j : Nat) (y : Nd), l[j]? = some y → j < i → p y = true
theorem upTo.succ {p : Nd → Bool} {l : List Nd} {i : Nat} {x : Nd} (h : upTo p l i) (hx : l[i]? = some x) (hp : p x = true) : upTo p l (i + 1) := fun j y hj hlt => by
  rcases Nat.lt_or_ge j i with h' | h'
  · exact h j y hj h'
  · obtain rfl : j = i := by omega
    rw [hx] at hj; cases hj; exact hp
theorem upTo.all {p : Nd → Bool} {l : List Nd} {i : Nat} (h : upTo p l i) (hi : l.length ≤ i) : ∀ y ∈ l, p y = true := fun y hy => by
  obtain ⟨j, hj, rfl⟩ := List.getElem_of_mem hy
  exact h j _ (by simp) (by omega)
theorem plainL_no {l : List Nd} {i : Nat} {x : Nd} (hx : l[i]? = some x) (h : plainB x = false) : plainL l = false := by
  rw [← Bool.not_eq_true, plainL_iff]
  intro h'
  have := h' x (List.mem_of_getElem? hx)
  rw [h] at this; cases this
end V
end Go.Proofs.Ytcgjlhhfldkdaaa
