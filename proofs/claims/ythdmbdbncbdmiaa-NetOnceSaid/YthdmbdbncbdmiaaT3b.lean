/- The same, plain, deep: what the functions tell of nodes. -/
import Derived.Test.YthdmbdbncbdmiaaT3a
set_option linter.unusedSimpArgs false
set_option linter.unusedVariables false
set_option maxRecDepth 100000
namespace Go.Proofs.Ythdmbdbncbdmiaa
open Go.RowKit
namespace V
set_option maxHeartbeats 1000000
/-- the same node -/
noncomputable def same {α : Type} (x y : α) : Bool := @decide (x = y) (Classical.propDecidable _)
theorem same_iff {α : Type} {x y : α} : same x y = true ↔ x = y := by unfold same; exact @decide_eq_true_iff _ (Classical.propDecidable _)
theorem same_not {α : Type} {x y : α} : same x y = false ↔ ¬ x = y := by unfold same; exact @decide_eq_false_iff_not _ (Classical.propDecidable _)
theorem numN_q {R : Hp} (n : Int) : QTri Try.prog 28 [.int .u64 n] R [] (.agg ⟨[.int .i64 0, .int .u64 n, .string (str []), .slice none 0 0]⟩) := by
  refine Tri.q ?_
  refine tri_of Try.func28 rfl Try.ntmps28 rfl (fun σ F Q hret hend hpan => ?_)
  try simp only [List.cons_append, List.nil_append]
  refine cj_env (Env.le_cons (t := 0) rfl (Env.le_nil _)) ?_
  refine cj_seq (fun K1 hK1 => ?_)
  refine cj_region ?_
  refine rj_alloc (wn0 rfl) rfl Try.zeroValue72 rfl (fun b2 => ?_)
  refine rj_nil ?_
  refine hK1 _ _ _ ?_
  refine cj_seq (fun K2 hK2 => ?_)
  refine cj_region ?_
  refine rj_val (wn0 rfl) rfl rfl (y_move rfl) ?_
  refine rj_val (wn0 rfl) rfl rfl (y_build (cells := [_, _, _, _]) [(0, 1), (1, 1), (2, 1), (3, 1)] Try.underlying72 Try.zeroValue72 (fun _ => rfl) rfl rfl) ?_
  refine rj_stores ⟨Try.isAgg72, Try.sizeOf72⟩ rfl (wn0 rfl) rfl rfl (by (first | (simp [Value.oneCell']; done) | (intro u hu; simp only [List.mem_cons, List.not_mem_nil, or_false] at hu; rcases hu with rfl | rfl | rfl | rfl <;> first | rfl | assumption))) (by ((repeat (first | exact Find.head _ | apply Find.tail)); done)) (by (simp)) rfl ?_
  refine rj_nil ?_
  refine hK2 _ _ _ ?_
  refine cj_env (Env.le_cons (t := 2) rfl (Env.le_nil _)) ?_
  refine cj_ret ?_
  refine hret _ _ _ ?_
  apply ej_ret Try.results28 (.cons (rv_cells ⟨Try.isAgg72, Try.sizeOf72⟩ rfl (by ((repeat (first | exact Find.head _ | apply Find.tail)); done)) rfl rfl) .nil) _ [] (by (first | exact Hp.le_refl _ | assumption | exact Hp.le_trans ‹_› ‹_›)) rfl
  case hp => exact ⟨rfl, rfl, rfl⟩
  case hS => (repeat (first | exact Sub.refl _ | (apply Sub.pick; focus (repeat (first | exact Find.head _ | apply Find.tail))) | apply Sub.drop | exact Sub.tailApp _ _))
theorem numS_q {R : Hp} (s : List UInt8) : QTri Try.prog 29 [.string (str s)] R [] (.agg ⟨[.int .i64 1, .int .u64 0, .string (str s), .slice none 0 0]⟩) := by
  refine Tri.q ?_
  refine tri_of Try.func29 rfl Try.ntmps29 rfl (fun σ F Q hret hend hpan => ?_)
  try simp only [List.cons_append, List.nil_append]
  refine cj_env (Env.le_cons (t := 0) rfl (Env.le_nil _)) ?_
  refine cj_seq (fun K1 hK1 => ?_)
  refine cj_region ?_
  refine rj_alloc (wn0 rfl) rfl Try.zeroValue72 rfl (fun b2 => ?_)
  refine rj_nil ?_
  refine hK1 _ _ _ ?_
  refine cj_seq (fun K2 hK2 => ?_)
  refine cj_region ?_
  refine rj_val (wn0 rfl) rfl rfl (y_move rfl) ?_
  refine rj_val (wn0 rfl) rfl rfl (y_build (cells := [_, _, _, _]) [(0, 1), (1, 1), (2, 1), (3, 1)] Try.underlying72 Try.zeroValue72 (fun _ => rfl) rfl rfl) ?_
  refine rj_stores ⟨Try.isAgg72, Try.sizeOf72⟩ rfl (wn0 rfl) rfl rfl (by (first | (simp [Value.oneCell']; done) | (intro u hu; simp only [List.mem_cons, List.not_mem_nil, or_false] at hu; rcases hu with rfl | rfl | rfl | rfl <;> first | rfl | assumption))) (by ((repeat (first | exact Find.head _ | apply Find.tail)); done)) (by (simp)) rfl ?_
  refine rj_nil ?_
  refine hK2 _ _ _ ?_
  refine cj_env (Env.le_cons (t := 2) rfl (Env.le_nil _)) ?_
  refine cj_ret ?_
  refine hret _ _ _ ?_
  apply ej_ret Try.results29 (.cons (rv_cells ⟨Try.isAgg72, Try.sizeOf72⟩ rfl (by ((repeat (first | exact Find.head _ | apply Find.tail)); done)) rfl rfl) .nil) _ [] (by (first | exact Hp.le_refl _ | assumption | exact Hp.le_trans ‹_› ‹_›)) rfl
  case hp => exact ⟨rfl, rfl, rfl⟩
  case hS => (repeat (first | exact Sub.refl _ | (apply Sub.pick; focus (repeat (first | exact Find.head _ | apply Find.tail))) | apply Sub.drop | exact Sub.tailApp _ _))
theorem isRight_q {R : Hp} (x : Nd) (cs : List Value) (h : RepN R x cs) : QTri Try.prog 39 [.agg ⟨cs⟩] R [] (.bool (rightB 20 x)) := by
  obtain ⟨k, n, s, l, q, cap, rfl, rfl, hs, hl⟩ := h.inv
  refine Tri.q ?_
  refine tri_of Try.func39 rfl Try.ntmps39 rfl (fun σ F Q hret hend hpan => ?_)
  try simp only [List.cons_append, List.nil_append]
  refine cj_env (Env.le_cons (t := 0) rfl (Env.le_nil _)) ?_
  refine cj_seq (fun K1 hK1 => ?_)
  refine cj_region ?_
  refine rj_box (wn0 rfl) rfl rfl rfl (fun b1 => ?_)
  refine rj_val (wn0 rfl) rfl rfl (y_assign rfl) ?_
  refine rj_nil ?_
  refine hK1 _ _ _ ?_
  refine cj_seq (fun K2 hK2 => ?_)
  refine cj_region ?_
  first | refine rj_val (wn0 rfl) rfl rfl (y_loads_blk ⟨Try.isAgg72, Try.sizeOf72⟩ rfl (by ((repeat (first | exact Find.head _ | apply Find.tail)); done)) rfl rfl) ?_ | refine rj_val (wn0 rfl) rfl rfl (y_loads_slc ⟨Try.isAgg72, Try.sizeOf72⟩ rfl (by ((repeat (first | exact Find.head _ | apply Find.tail)); done)) rfl rfl (by (first | omega | (dsimp only; omega) | (simp; done) | (simp; omega)))) ?_
  refine rj_val (wn0 rfl) rfl rfl (y_call Try.call48 rfl (right_q 20 _ _ h (by omega)) (by (repeat (first | exact Split.nil _ | (apply Split.cons; focus (repeat (first | exact Find.head _ | apply Find.tail))))))) ?_
  refine rj_val (wn0 rfl) rfl rfl (y_assign rfl) ?_
  refine rj_nil ?_
  refine hK2 _ _ _ ?_
  refine cj_env (Env.le_cons (t := 2) rfl (Env.le_nil _)) ?_
  refine cj_ret ?_
  refine hret _ _ _ ?_
  apply ej_ret Try.results39 (.cons (rv_tmp rfl) .nil) _ [] (by (first | exact Hp.le_refl _ | assumption | exact Hp.le_trans ‹_› ‹_›)) rfl
  case hp => exact ⟨rfl, rfl, rfl⟩
  case hS => (repeat (first | exact Sub.refl _ | (apply Sub.pick; focus (repeat (first | exact Find.head _ | apply Find.tail))) | apply Sub.drop | exact Sub.tailApp _ _))
theorem take_eq_succ {l m : List Nd} {i : Nat} {x y : Nd} (hx : l[i]? = some x) (hy : m[i]? = some y) (h : l.take i = m.take i) : l.take (i + 1) = m.take (i + 1) ↔ x = y := by
  rw [List.take_add_one, List.take_add_one, hx, hy, h]
  simp
theorem ne_of_at {l m : List Nd} {i : Nat} {x y : Nd} (hx : l[i]? = some x) (hy : m[i]? = some y) (h : ¬ x = y) : ¬ l = m := by
  rintro rfl
  rw [hx] at hy; cases hy; exact h rfl
theorem same_mk (k k' : Int) (n n' : Nat) (s s' : List UInt8) (l l' : List Nd) (hk : k = k') (hn : n = n') (hs : s = s') : same l l' = same (Nd.mk k n s l) (Nd.mk k' n' s' l') := by
  subst hk hn hs
  rw [Bool.eq_iff_iff, same_iff, same_iff]
  simp
/-! ### the reference's -/
theorem deep_q (N : Nat) : ∀ (x : Nd) (cx : List Value) {R : Hp}, SizeOf.sizeOf x ≤ N → RepN R x cx → deepN x ≤ big → QTri Try.prog 53 [.agg ⟨cx⟩] R [] (.int .i64 (deepN x : Int)) := by
  induction N using Nat.strongRecOn with
  | _ N ih =>
  intro x cx R hN hx hd
  obtain ⟨k1, n1, s1, l, q, cap, rfl, rfl, hs1, hl⟩ := hx.inv
  have hlb : l.length ≤ big := hl.choose_spec.1
  rw [deepN] at hd
  have hdl := deepL_le.1 (Nat.le_of_succ_le hd)
  unfold big at hlb hd hdl
  refine Tri.q ?_
  refine tri_of Try.func53 rfl Try.ntmps53 rfl (fun σ F Q hret hend hpan => ?_)
  try simp only [List.cons_append, List.nil_append]
  refine cj_env (Env.le_cons (t := 0) rfl (Env.le_nil _)) ?_
  refine cj_seq (fun K1 hK1 => ?_)
  refine cj_region ?_
  refine rj_box (wn0 rfl) rfl rfl rfl (fun b1 => ?_)
  refine rj_val (wn0 rfl) rfl rfl (y_assign rfl) ?_
  refine rj_nil ?_
  refine hK1 _ _ _ ?_
  refine cj_seq (fun K2 hK2 => ?_)
  refine cj_region ?_
  refine rj_val (wn0 rfl) rfl rfl (y_assign rfl) ?_
  refine rj_nil ?_
  refine hK2 _ _ _ ?_
  refine cj_seq (fun K3 hK3 => ?_)
  refine cj_seq (fun K4 hK4 => ?_)
  refine cj_region ?_
  refine rj_val (wn0 rfl) rfl rfl (y_assign rfl) ?_
  refine rj_nil ?_
  refine hK4 _ _ _ ?_
  refine cj_block ?_
  refine cj_env (E' := (fun (x : Nat) => [(1, .pointer (some ⟨b1, 0, none⟩)), (3, .int .i64 (deepL (l.take x) : Int)), (4, .int .i64 (x : Int))]) 0) (Env.le_cons rfl (Env.le_cons rfl (Env.le_cons rfl (Env.le_nil _)))) ?_
  refine cj_sub (M := (fun (x : Nat) => blk b1 [.int .i64 k1, .int .u64 ((n1 : Nat) : Int), .string (str s1), .slice q l.length cap] 72 :: F) 0) (by (repeat (first | exact Sub.refl _ | (apply Sub.pick; focus (repeat (first | exact Find.head _ | apply Find.tail))) | apply Sub.drop | exact Sub.tailApp _ _))) ?_
  refine cj_loop (fun (x : Nat) => [(1, .pointer (some ⟨b1, 0, none⟩)), (3, .int .i64 (deepL (l.take x) : Int)), (4, .int .i64 (x : Int))]) (fun (x : Nat) => R) (fun (x : Nat) => blk b1 [.int .i64 k1, .int .u64 ((n1 : Nat) : Int), .string (str s1), .slice q l.length cap] 72 :: F) (fun (x : Nat) => x ≤ l.length) (fun (x : Nat) => l.length - x) 0 (by simp) ?_
  rintro i hI3
  try dsimp only
  refine cj_seq (fun K5 hK5 => ?_)
  refine cj_seq (fun K6 hK6 => ?_)
  refine cj_region ?_
  refine rj_val (wn0 rfl) rfl rfl (y_move rfl) ?_
  refine rj_val (wn0 rfl) rfl rfl (y_fieldAddr (k := 3) Try.underlying72 rfl (n := 1) (by decide) Try.sizeOf70 rfl) ?_
  first | refine rj_val (wn0 rfl) rfl rfl (y_load ⟨Try.isAgg70, Try.sizeOf70⟩ rfl (by ((repeat (first | exact Find.head _ | apply Find.tail)); done)) rfl) ?_ | refine rj_val (wn0 rfl) rfl rfl (y_load_slc ⟨Try.isAgg70, Try.sizeOf70⟩ rfl (by ((repeat (first | exact Find.head _ | apply Find.tail)); done)) rfl) ?_
  first | refine rj_val (wn0 rfl) rfl rfl (y_len_sl Try.underlying70 rfl) ?_ | refine rj_val (wn0 rfl) rfl rfl (y_len_slc Try.underlying70 rfl (by ((repeat (first | exact Find.head _ | apply Find.tail)); done))) ?_
  refine rj_val (wn0 rfl) rfl rfl (y_lss rfl rfl) ?_
  refine rj_nil ?_
  refine hK6 _ _ _ ?_
  refine cj_env (Env.le_cons (t := 1) rfl (Env.le_cons (t := 3) rfl (Env.le_cons (t := 4) rfl (Env.le_cons (t := 9) rfl (Env.le_nil _))))) ?_
  refine cj_cond rfl (fun hc9 => ?_) (fun hc9 => ?_)
  · try simp only [decide_eq_true_eq, decide_eq_false_iff_not, Bool.not_eq_true', Bool.not_eq_false', Bool.true_eq_false, Bool.false_eq_true] at hc9
    refine cj_skip ?_
    refine hK5 _ _ _ ?_
    refine cj_seq (fun K8 hK8 => ?_)
    refine cj_block ?_
    refine cj_region ?_
    obtain ⟨x1, hx1⟩ : ∃ x, l[i]? = some x := ⟨l[i]'(by omega), by simp⟩
    obtain ⟨b, off, cs, rfl, hc4, hrep, hcell⟩ := hl.at hx1
    refine rj_val (wn0 rfl) rfl rfl (y_move rfl) ?_
    refine rj_val (wn0 rfl) rfl rfl (y_fieldAddr (k := 3) Try.underlying72 rfl (n := 1) (by decide) Try.sizeOf70 rfl) ?_
    first | refine rj_val (wn0 rfl) rfl rfl (y_load ⟨Try.isAgg70, Try.sizeOf70⟩ rfl (by ((repeat (first | exact Find.head _ | apply Find.tail)); done)) rfl) ?_ | refine rj_val (wn0 rfl) rfl rfl (y_load_slc ⟨Try.isAgg70, Try.sizeOf70⟩ rfl (by ((repeat (first | exact Find.head _ | apply Find.tail)); done)) rfl) ?_
    refine rj_val (wn0 rfl) rfl rfl (y_move rfl) ?_
    first | refine rj_val (wn0 rfl) rfl rfl (y_indexAddr Try.underlying70 Try.sizeOf72 rfl rfl (by (first | omega | (dsimp only; omega) | (simp; done) | (simp; omega)))) ?_ | refine rj_val (wn0 rfl) rfl rfl (y_index_slc Try.underlying70 Try.sizeOf72 rfl rfl (by ((repeat (first | exact Find.head _ | apply Find.tail)); done)) (by (first | omega | (dsimp only; omega) | (simp; done) | (simp; omega)))) ?_
    refine rj_val (wn0 rfl) rfl rfl ((y_loads_ro ⟨Try.isAgg72, Try.sizeOf72⟩ hc4 rfl (fun j u hj => by simpa using hcell j u hj))) ?_
    refine rj_val (wn0 rfl) rfl rfl (y_call Try.call53 rfl (ih (SizeOf.sizeOf x1) (by have := List.sizeOf_lt_of_mem (List.mem_of_getElem? hx1); simp at hN; omega) x1 cs (Nat.le_refl _) hrep (by have := hdl x1 (List.mem_of_getElem? hx1); unfold big; omega)) (by (repeat (first | exact Split.nil _ | (apply Split.cons; focus (repeat (first | exact Find.head _ | apply Find.tail))))))) ?_
    refine rj_val (wn0 rfl) rfl rfl (y_max rfl rfl) ?_
    refine rj_eq 19 rfl (v' := .int .i64 (deepL (l.take (i + 1)) : Int)) (by rw [deepL_take hx1]; congr 1; omega) ?_
    refine rj_val (wn0 rfl) rfl rfl (y_assign rfl) ?_
    refine rj_nil ?_
    refine hK8 _ _ _ ?_
    refine cj_env (Env.le_cons (t := 1) rfl (Env.le_cons (t := 3) rfl (Env.le_cons (t := 4) rfl (Env.le_nil _)))) ?_
    refine cj_region ?_
    refine rj_val (wn0 rfl) rfl rfl (y_move rfl) ?_
    first | refine rj_val (wn0 rfl) rfl rfl (y_add64 rfl rfl (by (first | omega | (dsimp only; omega) | (simp; done) | (simp; omega)))) ?_ | refine rj_val (wn0 rfl) rfl rfl (y_add rfl rfl) ?_
    refine rj_val (wn0 rfl) rfl rfl (y_assign rfl) ?_
    refine rj_nil ?_
    refine ej_on (q' := roundK _ _ _ _ _ _ _) rfl ?_
    refine ej_round (i + 1) (by omega) (by omega) (Env.le_cons rfl (Env.le_cons rfl (Env.le_cons rfl (Env.le_nil _)))) rfl (by (repeat (first | exact Sub.refl _ | (apply Sub.pick; focus (repeat (first | exact Find.head _ | apply Find.tail))) | apply Sub.drop | exact Sub.tailApp _ _)))
  · try simp only [decide_eq_true_eq, decide_eq_false_iff_not, Bool.not_eq_true', Bool.not_eq_false', Bool.true_eq_false, Bool.false_eq_true] at hc9
    refine cj_exit ?_
    refine hK3 _ _ _ ?_
    refine cj_env (Env.le_cons (t := 3) rfl (Env.le_nil _)) ?_
    refine cj_seq (fun K9 hK9 => ?_)
    refine cj_region ?_
    rw [List.take_of_length_le (by omega)]
    refine rj_val (wn0 rfl) rfl rfl (y_move rfl) ?_
    first | refine rj_val (wn0 rfl) rfl rfl (y_add64 rfl rfl (by (first | omega | (dsimp only; omega) | (simp; done) | (simp; omega)))) ?_ | refine rj_val (wn0 rfl) rfl rfl (y_add rfl rfl) ?_
    refine rj_val (wn0 rfl) rfl rfl (y_assign rfl) ?_
    refine rj_nil ?_
    refine hK9 _ _ _ ?_
    refine cj_env (Env.le_cons (t := 2) rfl (Env.le_nil _)) ?_
    refine cj_ret ?_
    refine hret _ _ _ ?_
    apply ej_ret Try.results53 (.cons (rv_tmp rfl) .nil) _ [] (by (first | exact Hp.le_refl _ | assumption | exact Hp.le_trans ‹_› ‹_›)) rfl
    case hp => refine ⟨?_, rfl, rfl⟩; rw [deepN]; rfl
    case hS => (repeat (first | exact Sub.refl _ | (apply Sub.pick; focus (repeat (first | exact Find.head _ | apply Find.tail))) | apply Sub.drop | exact Sub.tailApp _ _))
def upTo (p : Nd → Bool) (l : List Nd) (i : Nat) : Prop := ∀ (j : Nat) (y : Nd), l[j]? = some y → j < i → p y = true
theorem upTo.succ {p : Nd → Bool} {l : List Nd} {i : Nat} {x : Nd} (h : upTo p l i) (hx : l[i]? = some x) (hp : p x = true) : upTo p l (i + 1) := fun j y hj hlt => by
  rcases Nat.lt_or_ge j i with h' | h'
  · exact h j y hj h'
  · obtain rfl : j = i := by omega
    rw [hx] at hj; cases hj; exact hp
theorem upTo.all {p : Nd → Bool} {l : List Nd} {i : Nat} (h : upTo p l i) (hi : l.length ≤ i) : ∀ y ∈ l, p y = true := fun y hy => by
  obtain ⟨j, hj, rfl⟩ := List.getElem_of_mem hy
  exact h j _ (by simp) (by omega)
theorem plainL_no {l : List Nd} {i : Nat} {x : Nd} (hx : l[i]? = some x) (h : plainB x = false) : plainL l = false := by
  rw [← Bool.not_eq_true, plainL_iff]
  intro h'
  have := h' x (List.mem_of_getElem? hx)
  rw [h] at this; cases this
theorem plain_q (N : Nat) : ∀ (x : Nd) (cx : List Value) {R : Hp}, SizeOf.sizeOf x ≤ N → RepN R x cx → QTri Try.prog 54 [.agg ⟨cx⟩] R [] (.bool (plainB x)) := by
  induction N using Nat.strongRecOn with
  | _ N ih =>
  intro x cx R hN hx
  obtain ⟨k1, n1, s1, l, q, cap, rfl, rfl, hs1, hl⟩ := hx.inv
  have hlb : l.length ≤ big := hl.choose_spec.1
  unfold big at hlb
  refine Tri.q ?_
  refine tri_of Try.func54 rfl Try.ntmps54 rfl (fun σ F Q hret hend hpan => ?_)
  try simp only [List.cons_append, List.nil_append]
  refine cj_env (Env.le_cons (t := 0) rfl (Env.le_nil _)) ?_
  refine cj_seq (fun K1 hK1 => ?_)
  refine cj_region ?_
  refine rj_box (wn0 rfl) rfl rfl rfl (fun b1 => ?_)
  refine rj_val (wn0 rfl) rfl rfl (y_assign rfl) ?_
  refine rj_nil ?_
  refine hK1 _ _ _ ?_
  refine cj_seq (fun K2 hK2 => ?_)
  refine cj_seq (fun K3 hK3 => ?_)
  refine cj_region ?_
  refine rj_val (wn0 rfl) rfl rfl (y_fieldAddr (k := 0) Try.underlying72 rfl (n := 1) (by decide) Try.sizeOf3 rfl) ?_
  first | refine rj_val (wn0 rfl) rfl rfl (y_load ⟨Try.isAgg3, Try.sizeOf3⟩ rfl (by ((repeat (first | exact Find.head _ | apply Find.tail)); done)) rfl) ?_ | refine rj_val (wn0 rfl) rfl rfl (y_load_slc ⟨Try.isAgg3, Try.sizeOf3⟩ rfl (by ((repeat (first | exact Find.head _ | apply Find.tail)); done)) rfl) ?_
  refine rj_nil ?_
  refine hK3 _ _ _ ?_
  refine cj_env (Env.le_cons (t := 1) rfl (Env.le_cons (t := 5) rfl (Env.le_nil _))) ?_
  refine cj_block ?_
  refine cj_seq (fun K4 hK4 => ?_)
  refine cj_region ?_
  refine rj_val (wn0 rfl) rfl rfl (y_eql rfl rfl) ?_
  refine rj_val (wn0 rfl) rfl rfl (y_assign rfl) ?_
  refine rj_nil ?_
  refine hK4 _ _ _ ?_
  refine cj_cond rfl (fun hc6 => ?_) (fun hc6 => ?_)
  · try simp only [decide_eq_true_eq, decide_eq_false_iff_not, Bool.not_eq_true', Bool.not_eq_false', Bool.true_eq_false, Bool.false_eq_true] at hc6
    refine cj_seq (fun K6 hK6 => ?_)
    refine cj_region ?_
    refine rj_val (wn0 rfl) rfl rfl (y_fieldAddr (k := 2) Try.underlying72 rfl (n := 1) (by decide) Try.sizeOf9 rfl) ?_
    first | refine rj_val (wn0 rfl) rfl rfl (y_load ⟨Try.isAgg9, Try.sizeOf9⟩ rfl (by ((repeat (first | exact Find.head _ | apply Find.tail)); done)) rfl) ?_ | refine rj_val (wn0 rfl) rfl rfl (y_load_slc ⟨Try.isAgg9, Try.sizeOf9⟩ rfl (by ((repeat (first | exact Find.head _ | apply Find.tail)); done)) rfl) ?_
    refine rj_val (wn0 rfl) rfl rfl (y_seql rfl rfl) ?_
    refine rj_val (wn0 rfl) rfl rfl (y_move rfl) ?_
    refine rj_part 11 rfl (fun hg11 => ?_) (fun hg11 => ?_)
    · try simp only [decide_eq_true_eq, decide_eq_false_iff_not, Bool.not_eq_true', Bool.not_eq_false', Bool.true_eq_false, Bool.false_eq_true] at hg11
      refine rj_val (wn1 rfl rfl rfl rfl) rfl rfl (y_fieldAddr (k := 3) Try.underlying72 rfl (n := 1) (by decide) Try.sizeOf70 rfl) ?_
      first | refine rj_val (wn1 rfl rfl rfl rfl) rfl rfl (y_load ⟨Try.isAgg70, Try.sizeOf70⟩ rfl (by ((repeat (first | exact Find.head _ | apply Find.tail)); done)) rfl) ?_ | refine rj_val (wn1 rfl rfl rfl rfl) rfl rfl (y_load_slc ⟨Try.isAgg70, Try.sizeOf70⟩ rfl (by ((repeat (first | exact Find.head _ | apply Find.tail)); done)) rfl) ?_
      first | refine rj_val (wn1 rfl rfl rfl rfl) rfl rfl (y_len_sl Try.underlying70 rfl) ?_ | refine rj_val (wn1 rfl rfl rfl rfl) rfl rfl (y_len_slc Try.underlying70 rfl (by ((repeat (first | exact Find.head _ | apply Find.tail)); done))) ?_
      refine rj_val (wn1 rfl rfl rfl rfl) rfl rfl (y_eql rfl rfl) ?_
      refine rj_val (wn0 rfl) rfl rfl (y_pick_t rfl rfl) ?_
      refine rj_val (wn0 rfl) rfl rfl (y_assign rfl) ?_
      refine rj_nil ?_
      refine hK6 _ _ _ ?_
      refine cj_env (Env.le_cons (t := 2) rfl (Env.le_nil _)) ?_
      refine cj_ret ?_
      refine hret _ _ _ ?_
      apply ej_ret Try.results54 (.cons (rv_tmp rfl) .nil) _ [] (by (first | exact Hp.le_refl _ | assumption | exact Hp.le_trans ‹_› ‹_›)) rfl
      case hp => refine ⟨?_, rfl, rfl⟩; first | (simp_all [plainB, tupOf]; done) | (simp_all [plainB, tupOf]; exact emptyB _)
      case hS => (repeat (first | exact Sub.refl _ | (apply Sub.pick; focus (repeat (first | exact Find.head _ | apply Find.tail))) | apply Sub.drop | exact Sub.tailApp _ _))
    · try simp only [decide_eq_true_eq, decide_eq_false_iff_not, Bool.not_eq_true', Bool.not_eq_false', Bool.true_eq_false, Bool.false_eq_true] at hg11
      refine rj_skip (wn2 rfl rfl rfl rfl rfl) rfl rfl ?_
      refine rj_skip (wn2 rfl rfl rfl rfl rfl) rfl rfl ?_
      refine rj_skip (wn2 rfl rfl rfl rfl rfl) rfl rfl ?_
      refine rj_skip (wn2 rfl rfl rfl rfl rfl) rfl rfl ?_
      refine rj_val (wn0 rfl) rfl rfl (y_pick_f rfl rfl) ?_
      refine rj_val (wn0 rfl) rfl rfl (y_assign rfl) ?_
      refine rj_nil ?_
      refine hK6 _ _ _ ?_
      refine cj_env (Env.le_cons (t := 2) rfl (Env.le_nil _)) ?_
      refine cj_ret ?_
      refine hret _ _ _ ?_
      apply ej_ret Try.results54 (.cons (rv_tmp rfl) .nil) _ [] (by (first | exact Hp.le_refl _ | assumption | exact Hp.le_trans ‹_› ‹_›)) rfl
      case hp => refine ⟨?_, rfl, rfl⟩; first | (simp_all [plainB, tupOf]; done) | (simp_all [plainB, tupOf]; exact emptyB _)
      case hS => (repeat (first | exact Sub.refl _ | (apply Sub.pick; focus (repeat (first | exact Find.head _ | apply Find.tail))) | apply Sub.drop | exact Sub.tailApp _ _))
  · try simp only [decide_eq_true_eq, decide_eq_false_iff_not, Bool.not_eq_true', Bool.not_eq_false', Bool.true_eq_false, Bool.false_eq_true] at hc6
    refine cj_seq (fun K7 hK7 => ?_)
    refine cj_region ?_
    refine rj_val (wn0 rfl) rfl rfl (y_eql rfl rfl) ?_
    refine rj_val (wn0 rfl) rfl rfl (y_assign rfl) ?_
    refine rj_nil ?_
    refine hK7 _ _ _ ?_
    refine cj_env (Env.le_cons (t := 1) rfl (Env.le_cons (t := 5) rfl (Env.le_cons (t := 17) rfl (Env.le_nil _)))) ?_
    refine cj_cond rfl (fun hc17 => ?_) (fun hc17 => ?_)
    · try simp only [decide_eq_true_eq, decide_eq_false_iff_not, Bool.not_eq_true', Bool.not_eq_false', Bool.true_eq_false, Bool.false_eq_true] at hc17
      refine cj_seq (fun K9 hK9 => ?_)
      refine cj_region ?_
      refine rj_val (wn0 rfl) rfl rfl (y_fieldAddr (k := 1) Try.underlying72 rfl (n := 1) (by decide) Try.sizeOf27 rfl) ?_
      first | refine rj_val (wn0 rfl) rfl rfl (y_load ⟨Try.isAgg27, Try.sizeOf27⟩ rfl (by ((repeat (first | exact Find.head _ | apply Find.tail)); done)) rfl) ?_ | refine rj_val (wn0 rfl) rfl rfl (y_load_slc ⟨Try.isAgg27, Try.sizeOf27⟩ rfl (by ((repeat (first | exact Find.head _ | apply Find.tail)); done)) rfl) ?_
      refine rj_val (wn0 rfl) rfl rfl (y_eql rfl rfl) ?_
      refine rj_val (wn0 rfl) rfl rfl (y_move rfl) ?_
      refine rj_part 22 rfl (fun hg22 => ?_) (fun hg22 => ?_)
      · try simp only [decide_eq_true_eq, decide_eq_false_iff_not, Bool.not_eq_true', Bool.not_eq_false', Bool.true_eq_false, Bool.false_eq_true] at hg22
        refine rj_val (wn1 rfl rfl rfl rfl) rfl rfl (y_fieldAddr (k := 3) Try.underlying72 rfl (n := 1) (by decide) Try.sizeOf70 rfl) ?_
        first | refine rj_val (wn1 rfl rfl rfl rfl) rfl rfl (y_load ⟨Try.isAgg70, Try.sizeOf70⟩ rfl (by ((repeat (first | exact Find.head _ | apply Find.tail)); done)) rfl) ?_ | refine rj_val (wn1 rfl rfl rfl rfl) rfl rfl (y_load_slc ⟨Try.isAgg70, Try.sizeOf70⟩ rfl (by ((repeat (first | exact Find.head _ | apply Find.tail)); done)) rfl) ?_
        first | refine rj_val (wn1 rfl rfl rfl rfl) rfl rfl (y_len_sl Try.underlying70 rfl) ?_ | refine rj_val (wn1 rfl rfl rfl rfl) rfl rfl (y_len_slc Try.underlying70 rfl (by ((repeat (first | exact Find.head _ | apply Find.tail)); done))) ?_
        refine rj_val (wn1 rfl rfl rfl rfl) rfl rfl (y_eql rfl rfl) ?_
        refine rj_val (wn0 rfl) rfl rfl (y_pick_t rfl rfl) ?_
        refine rj_val (wn0 rfl) rfl rfl (y_assign rfl) ?_
        refine rj_nil ?_
        refine hK9 _ _ _ ?_
        refine cj_env (Env.le_cons (t := 2) rfl (Env.le_nil _)) ?_
        refine cj_ret ?_
        refine hret _ _ _ ?_
        apply ej_ret Try.results54 (.cons (rv_tmp rfl) .nil) _ [] (by (first | exact Hp.le_refl _ | assumption | exact Hp.le_trans ‹_› ‹_›)) rfl
        case hp => refine ⟨?_, rfl, rfl⟩; first | (simp_all [plainB, tupOf]; done) | (simp_all [plainB, tupOf]; exact emptyB _)
        case hS => (repeat (first | exact Sub.refl _ | (apply Sub.pick; focus (repeat (first | exact Find.head _ | apply Find.tail))) | apply Sub.drop | exact Sub.tailApp _ _))
      · try simp only [decide_eq_true_eq, decide_eq_false_iff_not, Bool.not_eq_true', Bool.not_eq_false', Bool.true_eq_false, Bool.false_eq_true] at hg22
        refine rj_skip (wn2 rfl rfl rfl rfl rfl) rfl rfl ?_
        refine rj_skip (wn2 rfl rfl rfl rfl rfl) rfl rfl ?_
        refine rj_skip (wn2 rfl rfl rfl rfl rfl) rfl rfl ?_
        refine rj_skip (wn2 rfl rfl rfl rfl rfl) rfl rfl ?_
        refine rj_val (wn0 rfl) rfl rfl (y_pick_f rfl rfl) ?_
        refine rj_val (wn0 rfl) rfl rfl (y_assign rfl) ?_
        refine rj_nil ?_
        refine hK9 _ _ _ ?_
        refine cj_env (Env.le_cons (t := 2) rfl (Env.le_nil _)) ?_
        refine cj_ret ?_
        refine hret _ _ _ ?_
        apply ej_ret Try.results54 (.cons (rv_tmp rfl) .nil) _ [] (by (first | exact Hp.le_refl _ | assumption | exact Hp.le_trans ‹_› ‹_›)) rfl
        case hp => refine ⟨?_, rfl, rfl⟩; first | (simp_all [plainB, tupOf]; done) | (simp_all [plainB, tupOf]; exact emptyB _)
        case hS => (repeat (first | exact Sub.refl _ | (apply Sub.pick; focus (repeat (first | exact Find.head _ | apply Find.tail))) | apply Sub.drop | exact Sub.tailApp _ _))
    · try simp only [decide_eq_true_eq, decide_eq_false_iff_not, Bool.not_eq_true', Bool.not_eq_false', Bool.true_eq_false, Bool.false_eq_true] at hc17
      refine cj_seq (fun K10 hK10 => ?_)
      refine cj_region ?_
      refine rj_val (wn0 rfl) rfl rfl (y_eql rfl rfl) ?_
      refine rj_val (wn0 rfl) rfl rfl (y_assign rfl) ?_
      refine rj_nil ?_
      refine hK10 _ _ _ ?_
      refine cj_env (Env.le_cons (t := 1) rfl (Env.le_cons (t := 28) rfl (Env.le_nil _))) ?_
      refine cj_cond rfl (fun hc28 => ?_) (fun hc28 => ?_)
      · try simp only [decide_eq_true_eq, decide_eq_false_iff_not, Bool.not_eq_true', Bool.not_eq_false', Bool.true_eq_false, Bool.false_eq_true] at hc28
        refine cj_seq (fun K12 hK12 => ?_)
        refine cj_seq (fun K13 hK13 => ?_)
        refine cj_region ?_
        refine rj_val (wn0 rfl) rfl rfl (y_fieldAddr (k := 1) Try.underlying72 rfl (n := 1) (by decide) Try.sizeOf27 rfl) ?_
        first | refine rj_val (wn0 rfl) rfl rfl (y_load ⟨Try.isAgg27, Try.sizeOf27⟩ rfl (by ((repeat (first | exact Find.head _ | apply Find.tail)); done)) rfl) ?_ | refine rj_val (wn0 rfl) rfl rfl (y_load_slc ⟨Try.isAgg27, Try.sizeOf27⟩ rfl (by ((repeat (first | exact Find.head _ | apply Find.tail)); done)) rfl) ?_
        refine rj_val (wn0 rfl) rfl rfl (y_neq rfl rfl) ?_
        refine rj_val (wn0 rfl) rfl rfl (y_move rfl) ?_
        refine rj_part 33 rfl (fun hg33 => ?_) (fun hg33 => ?_)
        · try simp only [decide_eq_true_eq, decide_eq_false_iff_not, Bool.not_eq_true', Bool.not_eq_false', Bool.true_eq_false, Bool.false_eq_true] at hg33
          refine rj_skip (wn2 rfl rfl rfl rfl rfl) rfl rfl ?_
          refine rj_skip (wn2 rfl rfl rfl rfl rfl) rfl rfl ?_
          refine rj_skip (wn2 rfl rfl rfl rfl rfl) rfl rfl ?_
          refine rj_val (wn0 rfl) rfl rfl (y_pick_t rfl rfl) ?_
          refine rj_nil ?_
          refine hK13 _ _ _ ?_
          refine cj_env (Env.le_cons (t := 1) rfl (Env.le_cons (t := 37) rfl (Env.le_nil _))) ?_
          refine cj_cond_t rfl ?_
          refine cj_seq (fun K14 hK14 => ?_)
          refine cj_region ?_
          refine rj_val (wn0 rfl) rfl rfl (y_assign rfl) ?_
          refine rj_nil ?_
          refine hK14 _ _ _ ?_
          refine cj_ret ?_
          refine hret _ _ _ ?_
          apply ej_ret Try.results54 (.cons (rv_tmp rfl) .nil) _ [] (by (first | exact Hp.le_refl _ | assumption | exact Hp.le_trans ‹_› ‹_›)) rfl
          case hp => refine ⟨?_, rfl, rfl⟩; first | (simp_all [plainB, tupOf]; done) | (simp_all [plainB, tupOf]; exact emptyB _)
          case hS => (repeat (first | exact Sub.refl _ | (apply Sub.pick; focus (repeat (first | exact Find.head _ | apply Find.tail))) | apply Sub.drop | exact Sub.tailApp _ _))
        · try simp only [decide_eq_true_eq, decide_eq_false_iff_not, Bool.not_eq_true', Bool.not_eq_false', Bool.true_eq_false, Bool.false_eq_true] at hg33
          refine rj_val (wn1 rfl rfl rfl rfl) rfl rfl (y_fieldAddr (k := 2) Try.underlying72 rfl (n := 1) (by decide) Try.sizeOf9 rfl) ?_
          first | refine rj_val (wn1 rfl rfl rfl rfl) rfl rfl (y_load ⟨Try.isAgg9, Try.sizeOf9⟩ rfl (by ((repeat (first | exact Find.head _ | apply Find.tail)); done)) rfl) ?_ | refine rj_val (wn1 rfl rfl rfl rfl) rfl rfl (y_load_slc ⟨Try.isAgg9, Try.sizeOf9⟩ rfl (by ((repeat (first | exact Find.head _ | apply Find.tail)); done)) rfl) ?_
          refine rj_val (wn1 rfl rfl rfl rfl) rfl rfl (y_sneq rfl rfl) ?_
          refine rj_val (wn0 rfl) rfl rfl (y_pick_f rfl rfl) ?_
          refine rj_nil ?_
          refine hK13 _ _ _ ?_
          refine cj_env (Env.le_cons (t := 1) rfl (Env.le_cons (t := 37) rfl (Env.le_nil _))) ?_
          refine cj_cond rfl (fun hc37 => ?_) (fun hc37 => ?_)
          · try simp only [decide_eq_true_eq, decide_eq_false_iff_not, Bool.not_eq_true', Bool.not_eq_false', Bool.true_eq_false, Bool.false_eq_true] at hc37
            refine cj_seq (fun K16 hK16 => ?_)
            refine cj_region ?_
            refine rj_val (wn0 rfl) rfl rfl (y_assign rfl) ?_
            refine rj_nil ?_
            refine hK16 _ _ _ ?_
            refine cj_ret ?_
            refine hret _ _ _ ?_
            apply ej_ret Try.results54 (.cons (rv_tmp rfl) .nil) _ [] (by (first | exact Hp.le_refl _ | assumption | exact Hp.le_trans ‹_› ‹_›)) rfl
            case hp => refine ⟨?_, rfl, rfl⟩; first | (simp_all [plainB, tupOf]; done) | (simp_all [plainB, tupOf]; exact emptyB _)
            case hS => (repeat (first | exact Sub.refl _ | (apply Sub.pick; focus (repeat (first | exact Find.head _ | apply Find.tail))) | apply Sub.drop | exact Sub.tailApp _ _))
          · try simp only [decide_eq_true_eq, decide_eq_false_iff_not, Bool.not_eq_true', Bool.not_eq_false', Bool.true_eq_false, Bool.false_eq_true] at hc37
            refine cj_skip ?_
            refine hK12 _ _ _ ?_
            refine cj_seq (fun K17 hK17 => ?_)
            refine cj_seq (fun K18 hK18 => ?_)
            refine cj_region ?_
            refine rj_val (wn0 rfl) rfl rfl (y_assign rfl) ?_
            refine rj_nil ?_
            refine hK18 _ _ _ ?_
            refine cj_block ?_
            refine cj_env (E' := (fun (x : Nat) => [(1, .pointer (some ⟨b1, 0, none⟩)), (3, .int .i64 (x : Int))]) 0) (Env.le_cons rfl (Env.le_cons rfl (Env.le_nil _))) ?_
            refine cj_sub (M := (fun (x : Nat) => blk b1 [.int .i64 k1, .int .u64 ((n1 : Nat) : Int), .string (str s1), .slice q l.length cap] 72 :: F) 0) (by (repeat (first | exact Sub.refl _ | (apply Sub.pick; focus (repeat (first | exact Find.head _ | apply Find.tail))) | apply Sub.drop | exact Sub.tailApp _ _))) ?_
            refine cj_loop (fun (x : Nat) => [(1, .pointer (some ⟨b1, 0, none⟩)), (3, .int .i64 (x : Int))]) (fun (x : Nat) => R) (fun (x : Nat) => blk b1 [.int .i64 k1, .int .u64 ((n1 : Nat) : Int), .string (str s1), .slice q l.length cap] 72 :: F) (fun (x : Nat) => x ≤ l.length ∧ upTo plainB l x) (fun (x : Nat) => l.length - x) 0 (⟨by simp, fun _ _ _ h => by omega⟩) ?_
            rintro i ⟨hi, hall⟩
            try dsimp only
            refine cj_seq (fun K19 hK19 => ?_)
            refine cj_seq (fun K20 hK20 => ?_)
            refine cj_region ?_
            refine rj_val (wn0 rfl) rfl rfl (y_move rfl) ?_
            refine rj_val (wn0 rfl) rfl rfl (y_fieldAddr (k := 3) Try.underlying72 rfl (n := 1) (by decide) Try.sizeOf70 rfl) ?_
            first | refine rj_val (wn0 rfl) rfl rfl (y_load ⟨Try.isAgg70, Try.sizeOf70⟩ rfl (by ((repeat (first | exact Find.head _ | apply Find.tail)); done)) rfl) ?_ | refine rj_val (wn0 rfl) rfl rfl (y_load_slc ⟨Try.isAgg70, Try.sizeOf70⟩ rfl (by ((repeat (first | exact Find.head _ | apply Find.tail)); done)) rfl) ?_
            first | refine rj_val (wn0 rfl) rfl rfl (y_len_sl Try.underlying70 rfl) ?_ | refine rj_val (wn0 rfl) rfl rfl (y_len_slc Try.underlying70 rfl (by ((repeat (first | exact Find.head _ | apply Find.tail)); done))) ?_
            refine rj_val (wn0 rfl) rfl rfl (y_lss rfl rfl) ?_
            refine rj_nil ?_
            refine hK20 _ _ _ ?_
            refine cj_env (Env.le_cons (t := 1) rfl (Env.le_cons (t := 3) rfl (Env.le_cons (t := 42) rfl (Env.le_nil _)))) ?_
            refine cj_cond rfl (fun hc42 => ?_) (fun hc42 => ?_)
            · try simp only [decide_eq_true_eq, decide_eq_false_iff_not, Bool.not_eq_true', Bool.not_eq_false', Bool.true_eq_false, Bool.false_eq_true] at hc42
              refine cj_skip ?_
              refine hK19 _ _ _ ?_
              refine cj_seq (fun K22 hK22 => ?_)
              refine cj_block ?_
              refine cj_seq (fun K23 hK23 => ?_)
              refine cj_region ?_
              obtain ⟨x1, hx1⟩ : ∃ x, l[i]? = some x := ⟨l[i]'(by omega), by simp⟩
              obtain ⟨b, off, cs, rfl, hc4, hrep, hcell⟩ := hl.at hx1
              refine rj_val (wn0 rfl) rfl rfl (y_fieldAddr (k := 3) Try.underlying72 rfl (n := 1) (by decide) Try.sizeOf70 rfl) ?_
              first | refine rj_val (wn0 rfl) rfl rfl (y_load ⟨Try.isAgg70, Try.sizeOf70⟩ rfl (by ((repeat (first | exact Find.head _ | apply Find.tail)); done)) rfl) ?_ | refine rj_val (wn0 rfl) rfl rfl (y_load_slc ⟨Try.isAgg70, Try.sizeOf70⟩ rfl (by ((repeat (first | exact Find.head _ | apply Find.tail)); done)) rfl) ?_
              refine rj_val (wn0 rfl) rfl rfl (y_move rfl) ?_
              first | refine rj_val (wn0 rfl) rfl rfl (y_indexAddr Try.underlying70 Try.sizeOf72 rfl rfl (by (first | omega | (dsimp only; omega) | (simp; done) | (simp; omega)))) ?_ | refine rj_val (wn0 rfl) rfl rfl (y_index_slc Try.underlying70 Try.sizeOf72 rfl rfl (by ((repeat (first | exact Find.head _ | apply Find.tail)); done)) (by (first | omega | (dsimp only; omega) | (simp; done) | (simp; omega)))) ?_
              refine rj_val (wn0 rfl) rfl rfl ((y_loads_ro ⟨Try.isAgg72, Try.sizeOf72⟩ hc4 rfl (fun j u hj => by simpa using hcell j u hj))) ?_
              refine rj_val (wn0 rfl) rfl rfl (y_call Try.call54 rfl (ih (SizeOf.sizeOf x1) (by have := List.sizeOf_lt_of_mem (List.mem_of_getElem? hx1); simp at hN; omega) x1 cs (Nat.le_refl _) hrep) (by (repeat (first | exact Split.nil _ | (apply Split.cons; focus (repeat (first | exact Find.head _ | apply Find.tail))))))) ?_
              refine rj_val (wn0 rfl) rfl rfl (y_not rfl) ?_
              refine rj_nil ?_
              refine hK23 _ _ _ ?_
              refine cj_env (Env.le_cons (t := 1) rfl (Env.le_cons (t := 3) rfl (Env.le_cons (t := 51) rfl (Env.le_nil _)))) ?_
              refine cj_cond rfl (fun hc51 => ?_) (fun hc51 => ?_)
              · (try simp only [decide_eq_true_eq, decide_eq_false_iff_not, Bool.not_eq_true', Bool.not_eq_false', Bool.true_eq_false, Bool.false_eq_true] at hc51); have hpl : plainL l = false := plainL_no hx1 (by simpa using hc51)
                refine cj_seq (fun K25 hK25 => ?_)
                refine cj_region ?_
                refine rj_val (wn0 rfl) rfl rfl (y_assign rfl) ?_
                refine rj_nil ?_
                refine hK25 _ _ _ ?_
                refine cj_env (Env.le_cons (t := 2) rfl (Env.le_nil _)) ?_
                refine cj_ret ?_
                refine hret _ _ _ ?_
                apply ej_ret Try.results54 (.cons (rv_tmp rfl) .nil) _ [] (by (first | exact Hp.le_refl _ | assumption | exact Hp.le_trans ‹_› ‹_›)) rfl
                case hp => refine ⟨?_, rfl, rfl⟩; first | (simp_all [plainB, tupOf]; done) | (simp_all [plainB, tupOf]; exact emptyB _)
                case hS => (repeat (first | exact Sub.refl _ | (apply Sub.pick; focus (repeat (first | exact Find.head _ | apply Find.tail))) | apply Sub.drop | exact Sub.tailApp _ _))
              · try simp only [decide_eq_true_eq, decide_eq_false_iff_not, Bool.not_eq_true', Bool.not_eq_false', Bool.true_eq_false, Bool.false_eq_true] at hc51
                refine cj_skip ?_
                refine hK22 _ _ _ ?_
                refine cj_region ?_
                refine rj_val (wn0 rfl) rfl rfl (y_move rfl) ?_
                first | refine rj_val (wn0 rfl) rfl rfl (y_add64 rfl rfl (by (first | omega | (dsimp only; omega) | (simp; done) | (simp; omega)))) ?_ | refine rj_val (wn0 rfl) rfl rfl (y_add rfl rfl) ?_
                refine rj_val (wn0 rfl) rfl rfl (y_assign rfl) ?_
                refine rj_nil ?_
                refine ej_on (q' := roundK _ _ _ _ _ _ _) rfl ?_
                refine ej_round (i + 1) (⟨by omega, hall.succ hx1 (by simpa using hc51)⟩) (by omega) (Env.le_cons rfl (Env.le_cons rfl (Env.le_nil _))) rfl (by (repeat (first | exact Sub.refl _ | (apply Sub.pick; focus (repeat (first | exact Find.head _ | apply Find.tail))) | apply Sub.drop | exact Sub.tailApp _ _)))
            · try simp only [decide_eq_true_eq, decide_eq_false_iff_not, Bool.not_eq_true', Bool.not_eq_false', Bool.true_eq_false, Bool.false_eq_true] at hc42
              refine cj_exit ?_
              refine hK17 _ _ _ ?_
              refine cj_env (Env.le_nil _) ?_
              refine cj_seq (fun K26 hK26 => ?_)
              refine cj_region ?_
              have hpl : plainL l = true := plainL_iff.2 (hall.all (by omega))
              refine rj_val (wn0 rfl) rfl rfl (y_assign rfl) ?_
              refine rj_nil ?_
              refine hK26 _ _ _ ?_
              refine cj_ret ?_
              refine hret _ _ _ ?_
              apply ej_ret Try.results54 (.cons (rv_tmp rfl) .nil) _ [] (by (first | exact Hp.le_refl _ | assumption | exact Hp.le_trans ‹_› ‹_›)) rfl
              case hp => refine ⟨?_, rfl, rfl⟩; first | (simp_all [plainB, tupOf]; done) | (simp_all [plainB, tupOf]; exact emptyB _)
              case hS => (repeat (first | exact Sub.refl _ | (apply Sub.pick; focus (repeat (first | exact Find.head _ | apply Find.tail))) | apply Sub.drop | exact Sub.tailApp _ _))
      · try simp only [decide_eq_true_eq, decide_eq_false_iff_not, Bool.not_eq_true', Bool.not_eq_false', Bool.true_eq_false, Bool.false_eq_true] at hc28
        refine cj_skip ?_
        refine hK2 _ _ _ ?_
        refine cj_seq (fun K27 hK27 => ?_)
        refine cj_region ?_
        refine rj_val (wn0 rfl) rfl rfl (y_assign rfl) ?_
        refine rj_nil ?_
        refine hK27 _ _ _ ?_
        refine cj_ret ?_
        refine hret _ _ _ ?_
        apply ej_ret Try.results54 (.cons (rv_tmp rfl) .nil) _ [] (by (first | exact Hp.le_refl _ | assumption | exact Hp.le_trans ‹_› ‹_›)) rfl
        case hp => refine ⟨?_, rfl, rfl⟩; first | (simp_all [plainB, tupOf]; done) | (simp_all [plainB, tupOf]; exact emptyB _)
        case hS => (repeat (first | exact Sub.refl _ | (apply Sub.pick; focus (repeat (first | exact Find.head _ | apply Find.tail))) | apply Sub.drop | exact Sub.tailApp _ _))
theorem rright_q {R : Hp} (x : Nd) (cs : List Value) (h : RepN R x cs) (hd : deepN x ≤ big) : QTri Try.prog 43 [.agg ⟨cs⟩] R [] (.bool (rightB 20 x)) := by
  have hr := right_plain 20 x
  have hd' : deepN x ≤ 1000000000000 := hd
  obtain ⟨k, n, s, l, q, cap, rfl, rfl, hs, hl⟩ := h.inv
  refine Tri.q ?_
  refine tri_of Try.func43 rfl Try.ntmps43 rfl (fun σ F Q hret hend hpan => ?_)
  try simp only [List.cons_append, List.nil_append]
  refine cj_env (Env.le_cons (t := 0) rfl (Env.le_nil _)) ?_
  refine cj_seq (fun K1 hK1 => ?_)
  refine cj_region ?_
  refine rj_box (wn0 rfl) rfl rfl rfl (fun b1 => ?_)
  refine rj_val (wn0 rfl) rfl rfl (y_assign rfl) ?_
  refine rj_nil ?_
  refine hK1 _ _ _ ?_
  refine cj_seq (fun K2 hK2 => ?_)
  refine cj_region ?_
  first | refine rj_val (wn0 rfl) rfl rfl (y_loads_blk ⟨Try.isAgg72, Try.sizeOf72⟩ rfl (by ((repeat (first | exact Find.head _ | apply Find.tail)); done)) rfl rfl) ?_ | refine rj_val (wn0 rfl) rfl rfl (y_loads_slc ⟨Try.isAgg72, Try.sizeOf72⟩ rfl (by ((repeat (first | exact Find.head _ | apply Find.tail)); done)) rfl rfl (by (first | omega | (dsimp only; omega) | (simp; done) | (simp; omega)))) ?_
  refine rj_val (wn0 rfl) rfl rfl (y_call Try.call53 rfl (deep_q _ _ _ (Nat.le_refl _) h hd) (by (repeat (first | exact Split.nil _ | (apply Split.cons; focus (repeat (first | exact Find.head _ | apply Find.tail))))))) ?_
  refine rj_val (wn0 rfl) rfl rfl (y_leq rfl rfl) ?_
  refine rj_val (wn0 rfl) rfl rfl (y_move rfl) ?_
  refine rj_part 6 rfl (fun hg6 => ?_) (fun hg6 => ?_)
  · try simp only [decide_eq_true_eq, decide_eq_false_iff_not, Bool.not_eq_true', Bool.not_eq_false', Bool.true_eq_false, Bool.false_eq_true] at hg6
    first | refine rj_val (wn1 rfl rfl rfl rfl) rfl rfl (y_loads_blk ⟨Try.isAgg72, Try.sizeOf72⟩ rfl (by ((repeat (first | exact Find.head _ | apply Find.tail)); done)) rfl rfl) ?_ | refine rj_val (wn1 rfl rfl rfl rfl) rfl rfl (y_loads_slc ⟨Try.isAgg72, Try.sizeOf72⟩ rfl (by ((repeat (first | exact Find.head _ | apply Find.tail)); done)) rfl rfl (by (first | omega | (dsimp only; omega) | (simp; done) | (simp; omega)))) ?_
    refine rj_val (wn1 rfl rfl rfl rfl) rfl rfl (y_call Try.call54 rfl (plain_q _ _ _ (Nat.le_refl _) h) (by (repeat (first | exact Split.nil _ | (apply Split.cons; focus (repeat (first | exact Find.head _ | apply Find.tail))))))) ?_
    refine rj_val (wn0 rfl) rfl rfl (y_pick_t rfl rfl) ?_
    refine rj_val (wn0 rfl) rfl rfl (y_assign rfl) ?_
    refine rj_nil ?_
    refine hK2 _ _ _ ?_
    refine cj_env (Env.le_cons (t := 2) rfl (Env.le_nil _)) ?_
    refine cj_ret ?_
    refine hret _ _ _ ?_
    apply ej_ret Try.results43 (.cons (rv_tmp rfl) .nil) _ [] (by (first | exact Hp.le_refl _ | assumption | exact Hp.le_trans ‹_› ‹_›)) rfl
    case hp => refine ⟨?_, rfl, rfl⟩; rw [hr]; simp_all [tupOf]; intros; omega
    case hS => (repeat (first | exact Sub.refl _ | (apply Sub.pick; focus (repeat (first | exact Find.head _ | apply Find.tail))) | apply Sub.drop | exact Sub.tailApp _ _))
  · try simp only [decide_eq_true_eq, decide_eq_false_iff_not, Bool.not_eq_true', Bool.not_eq_false', Bool.true_eq_false, Bool.false_eq_true] at hg6
    refine rj_skip (wn2 rfl rfl rfl rfl rfl) rfl rfl ?_
    refine rj_skip (wn2 rfl rfl rfl rfl rfl) rfl rfl ?_
    refine rj_val (wn0 rfl) rfl rfl (y_pick_f rfl rfl) ?_
    refine rj_val (wn0 rfl) rfl rfl (y_assign rfl) ?_
    refine rj_nil ?_
    refine hK2 _ _ _ ?_
    refine cj_env (Env.le_cons (t := 2) rfl (Env.le_nil _)) ?_
    refine cj_ret ?_
    refine hret _ _ _ ?_
    apply ej_ret Try.results43 (.cons (rv_tmp rfl) .nil) _ [] (by (first | exact Hp.le_refl _ | assumption | exact Hp.le_trans ‹_› ‹_›)) rfl
    case hp => refine ⟨?_, rfl, rfl⟩; rw [hr]; simp_all [tupOf]; intros; omega
    case hS => (repeat (first | exact Sub.refl _ | (apply Sub.pick; focus (repeat (first | exact Find.head _ | apply Find.tail))) | apply Sub.drop | exact Sub.tailApp _ _))
end V
end Go.Proofs.Ythdmbdbncbdmiaa
