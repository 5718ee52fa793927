/- The document's net, and what the laws use, walked. -/
import Derived.Test.YthdmbdbncbdmiaaT10c
import Derived.Test.YthdmbdbncbdmiaaTMs
set_option linter.unusedSimpArgs false
set_option linter.unusedVariables false
set_option maxRecDepth 100000
namespace Go.Proofs.Ythdmbdbncbdmiaa
open Go.RowKit
namespace V
set_option maxHeartbeats 4000000
theorem msgSame_q {R : Hp} (a b : Msg) (va vb : Value) (ha : FrX entE R a.es va) (hb : FrX entE R b.es vb) : QTri Try.prog 14 [.agg ⟨msgC a va⟩, .agg ⟨msgC b vb⟩] R [] (.bool (decide (a = b))) := by
  refine Tri.q2 ?_
  refine tri_of Try.func14 rfl Try.ntmps14 rfl (fun σ F Q hret hend hpan => ?_)
  try simp only [List.cons_append, List.nil_append]
  refine cj_env (Env.le_cons (t := 0) rfl (Env.le_cons (t := 1) rfl (Env.le_nil _))) ?_
  refine cj_seq (fun K1 hK1 => ?_)
  refine cj_region ?_
  refine rj_box (wn0 rfl) rfl rfl rfl (fun b2 => ?_)
  refine rj_box (wn0 rfl) rfl rfl rfl (fun b3 => ?_)
  refine rj_val (wn0 rfl) rfl rfl (y_assign rfl) ?_
  refine rj_nil ?_
  refine hK1 _ _ _ ?_
  refine cj_env (Env.le_cons (t := 2) rfl (Env.le_cons (t := 3) rfl (Env.le_nil _))) ?_
  refine cj_seq (fun K2 hK2 => ?_)
  refine cj_region ?_
  refine rj_val (wn0 rfl) rfl rfl ((y_loads_blk (vs := msgC a va) ⟨Try.isAgg32, Try.sizeOf32⟩ rfl (by ((repeat (first | exact Find.head _ | apply Find.tail)); done)) rfl rfl)) ?_
  refine rj_buildSlice (sz := 10) (wn0 rfl) rfl Try.underlying64 Try.sizeOf32 Try.zeroValue32 rfl rfl rfl (by decide) (by decide) (fun bx => ?_)
  refine rj_val (wn0 rfl) rfl rfl ((y_loads_blk (vs := msgC b vb) ⟨Try.isAgg32, Try.sizeOf32⟩ rfl (by ((repeat (first | exact Find.head _ | apply Find.tail)); done)) rfl rfl)) ?_
  refine rj_buildSlice (sz := 10) (wn0 rfl) rfl Try.underlying64 Try.sizeOf32 Try.zeroValue32 rfl rfl rfl (by decide) (by decide) (fun bz => ?_)
  refine rj_freeze (e := 32) (sz := 10) (n := 1) (v := .slice (some ⟨bx, 0, none⟩) 1 1) (xs := msgC a va) (by ((repeat (first | exact Find.head _ | apply Find.tail)); done)) (fun R2 hR2 hfr hxl => ?_)
  have hfx : FrX msgE R2 [a] (.slice (some ⟨bx, 0, none⟩) 1 1) := FrozenS.frx (l := [a]) (css := [msgC a va]) (by simpa using hfr) (Els.single ⟨va, rfl, ha.mono hR2⟩)
  refine rj_freeze (e := 32) (sz := 10) (n := 1) (v := .slice (some ⟨bz, 0, none⟩) 1 1) (xs := msgC b vb) (by ((repeat (first | exact Find.head _ | apply Find.tail)); done)) (fun R3 hR3 hfr3 hxl3 => ?_)
  have hfx3 : FrX msgE R3 [b] (.slice (some ⟨bz, 0, none⟩) 1 1) := FrozenS.frx (l := [b]) (css := [msgC b vb]) (by simpa using hfr3) (Els.single ⟨vb, rfl, hb.mono (Hp.le_trans hR2 hR3)⟩)
  refine rj_val (wn0 rfl) rfl rfl (y_call Try.call25 rfl (msgsSame_q [a] [b] _ _ (hfx.mono hR3) hfx3) (by (repeat (first | exact Split.nil _ | (apply Split.cons; focus (repeat (first | exact Find.head _ | apply Find.tail))))))) ?_
  refine rj_val (wn0 rfl) rfl rfl (y_assign rfl) ?_
  refine rj_nil ?_
  refine hK2 _ _ _ ?_
  refine cj_env (Env.le_cons (t := 4) rfl (Env.le_nil _)) ?_
  refine cj_ret ?_
  refine hret _ _ _ ?_
  apply ej_ret Try.results14 (.cons (rv_tmp rfl) .nil) _ [] (Hp.le_trans hR2 hR3) rfl
  case hp => exact ⟨by simp [tupOf], rfl⟩
  case hS => (repeat (first | exact Sub.refl _ | (apply Sub.pick; focus (repeat (first | exact Find.head _ | apply Find.tail))) | apply Sub.drop | exact Sub.tailApp _ _))
def smallB (m : Msg) : Bool := decide (m.es.length ≤ 12 ∧ m.state.length ≤ 100 ∧ ∀ e ∈ m.es, e.2.length ≤ 100)
theorem small_q {R : Hp} (m : Msg) (ve : Value) (hve : FrX entE R m.es ve) : QTri Try.prog 9 [.agg ⟨msgC m ve⟩] R [] (.bool (smallB m)) := by
  refine Tri.q2 ?_
  obtain ⟨q, cap, rfl, hcap, hcm⟩ := hve.shape
  unfold msgC
  refine tri_of Try.func9 rfl Try.ntmps9 rfl (fun σ F Q hret hend hpan => ?_)
  try simp only [List.cons_append, List.nil_append]
  refine cj_env (Env.le_cons (t := 0) rfl (Env.le_nil _)) ?_
  refine cj_seq (fun K1 hK1 => ?_)
  refine cj_region ?_
  refine rj_box (wn0 rfl) rfl rfl rfl (fun b1 => ?_)
  refine rj_val (wn0 rfl) rfl rfl (y_assign rfl) ?_
  refine rj_nil ?_
  refine hK1 _ _ _ ?_
  refine cj_seq (fun K2 hK2 => ?_)
  refine cj_seq (fun K3 hK3 => ?_)
  refine cj_region ?_
  refine rj_val (wn0 rfl) rfl rfl (y_fieldAddr (k := 8) Try.underlying32 rfl (n := 1) (by decide) Try.sizeOf30 rfl) ?_
  first | refine rj_val (wn0 rfl) rfl rfl (y_load ⟨Try.isAgg30, Try.sizeOf30⟩ rfl (by ((repeat (first | exact Find.head _ | apply Find.tail)); done)) rfl) ?_ | refine rj_val (wn0 rfl) rfl rfl (y_load_slc ⟨Try.isAgg30, Try.sizeOf30⟩ rfl (by ((repeat (first | exact Find.head _ | apply Find.tail)); done)) rfl) ?_
  first | refine rj_val (wn0 rfl) rfl rfl (y_len_sl Try.underlying30 rfl) ?_ | refine rj_val (wn0 rfl) rfl rfl (y_len_slc Try.underlying30 rfl (by ((repeat (first | exact Find.head _ | apply Find.tail)); done))) ?_
  refine rj_val (wn0 rfl) rfl rfl (y_gtr rfl rfl) ?_
  refine rj_val (wn0 rfl) rfl rfl (y_move rfl) ?_
  refine rj_part 9 rfl (fun hg9 => ?_) (fun hg9 => ?_)
  · try simp only [decide_eq_true_eq, decide_eq_false_iff_not, Bool.not_eq_true', Bool.not_eq_false', Bool.true_eq_false, Bool.false_eq_true] at hg9
    refine rj_skip (wn2 rfl rfl rfl rfl rfl) rfl rfl ?_
    refine rj_skip (wn2 rfl rfl rfl rfl rfl) rfl rfl ?_
    refine rj_skip (wn2 rfl rfl rfl rfl rfl) rfl rfl ?_
    refine rj_skip (wn2 rfl rfl rfl rfl rfl) rfl rfl ?_
    refine rj_val (wn0 rfl) rfl rfl (y_pick_t rfl rfl) ?_
    refine rj_nil ?_
    refine hK3 _ _ _ ?_
    refine cj_env (Env.le_cons (t := 1) rfl (Env.le_cons (t := 14) rfl (Env.le_nil _))) ?_
    refine cj_cond_t rfl ?_
    refine cj_seq (fun K4 hK4 => ?_)
    refine cj_region ?_
    refine rj_val (wn0 rfl) rfl rfl (y_assign rfl) ?_
    refine rj_nil ?_
    refine hK4 _ _ _ ?_
    refine cj_ret ?_
    refine hret _ _ _ ?_
    apply ej_ret Try.results9 (.cons (rv_tmp rfl) .nil) _ [] (by (first | exact Hp.le_refl _ | assumption | exact Hp.le_trans ‹_› ‹_›)) rfl
    case hp => refine ⟨?_, rfl⟩; unfold smallB; rw [decide_eq_false (by simp at *; omega)]; rfl
    case hS => (repeat (first | exact Sub.refl _ | (apply Sub.pick; focus (repeat (first | exact Find.head _ | apply Find.tail))) | apply Sub.drop | exact Sub.tailApp _ _))
  · try simp only [decide_eq_true_eq, decide_eq_false_iff_not, Bool.not_eq_true', Bool.not_eq_false', Bool.true_eq_false, Bool.false_eq_true] at hg9
    refine rj_val (wn1 rfl rfl rfl rfl) rfl rfl (y_fieldAddr (k := 9) Try.underlying32 rfl (n := 1) (by decide) Try.sizeOf9 rfl) ?_
    first | refine rj_val (wn1 rfl rfl rfl rfl) rfl rfl (y_load ⟨Try.isAgg9, Try.sizeOf9⟩ rfl (by ((repeat (first | exact Find.head _ | apply Find.tail)); done)) rfl) ?_ | refine rj_val (wn1 rfl rfl rfl rfl) rfl rfl (y_load_slc ⟨Try.isAgg9, Try.sizeOf9⟩ rfl (by ((repeat (first | exact Find.head _ | apply Find.tail)); done)) rfl) ?_
    refine rj_val (wn1 rfl rfl rfl rfl) rfl rfl (y_slen Try.underlying9 rfl) ?_
    refine rj_val (wn1 rfl rfl rfl rfl) rfl rfl (y_gtr rfl rfl) ?_
    refine rj_val (wn0 rfl) rfl rfl (y_pick_f rfl rfl) ?_
    refine rj_nil ?_
    refine hK3 _ _ _ ?_
    refine cj_env (Env.le_cons (t := 1) rfl (Env.le_cons (t := 14) rfl (Env.le_nil _))) ?_
    refine cj_cond rfl (fun hc14 => ?_) (fun hc14 => ?_)
    · try simp only [decide_eq_true_eq, decide_eq_false_iff_not, Bool.not_eq_true', Bool.not_eq_false', Bool.true_eq_false, Bool.false_eq_true] at hc14
      refine cj_seq (fun K6 hK6 => ?_)
      refine cj_region ?_
      refine rj_val (wn0 rfl) rfl rfl (y_assign rfl) ?_
      refine rj_nil ?_
      refine hK6 _ _ _ ?_
      refine cj_ret ?_
      refine hret _ _ _ ?_
      apply ej_ret Try.results9 (.cons (rv_tmp rfl) .nil) _ [] (by (first | exact Hp.le_refl _ | assumption | exact Hp.le_trans ‹_› ‹_›)) rfl
      case hp => refine ⟨?_, rfl⟩; unfold smallB; rw [decide_eq_false (by simp at *; omega)]; rfl
      case hS => (repeat (first | exact Sub.refl _ | (apply Sub.pick; focus (repeat (first | exact Find.head _ | apply Find.tail))) | apply Sub.drop | exact Sub.tailApp _ _))
    · try simp only [decide_eq_true_eq, decide_eq_false_iff_not, Bool.not_eq_true', Bool.not_eq_false', Bool.true_eq_false, Bool.false_eq_true] at hc14
      refine cj_skip ?_
      refine hK2 _ _ _ ?_
      refine cj_seq (fun K7 hK7 => ?_)
      refine cj_seq (fun K8 hK8 => ?_)
      refine cj_region ?_
      refine rj_val (wn0 rfl) rfl rfl (y_fieldAddr (k := 8) Try.underlying32 rfl (n := 1) (by decide) Try.sizeOf30 rfl) ?_
      first | refine rj_val (wn0 rfl) rfl rfl (y_load ⟨Try.isAgg30, Try.sizeOf30⟩ rfl (by ((repeat (first | exact Find.head _ | apply Find.tail)); done)) rfl) ?_ | refine rj_val (wn0 rfl) rfl rfl (y_load_slc ⟨Try.isAgg30, Try.sizeOf30⟩ rfl (by ((repeat (first | exact Find.head _ | apply Find.tail)); done)) rfl) ?_
      first | refine rj_val (wn0 rfl) rfl rfl (y_len_sl Try.underlying30 rfl) ?_ | refine rj_val (wn0 rfl) rfl rfl (y_len_slc Try.underlying30 rfl (by ((repeat (first | exact Find.head _ | apply Find.tail)); done))) ?_
      refine rj_val (wn0 rfl) rfl rfl (y_move rfl) ?_
      refine rj_nil ?_
      refine hK8 _ _ _ ?_
      refine cj_env (Env.le_cons (t := 16) rfl (Env.le_cons (t := 17) rfl (Env.le_cons (t := 18) rfl (Env.le_nil _)))) ?_
      refine cj_block ?_
      have hs12 : m.es.length ≤ 12 ∧ m.state.length ≤ 100 := by (try simp at hg9 hc14); omega
      refine cj_env (E' := (fun (x : Nat) => [(16, .slice q m.es.length cap), (17, .int .i64 (m.es.length : Int)), (18, .int .i64 (x : Int))]) 0) (Env.le_cons rfl (Env.le_cons rfl (Env.le_cons rfl (Env.le_nil _)))) ?_
      refine cj_sub (M := (fun (x : Nat) => F) 0) (by (repeat (first | exact Sub.refl _ | (apply Sub.pick; focus (repeat (first | exact Find.head _ | apply Find.tail))) | apply Sub.drop | exact Sub.tailApp _ _))) ?_
      refine cj_loop (fun (x : Nat) => [(16, .slice q m.es.length cap), (17, .int .i64 (m.es.length : Int)), (18, .int .i64 (x : Int))]) (fun (x : Nat) => R) (fun (x : Nat) => F) (fun (x : Nat) => x ≤ m.es.length ∧ ∀ e ∈ m.es.take x, e.2.length ≤ 100) (fun (x : Nat) => m.es.length - x) 0 (⟨by simp, by simp⟩) ?_
      rintro i ⟨hi, hall⟩
      try dsimp only
      refine cj_seq (fun K9 hK9 => ?_)
      refine cj_region ?_
      refine rj_val (wn0 rfl) rfl rfl (y_lss rfl rfl) ?_
      refine rj_nil ?_
      refine hK9 _ _ _ ?_
      refine cj_seq (fun K10 hK10 => ?_)
      refine cj_cond rfl (fun hc19 => ?_) (fun hc19 => ?_)
      · try simp only [decide_eq_true_eq, decide_eq_false_iff_not, Bool.not_eq_true', Bool.not_eq_false', Bool.true_eq_false, Bool.false_eq_true] at hc19
        refine cj_skip ?_
        refine hK10 _ _ _ ?_
        refine cj_seq (fun K12 hK12 => ?_)
        refine cj_block ?_
        refine cj_seq (fun K13 hK13 => ?_)
        refine cj_region ?_
        obtain ⟨x, hx⟩ : ∃ x, m.es[i]? = some x := ⟨m.es[i]'(by omega), by simp⟩
        obtain ⟨b, off, cap', cs, he, rfl, hcl, hcell⟩ := hve.at hx
        obtain ⟨rfl, rfl⟩ : q = some ⟨b, off, none⟩ ∧ cap = cap' := by cases he; exact ⟨rfl, rfl⟩
        first | refine rj_val (wn0 rfl) rfl rfl (y_indexAddr Try.underlying30 Try.sizeOf60 rfl rfl (by (first | omega | (dsimp only; omega) | (simp; done) | (simp; omega)))) ?_ | refine rj_val (wn0 rfl) rfl rfl (y_index_slc Try.underlying30 Try.sizeOf60 rfl rfl (by ((repeat (first | exact Find.head _ | apply Find.tail)); done)) (by (first | omega | (dsimp only; omega) | (simp; done) | (simp; omega)))) ?_
        refine rj_val (wn0 rfl) rfl rfl ((y_loads_ro ⟨Try.isAgg60, Try.sizeOf60⟩ (vs := entC x) rfl rfl (fun j u hj => hcell j u hj))) ?_
        refine rj_alloc (wn0 rfl) rfl Try.zeroValue60 rfl (fun b4 => ?_)
        refine rj_stores ⟨Try.isAgg60, Try.sizeOf60⟩ rfl (wn0 rfl) rfl rfl (entE.one (R := R) (x := x) rfl) (by ((repeat (first | exact Find.head _ | apply Find.tail)); done)) (by exact Nat.le_refl 2) rfl ?_
        refine rj_nil ?_
        refine hK13 _ _ _ ?_
        refine cj_env (Env.le_cons (t := 4) rfl (Env.le_cons (t := 16) rfl (Env.le_cons (t := 17) rfl (Env.le_cons (t := 18) rfl (Env.le_nil _))))) ?_
        refine cj_seq (fun K14 hK14 => ?_)
        refine cj_region ?_
        refine rj_val (wn0 rfl) rfl rfl (y_fieldAddr (k := 1) Try.underlying60 rfl (n := 1) (by decide) Try.sizeOf9 rfl) ?_
        first | refine rj_val (wn0 rfl) rfl rfl (y_load ⟨Try.isAgg9, Try.sizeOf9⟩ rfl (by ((repeat (first | exact Find.head _ | apply Find.tail)); done)) rfl) ?_ | refine rj_val (wn0 rfl) rfl rfl (y_load_slc ⟨Try.isAgg9, Try.sizeOf9⟩ rfl (by ((repeat (first | exact Find.head _ | apply Find.tail)); done)) rfl) ?_
        refine rj_val (wn0 rfl) rfl rfl (y_slen Try.underlying9 rfl) ?_
        refine rj_val (wn0 rfl) rfl rfl (y_gtr rfl rfl) ?_
        refine rj_nil ?_
        refine hK14 _ _ _ ?_
        refine cj_env (Env.le_cons (t := 16) rfl (Env.le_cons (t := 17) rfl (Env.le_cons (t := 18) rfl (Env.le_cons (t := 25) rfl (Env.le_nil _))))) ?_
        refine cj_cond rfl (fun hc25 => ?_) (fun hc25 => ?_)
        · try simp only [decide_eq_true_eq, decide_eq_false_iff_not, Bool.not_eq_true', Bool.not_eq_false', Bool.true_eq_false, Bool.false_eq_true] at hc25
          refine cj_seq (fun K16 hK16 => ?_)
          refine cj_region ?_
          refine rj_val (wn0 rfl) rfl rfl (y_assign rfl) ?_
          refine rj_nil ?_
          refine hK16 _ _ _ ?_
          refine cj_env (Env.le_cons (t := 2) rfl (Env.le_nil _)) ?_
          refine cj_ret ?_
          refine hret _ _ _ ?_
          apply ej_ret Try.results9 (.cons (rv_tmp rfl) .nil) _ [] (by (first | exact Hp.le_refl _ | assumption | exact Hp.le_trans ‹_› ‹_›)) rfl
          case hp => refine ⟨?_, rfl⟩; unfold smallB; rw [decide_eq_false (fun h => by have := h.2.2 x (List.mem_of_getElem? hx); (try simp at hc25); omega)]; rfl
          case hS => (repeat (first | exact Sub.refl _ | (apply Sub.pick; focus (repeat (first | exact Find.head _ | apply Find.tail))) | apply Sub.drop | exact Sub.tailApp _ _))
        · try simp only [decide_eq_true_eq, decide_eq_false_iff_not, Bool.not_eq_true', Bool.not_eq_false', Bool.true_eq_false, Bool.false_eq_true] at hc25
          refine cj_skip ?_
          refine hK12 _ _ _ ?_
          refine cj_region ?_
          first | refine rj_val (wn0 rfl) rfl rfl (y_add64 rfl rfl (by (first | omega | (dsimp only; omega) | (simp; done) | (simp; omega)))) ?_ | refine rj_val (wn0 rfl) rfl rfl (y_add rfl rfl) ?_
          refine rj_val (wn0 rfl) rfl rfl (y_move rfl) ?_
          refine rj_nil ?_
          refine ej_on (q' := roundK _ _ _ _ _ _ _) rfl ?_
          refine ej_round (i + 1) (⟨by omega, fun e he => by rw [List.take_add_one, hx] at he; simp at he; rcases he with (he|rfl); exact hall e he; (try simp at hc25); omega⟩) (by omega) (Env.le_cons rfl (Env.le_cons rfl (Env.le_cons rfl (Env.le_nil _)))) rfl (by (repeat (first | exact Sub.refl _ | (apply Sub.pick; focus (repeat (first | exact Find.head _ | apply Find.tail))) | apply Sub.drop | exact Sub.tailApp _ _)))
      · try simp only [decide_eq_true_eq, decide_eq_false_iff_not, Bool.not_eq_true', Bool.not_eq_false', Bool.true_eq_false, Bool.false_eq_true] at hc19
        refine cj_exit ?_
        refine hK7 _ _ _ ?_
        refine cj_env (Env.le_nil _) ?_
        refine cj_seq (fun K17 hK17 => ?_)
        refine cj_region ?_
        refine rj_val (wn0 rfl) rfl rfl (y_assign rfl) ?_
        refine rj_nil ?_
        refine hK17 _ _ _ ?_
        refine cj_ret ?_
        refine hret _ _ _ ?_
        apply ej_ret Try.results9 (.cons (rv_tmp rfl) .nil) _ [] (by (first | exact Hp.le_refl _ | assumption | exact Hp.le_trans ‹_› ‹_›)) rfl
        case hp => refine ⟨?_, rfl⟩; unfold smallB; rw [decide_eq_true ⟨hs12.1, hs12.2, fun e he => hall e (by rw [List.take_of_length_le (by (try simp at hc19); omega)]; exact he)⟩]; rfl
        case hS => (repeat (first | exact Sub.refl _ | (apply Sub.pick; focus (repeat (first | exact Find.head _ | apply Find.tail))) | apply Sub.drop | exact Sub.tailApp _ _))
/-! ### the document's net -/
theorem rNetHas_q {R : Hp} (v : Value) (last : Int) (st : List One1) (hv : FrX oneE R st v) (i : Int) : QTri Try.prog 10 [.agg ⟨[v, .int .u64 last]⟩, .int .i64 i] R [] (.bool (hasB st i)) := by
  refine Tri.q ?_
  obtain ⟨q, cap, rfl, hcap, hcm⟩ := hv.shape
  refine tri_of Try.func10 rfl Try.ntmps10 rfl (fun σ F Q hret hend hpan => ?_)
  try simp only [List.cons_append, List.nil_append]
  refine cj_env (Env.le_cons (t := 0) rfl (Env.le_cons (t := 1) rfl (Env.le_nil _))) ?_
  refine cj_seq (fun K1 hK1 => ?_)
  refine cj_region ?_
  refine rj_box (wn0 rfl) rfl rfl rfl (fun b2 => ?_)
  refine rj_val (wn0 rfl) rfl rfl (y_assign rfl) ?_
  refine rj_nil ?_
  refine hK1 _ _ _ ?_
  refine cj_seq (fun K2 hK2 => ?_)
  refine cj_region ?_
  refine rj_val (wn0 rfl) rfl rfl (y_move rfl) ?_
  refine rj_val (wn0 rfl) rfl rfl (y_geq rfl rfl) ?_
  refine rj_val (wn0 rfl) rfl rfl (y_move rfl) ?_
  refine rj_part 7 rfl (fun hg7 => ?_) (fun hg7 => ?_)
  · try simp only [decide_eq_true_eq, decide_eq_false_iff_not, Bool.not_eq_true', Bool.not_eq_false', Bool.true_eq_false, Bool.false_eq_true] at hg7
    refine rj_val (wn1 rfl rfl rfl rfl) rfl rfl (y_move rfl) ?_
    refine rj_val (wn1 rfl rfl rfl rfl) rfl rfl (y_fieldAddr (k := 0) Try.underlying29 rfl (n := 1) (by decide) Try.sizeOf26 rfl) ?_
    first | refine rj_val (wn1 rfl rfl rfl rfl) rfl rfl (y_load ⟨Try.isAgg26, Try.sizeOf26⟩ rfl (by ((repeat (first | exact Find.head _ | apply Find.tail)); done)) rfl) ?_ | refine rj_val (wn1 rfl rfl rfl rfl) rfl rfl (y_load_slc ⟨Try.isAgg26, Try.sizeOf26⟩ rfl (by ((repeat (first | exact Find.head _ | apply Find.tail)); done)) rfl) ?_
    first | refine rj_val (wn1 rfl rfl rfl rfl) rfl rfl (y_len_sl Try.underlying26 rfl) ?_ | refine rj_val (wn1 rfl rfl rfl rfl) rfl rfl (y_len_slc Try.underlying26 rfl (by ((repeat (first | exact Find.head _ | apply Find.tail)); done))) ?_
    refine rj_val (wn1 rfl rfl rfl rfl) rfl rfl (y_lss rfl rfl) ?_
    refine rj_val (wn0 rfl) rfl rfl (y_pick_t rfl rfl) ?_
    refine rj_val (wn0 rfl) rfl rfl (y_assign rfl) ?_
    refine rj_nil ?_
    refine hK2 _ _ _ ?_
    refine cj_env (Env.le_cons (t := 4) rfl (Env.le_nil _)) ?_
    refine cj_ret ?_
    refine hret _ _ _ ?_
    apply ej_ret Try.results10 (.cons (rv_tmp rfl) .nil) _ [] (by (first | exact Hp.le_refl _ | assumption | exact Hp.le_trans ‹_› ‹_›)) rfl
    case hp => refine ⟨?_, rfl, rfl⟩; unfold hasB; simp at *; simp [tupOf]; omega
    case hS => (repeat (first | exact Sub.refl _ | (apply Sub.pick; focus (repeat (first | exact Find.head _ | apply Find.tail))) | apply Sub.drop | exact Sub.tailApp _ _))
  · try simp only [decide_eq_true_eq, decide_eq_false_iff_not, Bool.not_eq_true', Bool.not_eq_false', Bool.true_eq_false, Bool.false_eq_true] at hg7
    refine rj_skip (wn2 rfl rfl rfl rfl rfl) rfl rfl ?_
    refine rj_skip (wn2 rfl rfl rfl rfl rfl) rfl rfl ?_
    refine rj_skip (wn2 rfl rfl rfl rfl rfl) rfl rfl ?_
    refine rj_skip (wn2 rfl rfl rfl rfl rfl) rfl rfl ?_
    refine rj_skip (wn2 rfl rfl rfl rfl rfl) rfl rfl ?_
    refine rj_val (wn0 rfl) rfl rfl (y_pick_f rfl rfl) ?_
    refine rj_val (wn0 rfl) rfl rfl (y_assign rfl) ?_
    refine rj_nil ?_
    refine hK2 _ _ _ ?_
    refine cj_env (Env.le_cons (t := 4) rfl (Env.le_nil _)) ?_
    refine cj_ret ?_
    refine hret _ _ _ ?_
    apply ej_ret Try.results10 (.cons (rv_tmp rfl) .nil) _ [] (by (first | exact Hp.le_refl _ | assumption | exact Hp.le_trans ‹_› ‹_›)) rfl
    case hp => refine ⟨?_, rfl, rfl⟩; unfold hasB; simp at *; simp [tupOf]; omega
    case hS => (repeat (first | exact Sub.refl _ | (apply Sub.pick; focus (repeat (first | exact Find.head _ | apply Find.tail))) | apply Sub.drop | exact Sub.tailApp _ _))
theorem rNetPut_t {R : Hp} (v : Value) (last : Int) (st : List One1) (hv : FrX oneE R st v) (hst : st.length ≤ 100000) (hl : 0 ≤ last ∧ last ≤ 100000) (m : Msg) (ve : Value) (hve : FrX entE R m.es ve) :
    Tri Try.prog 12 [.agg ⟨[v, .int .u64 last]⟩, .agg ⟨msgC m ve⟩] R [] (fun r R' L' => L' = [] ∧ ∃ v', r = .agg ⟨[v', .int .u64 (last + 1)]⟩ ∧ FrX oneE R' (st ++ [(last + 1, m)]) v') := by
  have hvo := hv.one
  have hveo := hve.one
  obtain ⟨css, he, hfr⟩ := id hv
  refine tri_of Try.func12 rfl Try.ntmps12 rfl (fun σ F Q hret hend hpan => ?_)
  try simp only [List.cons_append, List.nil_append]
  refine cj_env (Env.le_cons (t := 0) rfl (Env.le_cons (t := 1) rfl (Env.le_nil _))) ?_
  refine cj_seq (fun K1 hK1 => ?_)
  refine cj_region ?_
  refine rj_box (wn0 rfl) rfl rfl rfl (fun b2 => ?_)
  refine rj_box (wn0 rfl) rfl rfl rfl (fun b3 => ?_)
  refine rj_alloc (wn0 rfl) rfl Try.zeroValue29 rfl (fun b4 => ?_)
  refine rj_nil ?_
  refine hK1 _ _ _ ?_
  refine cj_seq (fun K2 hK2 => ?_)
  refine cj_mixs (L := [blk b2 [v, .int .u64 last] 29, blk b3 (msgC m ve) 32]) [1, 2, 4, 5, 6, 7, 8, 11, 12, 13] [0, 3, 9, 10] [14, 15] _ noX_ok (by (repeat (first | exact Sub.refl _ | (apply Sub.pick; focus (repeat (first | exact Find.head _ | apply Find.tail))) | apply Sub.drop | exact Sub.tailApp _ _))) (by kernel_rfl) (by kernel_rfl) (by kernel_rfl) rfl ?_
  refine fj_val rfl rfl rfl (wn0 rfl) (fun R1 hR1 G => (y_fieldAddr (k := 0) Try.underlying29 rfl (n := 1) (by decide) Try.sizeOf26 rfl)) ?_
  first | refine fj_val rfl rfl rfl (wn0 rfl) (fun R1 hR1 G => (y_load ⟨Try.isAgg26, Try.sizeOf26⟩ rfl (by ((repeat (first | exact Find.head _ | apply Find.tail)); done)) rfl)) ?_ | refine fj_val rfl rfl rfl (wn0 rfl) (fun R1 hR1 G => (y_load_slc ⟨Try.isAgg26, Try.sizeOf26⟩ rfl (by ((repeat (first | exact Find.head _ | apply Find.tail)); done)) rfl)) ?_
  refine fj_val rfl rfl rfl (wn0 rfl) (fun R1 hR1 G => (y_fieldAddr (k := 1) Try.underlying29 rfl (n := 1) (by decide) Try.sizeOf27 rfl)) ?_
  first | refine fj_val rfl rfl rfl (wn0 rfl) (fun R1 hR1 G => (y_load ⟨Try.isAgg27, Try.sizeOf27⟩ rfl (by ((repeat (first | exact Find.head _ | apply Find.tail)); done)) rfl)) ?_ | refine fj_val rfl rfl rfl (wn0 rfl) (fun R1 hR1 G => (y_load_slc ⟨Try.isAgg27, Try.sizeOf27⟩ rfl (by ((repeat (first | exact Find.head _ | apply Find.tail)); done)) rfl)) ?_
  first | refine fj_val rfl rfl rfl (wn0 rfl) (fun R1 hR1 G => (y_addu rfl rfl (by (first | omega | (dsimp only; omega) | (simp; done) | (simp; omega))))) ?_ | refine fj_val rfl rfl rfl (wn0 rfl) (fun R1 hR1 G => (y_add rfl rfl)) ?_
  refine fj_val rfl rfl rfl (wn0 rfl) (fun R1 hR1 G => (y_loads_blk (vs := msgC m ve) ⟨Try.isAgg32, Try.sizeOf32⟩ rfl (by ((repeat (first | exact Find.head _ | apply Find.tail)); done)) rfl rfl)) ?_
  refine fj_val rfl rfl rfl (wn0 rfl) (fun R1 hR1 G => (y_build (cells := [_, _, _, _, _, _, _, _, _, _, _]) [(0, 1), (1, 10)] Try.underlying43 Try.zeroValue43 (fun _ => rfl) rfl rfl)) ?_
  refine fj_val rfl rfl rfl (wn0 rfl) (fun R1 hR1 G => (y_fieldAddr (k := 1) Try.underlying29 rfl (n := 1) (by decide) Try.sizeOf27 rfl)) ?_
  first | refine fj_val rfl rfl rfl (wn0 rfl) (fun R1 hR1 G => (y_load ⟨Try.isAgg27, Try.sizeOf27⟩ rfl (by ((repeat (first | exact Find.head _ | apply Find.tail)); done)) rfl)) ?_ | refine fj_val rfl rfl rfl (wn0 rfl) (fun R1 hR1 G => (y_load_slc ⟨Try.isAgg27, Try.sizeOf27⟩ rfl (by ((repeat (first | exact Find.head _ | apply Find.tail)); done)) rfl)) ?_
  first | refine fj_val rfl rfl rfl (wn0 rfl) (fun R1 hR1 G => (y_addu rfl rfl (by (first | omega | (dsimp only; omega) | (simp; done) | (simp; omega))))) ?_ | refine fj_val rfl rfl rfl (wn0 rfl) (fun R1 hR1 G => (y_add rfl rfl)) ?_
  refine fj_nil ?_
  refine xs_all [0, 9] (by kernel_rfl) ⟨?_, ?_, trivial⟩
  · refine yj_rj rfl ?_
    try simp only [List.cons_append, List.nil_append, List.append_nil]
    refine rj_buildSlice (sz := 11) (wn0 rfl) rfl Try.underlying26 Try.sizeOf43 Try.zeroValue43 rfl rfl rfl (by decide) (by decide) (fun b5 => ?_)
    refine rj_yk (by (first | exact Hp.le_refl _ | assumption | exact Hp.le_trans ‹_› ‹_›)) (by (repeat (first | exact Sub.refl _ | (apply Sub.pick; focus (repeat (first | exact Find.head _ | apply Find.tail))) | apply Sub.drop | exact Sub.tailApp _ _))) ?_
    refine xs_all [3, 9] (by kernel_rfl) ⟨?_, ?_, trivial⟩
    · refine yj_rj rfl ?_
      try simp only [List.cons_append, List.nil_append, List.append_nil]
      refine rj_append (sz := 11) (by_ := 112) ⟨Try.underlying26, _, _, rfl, rfl, rfl, rfl, rfl⟩ (wn0 rfl) rfl rfl rfl (by ((repeat (first | exact Find.head _ | apply Find.tail)); done)) (FrX.src (T := oneE) Try.underlying26 he hfr) rfl (by (first | omega | (dsimp only; omega) | (simp; done) | (simp; omega))) (by simp only [maxLen]; omega) (fun v8 ho8 hh8 => ?_)
      rw [show 0 + st.length = st.length by omega, List.nil_append]
      refine rj_yk (by (first | exact Hp.le_refl _ | assumption | exact Hp.le_trans ‹_› ‹_›)) (by (repeat (first | exact Sub.refl _ | (apply Sub.pick; focus (repeat (first | exact Find.head _ | apply Find.tail))) | apply Sub.drop | exact Sub.tailApp _ _))) ?_
      refine xs_all [9] (by kernel_rfl) ⟨?_, trivial⟩
      refine yj_rj rfl ?_
      try simp only [List.cons_append, List.nil_append, List.append_nil]
      refine rj_buildSlice (sz := 11) (wn0 rfl) rfl Try.underlying26 Try.sizeOf43 Try.zeroValue43 rfl rfl rfl (by decide) (by decide) (fun b14 => ?_)
      refine rj_yk (by (first | exact Hp.le_refl _ | assumption | exact Hp.le_trans ‹_› ‹_›)) (by (repeat (first | exact Sub.refl _ | (apply Sub.pick; focus (repeat (first | exact Find.head _ | apply Find.tail))) | apply Sub.drop | exact Sub.tailApp _ _))) ?_
      refine xs_all [10] (by kernel_rfl) ⟨?_, trivial⟩
      refine yj_rj rfl ?_
      try simp only [List.cons_append, List.nil_append, List.append_nil]
      refine rj_append (sz := 11) (by_ := 112) ⟨Try.underlying26, _, _, rfl, rfl, rfl, rfl, rfl⟩ (wn0 rfl) rfl rfl rfl (by ((repeat (first | exact Find.head _ | apply Find.tail)); done)) (src_slc (xs := oneC (last + 1, m) ve) Try.underlying26 (by ((repeat (first | exact Find.head _ | apply Find.tail)); done)) (oneE.one (R := R) (x := (last + 1, m)) ⟨ve, rfl, hve⟩)) rfl (by (first | omega | (dsimp only; omega) | (simp; done) | (simp; omega))) (by simp only [maxLen]; omega) (fun v15 ho15 hh15 => ?_)
      rw [flatt_snoc, show st.length + 1 = (st ++ [(last + 1, m)]).length by simp]
      refine rj_pure (A := slc 43 11 v15 (st ++ [(last + 1, m)]).length (css ++ [oneC (last + 1, m) ve]).flatten) (by ((repeat (first | exact Find.head _ | apply Find.tail)); done)) slc_shape (fun hsh => ?_)
      obtain ⟨q15, k15, rfl, _⟩ := hsh
      refine rj_yk (by (first | exact Hp.le_refl _ | assumption | exact Hp.le_trans ‹_› ‹_›)) (by (repeat (first | exact Sub.refl _ | (apply Sub.pick; focus (repeat (first | exact Find.head _ | apply Find.tail))) | apply Sub.drop | exact Sub.tailApp _ _))) ?_
      refine xs_nil ?_
      try simp only [List.cons_append, List.nil_append, List.append_nil]
      refine rj_val (wn0 rfl) rfl rfl (y_build (cells := [_, _]) [(0, 1), (1, 1)] Try.underlying29 Try.zeroValue29 (fun _ => rfl) rfl rfl) ?_
      refine rj_stores ⟨Try.isAgg29, Try.sizeOf29⟩ rfl (wn0 rfl) rfl rfl (by (first | (simp [Value.oneCell']; done) | (intro u hu; simp only [List.mem_cons, List.not_mem_nil, or_false] at hu; rcases hu with rfl | rfl | rfl | rfl <;> first | rfl | assumption))) (by ((repeat (first | exact Find.head _ | apply Find.tail)); done)) (by (simp)) rfl ?_
      refine rj_freeze (e := 43) (sz := 11) (n := (st ++ [(last + 1, m)]).length) (v := .slice q15 (st ++ [(last + 1, m)]).length k15) (xs := (css ++ [oneC (last + 1, m) ve]).flatten) (by ((repeat (first | exact Find.head _ | apply Find.tail)); done)) (fun R2 hR2 hfr2 hxl => ?_)
      have hfx := FrozenS.frx hfr2 ((he.mono hR2).snoc (y := (last + 1, m)) (cy := oneC (last + 1, m) ve) ⟨ve, rfl, hve.mono hR2⟩)
      refine rj_nil ?_
      refine hK2 _ _ _ ?_
      refine cj_env (Env.le_cons (t := 4) rfl (Env.le_nil _)) ?_
      refine cj_ret ?_
      refine hret _ _ _ ?_
      apply ej_ret Try.results12 (.cons (rv_cells ⟨Try.isAgg29, Try.sizeOf29⟩ rfl (by ((repeat (first | exact Find.head _ | apply Find.tail)); done)) rfl rfl) .nil) _ [] (by (first | exact Hp.le_refl _ | assumption | exact Hp.le_trans ‹_› ‹_›)) rfl
      case hp => exact ⟨rfl, _, rfl, hfx⟩
      case hS => (repeat (first | exact Sub.refl _ | (apply Sub.pick; focus (repeat (first | exact Find.head _ | apply Find.tail))) | apply Sub.drop | exact Sub.tailApp _ _))
    · refine yj_rj rfl ?_
      try simp only [List.cons_append, List.nil_append, List.append_nil]
      refine rj_buildSlice (sz := 11) (wn0 rfl) rfl Try.underlying26 Try.sizeOf43 Try.zeroValue43 rfl rfl rfl (by decide) (by decide) (fun b14 => ?_)
      refine rj_yk (by (first | exact Hp.le_refl _ | assumption | exact Hp.le_trans ‹_› ‹_›)) (by (repeat (first | exact Sub.refl _ | (apply Sub.pick; focus (repeat (first | exact Find.head _ | apply Find.tail))) | apply Sub.drop | exact Sub.tailApp _ _))) ?_
      refine xs_all [3] (by kernel_rfl) ⟨?_, trivial⟩
      refine yj_rj rfl ?_
      try simp only [List.cons_append, List.nil_append, List.append_nil]
      refine rj_append (sz := 11) (by_ := 112) ⟨Try.underlying26, _, _, rfl, rfl, rfl, rfl, rfl⟩ (wn0 rfl) rfl rfl rfl (by ((repeat (first | exact Find.head _ | apply Find.tail)); done)) (FrX.src (T := oneE) Try.underlying26 he hfr) rfl (by (first | omega | (dsimp only; omega) | (simp; done) | (simp; omega))) (by simp only [maxLen]; omega) (fun v8 ho8 hh8 => ?_)
      rw [show 0 + st.length = st.length by omega, List.nil_append]
      refine rj_yk (by (first | exact Hp.le_refl _ | assumption | exact Hp.le_trans ‹_› ‹_›)) (by (repeat (first | exact Sub.refl _ | (apply Sub.pick; focus (repeat (first | exact Find.head _ | apply Find.tail))) | apply Sub.drop | exact Sub.tailApp _ _))) ?_
      refine xs_all [10] (by kernel_rfl) ⟨?_, trivial⟩
      refine yj_rj rfl ?_
      try simp only [List.cons_append, List.nil_append, List.append_nil]
      refine rj_append (sz := 11) (by_ := 112) ⟨Try.underlying26, _, _, rfl, rfl, rfl, rfl, rfl⟩ (wn0 rfl) rfl rfl rfl (by ((repeat (first | exact Find.head _ | apply Find.tail)); done)) (src_slc (xs := oneC (last + 1, m) ve) Try.underlying26 (by ((repeat (first | exact Find.head _ | apply Find.tail)); done)) (oneE.one (R := R) (x := (last + 1, m)) ⟨ve, rfl, hve⟩)) rfl (by (first | omega | (dsimp only; omega) | (simp; done) | (simp; omega))) (by simp only [maxLen]; omega) (fun v15 ho15 hh15 => ?_)
      rw [flatt_snoc, show st.length + 1 = (st ++ [(last + 1, m)]).length by simp]
      refine rj_pure (A := slc 43 11 v15 (st ++ [(last + 1, m)]).length (css ++ [oneC (last + 1, m) ve]).flatten) (by ((repeat (first | exact Find.head _ | apply Find.tail)); done)) slc_shape (fun hsh => ?_)
      obtain ⟨q15, k15, rfl, _⟩ := hsh
      refine rj_yk (by (first | exact Hp.le_refl _ | assumption | exact Hp.le_trans ‹_› ‹_›)) (by (repeat (first | exact Sub.refl _ | (apply Sub.pick; focus (repeat (first | exact Find.head _ | apply Find.tail))) | apply Sub.drop | exact Sub.tailApp _ _))) ?_
      refine xs_nil ?_
      try simp only [List.cons_append, List.nil_append, List.append_nil]
      refine rj_val (wn0 rfl) rfl rfl (y_build (cells := [_, _]) [(0, 1), (1, 1)] Try.underlying29 Try.zeroValue29 (fun _ => rfl) rfl rfl) ?_
      refine rj_stores ⟨Try.isAgg29, Try.sizeOf29⟩ rfl (wn0 rfl) rfl rfl (by (first | (simp [Value.oneCell']; done) | (intro u hu; simp only [List.mem_cons, List.not_mem_nil, or_false] at hu; rcases hu with rfl | rfl | rfl | rfl <;> first | rfl | assumption))) (by ((repeat (first | exact Find.head _ | apply Find.tail)); done)) (by (simp)) rfl ?_
      refine rj_freeze (e := 43) (sz := 11) (n := (st ++ [(last + 1, m)]).length) (v := .slice q15 (st ++ [(last + 1, m)]).length k15) (xs := (css ++ [oneC (last + 1, m) ve]).flatten) (by ((repeat (first | exact Find.head _ | apply Find.tail)); done)) (fun R2 hR2 hfr2 hxl => ?_)
      have hfx := FrozenS.frx hfr2 ((he.mono hR2).snoc (y := (last + 1, m)) (cy := oneC (last + 1, m) ve) ⟨ve, rfl, hve.mono hR2⟩)
      refine rj_nil ?_
      refine hK2 _ _ _ ?_
      refine cj_env (Env.le_cons (t := 4) rfl (Env.le_nil _)) ?_
      refine cj_ret ?_
      refine hret _ _ _ ?_
      apply ej_ret Try.results12 (.cons (rv_cells ⟨Try.isAgg29, Try.sizeOf29⟩ rfl (by ((repeat (first | exact Find.head _ | apply Find.tail)); done)) rfl rfl) .nil) _ [] (by (first | exact Hp.le_refl _ | assumption | exact Hp.le_trans ‹_› ‹_›)) rfl
      case hp => exact ⟨rfl, _, rfl, hfx⟩
      case hS => (repeat (first | exact Sub.refl _ | (apply Sub.pick; focus (repeat (first | exact Find.head _ | apply Find.tail))) | apply Sub.drop | exact Sub.tailApp _ _))
  · refine yj_rj rfl ?_
    try simp only [List.cons_append, List.nil_append, List.append_nil]
    refine rj_buildSlice (sz := 11) (wn0 rfl) rfl Try.underlying26 Try.sizeOf43 Try.zeroValue43 rfl rfl rfl (by decide) (by decide) (fun b14 => ?_)
    refine rj_yk (by (first | exact Hp.le_refl _ | assumption | exact Hp.le_trans ‹_› ‹_›)) (by (repeat (first | exact Sub.refl _ | (apply Sub.pick; focus (repeat (first | exact Find.head _ | apply Find.tail))) | apply Sub.drop | exact Sub.tailApp _ _))) ?_
    refine xs_all [0] (by kernel_rfl) ⟨?_, trivial⟩
    refine yj_rj rfl ?_
    try simp only [List.cons_append, List.nil_append, List.append_nil]
    refine rj_buildSlice (sz := 11) (wn0 rfl) rfl Try.underlying26 Try.sizeOf43 Try.zeroValue43 rfl rfl rfl (by decide) (by decide) (fun b5 => ?_)
    refine rj_yk (by (first | exact Hp.le_refl _ | assumption | exact Hp.le_trans ‹_› ‹_›)) (by (repeat (first | exact Sub.refl _ | (apply Sub.pick; focus (repeat (first | exact Find.head _ | apply Find.tail))) | apply Sub.drop | exact Sub.tailApp _ _))) ?_
    refine xs_all [3] (by kernel_rfl) ⟨?_, trivial⟩
    refine yj_rj rfl ?_
    try simp only [List.cons_append, List.nil_append, List.append_nil]
    refine rj_append (sz := 11) (by_ := 112) ⟨Try.underlying26, _, _, rfl, rfl, rfl, rfl, rfl⟩ (wn0 rfl) rfl rfl rfl (by ((repeat (first | exact Find.head _ | apply Find.tail)); done)) (FrX.src (T := oneE) Try.underlying26 he hfr) rfl (by (first | omega | (dsimp only; omega) | (simp; done) | (simp; omega))) (by simp only [maxLen]; omega) (fun v8 ho8 hh8 => ?_)
    rw [show 0 + st.length = st.length by omega, List.nil_append]
    refine rj_yk (by (first | exact Hp.le_refl _ | assumption | exact Hp.le_trans ‹_› ‹_›)) (by (repeat (first | exact Sub.refl _ | (apply Sub.pick; focus (repeat (first | exact Find.head _ | apply Find.tail))) | apply Sub.drop | exact Sub.tailApp _ _))) ?_
    refine xs_all [10] (by kernel_rfl) ⟨?_, trivial⟩
    refine yj_rj rfl ?_
    try simp only [List.cons_append, List.nil_append, List.append_nil]
    refine rj_append (sz := 11) (by_ := 112) ⟨Try.underlying26, _, _, rfl, rfl, rfl, rfl, rfl⟩ (wn0 rfl) rfl rfl rfl (by ((repeat (first | exact Find.head _ | apply Find.tail)); done)) (src_slc (xs := oneC (last + 1, m) ve) Try.underlying26 (by ((repeat (first | exact Find.head _ | apply Find.tail)); done)) (oneE.one (R := R) (x := (last + 1, m)) ⟨ve, rfl, hve⟩)) rfl (by (first | omega | (dsimp only; omega) | (simp; done) | (simp; omega))) (by simp only [maxLen]; omega) (fun v15 ho15 hh15 => ?_)
    rw [flatt_snoc, show st.length + 1 = (st ++ [(last + 1, m)]).length by simp]
    refine rj_pure (A := slc 43 11 v15 (st ++ [(last + 1, m)]).length (css ++ [oneC (last + 1, m) ve]).flatten) (by ((repeat (first | exact Find.head _ | apply Find.tail)); done)) slc_shape (fun hsh => ?_)
    obtain ⟨q15, k15, rfl, _⟩ := hsh
    refine rj_yk (by (first | exact Hp.le_refl _ | assumption | exact Hp.le_trans ‹_› ‹_›)) (by (repeat (first | exact Sub.refl _ | (apply Sub.pick; focus (repeat (first | exact Find.head _ | apply Find.tail))) | apply Sub.drop | exact Sub.tailApp _ _))) ?_
    refine xs_nil ?_
    try simp only [List.cons_append, List.nil_append, List.append_nil]
    refine rj_val (wn0 rfl) rfl rfl (y_build (cells := [_, _]) [(0, 1), (1, 1)] Try.underlying29 Try.zeroValue29 (fun _ => rfl) rfl rfl) ?_
    refine rj_stores ⟨Try.isAgg29, Try.sizeOf29⟩ rfl (wn0 rfl) rfl rfl (by (first | (simp [Value.oneCell']; done) | (intro u hu; simp only [List.mem_cons, List.not_mem_nil, or_false] at hu; rcases hu with rfl | rfl | rfl | rfl <;> first | rfl | assumption))) (by ((repeat (first | exact Find.head _ | apply Find.tail)); done)) (by (simp)) rfl ?_
    refine rj_freeze (e := 43) (sz := 11) (n := (st ++ [(last + 1, m)]).length) (v := .slice q15 (st ++ [(last + 1, m)]).length k15) (xs := (css ++ [oneC (last + 1, m) ve]).flatten) (by ((repeat (first | exact Find.head _ | apply Find.tail)); done)) (fun R2 hR2 hfr2 hxl => ?_)
    have hfx := FrozenS.frx hfr2 ((he.mono hR2).snoc (y := (last + 1, m)) (cy := oneC (last + 1, m) ve) ⟨ve, rfl, hve.mono hR2⟩)
    refine rj_nil ?_
    refine hK2 _ _ _ ?_
    refine cj_env (Env.le_cons (t := 4) rfl (Env.le_nil _)) ?_
    refine cj_ret ?_
    refine hret _ _ _ ?_
    apply ej_ret Try.results12 (.cons (rv_cells ⟨Try.isAgg29, Try.sizeOf29⟩ rfl (by ((repeat (first | exact Find.head _ | apply Find.tail)); done)) rfl rfl) .nil) _ [] (by (first | exact Hp.le_refl _ | assumption | exact Hp.le_trans ‹_› ‹_›)) rfl
    case hp => exact ⟨rfl, _, rfl, hfx⟩
    case hS => (repeat (first | exact Sub.refl _ | (apply Sub.pick; focus (repeat (first | exact Find.head _ | apply Find.tail))) | apply Sub.drop | exact Sub.tailApp _ _))
def dropG {α : Type} (l : List α) (i : Int) : List α := if 0 ≤ i ∧ i < l.length then l.eraseIdx i.toNat else l
theorem dropG_L (st : List One1) (i : Int) : dropL st i = dropG st i := by
  unfold dropL dropG hasB
  by_cases h : 0 ≤ i ∧ i < st.length
  · rw [if_pos h, if_pos (decide_eq_true h)]
  · rw [if_neg h, if_neg (by simpa using h)]
theorem dropG_succ {α : Type} {l : List α} {k : Nat} {x : α} (h : l[k]? = some x) (i : Int) : dropG (l.take (k + 1)) i = if (k : Int) = i then dropG (l.take k) i else dropG (l.take k) i ++ [x] := by
  have hk := (List.getElem?_eq_some_iff.1 h).1
  have e : l.take (k + 1) = l.take k ++ [x] := by rw [List.take_add_one, h]; rfl
  have hl : (l.take k).length = k := by simp; omega
  rw [e]
  unfold dropG
  by_cases h0 : 0 ≤ i
  · obtain ⟨n, rfl⟩ := Int.eq_ofNat_of_zero_le h0
    rw [List.length_append, hl, Int.toNat_natCast]
    by_cases h1 : k = n
    · subst h1
      rw [if_pos ⟨by omega, by simp; omega⟩, if_pos rfl, if_neg (by omega), List.eraseIdx_append_of_length_le (by omega), hl, Nat.sub_self]
      simp
    · rw [if_neg (by omega : ¬ ((k : Int) = n))]
      by_cases h2 : n < k
      · rw [if_pos ⟨by omega, by simp; omega⟩, if_pos ⟨by omega, by omega⟩, List.eraseIdx_append_of_lt_length (by omega)]
      · rw [if_neg (by simp; omega), if_neg (by omega)]
  · rw [if_neg (by omega), if_neg (by omega), if_neg (by omega)]
theorem dropG_zero {α : Type} (l : List α) (i : Int) : dropG (l.take 0) i = [] := by
  unfold dropG
  rw [List.take_zero, if_neg (by simp)]
theorem Els.dropG {α : Type} {T : Elt α} {R : Hp} {l : List α} {css : List (List Value)} (k : Els T R l css) (i : Int) : Els T R (dropG l i) (V.dropG css i) := by
  unfold V.dropG
  rw [k.1]
  split
  · exact k.eraseIdx _
  · exact k
theorem dropG_len {α : Type} (l : List α) (i : Int) : (dropG l i).length ≤ l.length := by
  unfold dropG; split
  · rw [List.length_eraseIdx]; split <;> omega
  · exact Nat.le_refl _
theorem rNetDrop_t {R : Hp} (v : Value) (last : Int) (st : List One1) (hv : FrX oneE R st v) (hst : st.length ≤ 100000) (i : Int) :
    Tri Try.prog 15 [.agg ⟨[v, .int .u64 last]⟩, .int .i64 i] R [] (fun r R' L' => L' = [] ∧ ∃ v', r = .agg ⟨[v', .int .u64 last]⟩ ∧ FrX oneE R' (dropL st i) v') := by
  obtain ⟨css, he, hfr⟩ := id hv
  obtain ⟨q, cap, rfl, hcap, hcm⟩ := hv.shape
  refine tri_of Try.func15 rfl Try.ntmps15 rfl (fun σ F Q hret hend hpan => ?_)
  try simp only [List.cons_append, List.nil_append]
  refine cj_env (Env.le_cons (t := 0) rfl (Env.le_cons (t := 1) rfl (Env.le_nil _))) ?_
  refine cj_seq (fun K1 hK1 => ?_)
  refine cj_region ?_
  refine rj_box (wn0 rfl) rfl rfl rfl (fun b2 => ?_)
  refine rj_alloc (wn0 rfl) rfl Try.zeroValue29 rfl (fun b4 => ?_)
  refine rj_nil ?_
  refine hK1 _ _ _ ?_
  refine cj_seq (fun K2 hK2 => ?_)
  refine cj_region ?_
  refine rj_val (wn0 rfl) rfl rfl (y_assign rfl) ?_
  refine rj_add (A := slc 43 11 (.slice none 0 0) 0 []) (slc_nil _ _) ?_
  refine rj_nil ?_
  refine hK2 _ _ _ ?_
  refine cj_seq (fun K3 hK3 => ?_)
  refine cj_seq (fun K4 hK4 => ?_)
  refine cj_region ?_
  refine rj_val (wn0 rfl) rfl rfl (y_assign rfl) ?_
  refine rj_nil ?_
  refine hK4 _ _ _ ?_
  refine cj_block ?_
  refine cj_turn (A := slc 43 11 (.slice none 0 0) 0 []) (B := slc 43 11 (.slice none 0 0) (dropG (st.take 0) i).length (dropG (css.take 0) i).flatten) (by ((repeat (first | exact Find.head _ | apply Find.tail)); done)) (fun h hh => by rw [dropG_zero, dropG_zero]; exact hh) ?_
  refine cj_env (E' := (fun (x : Nat × Value) => [(1, .int .i64 i), (2, .pointer (some ⟨b2, 0, none⟩)), (4, .pointer (some ⟨b4, 0, none⟩)), (5, x.2), (6, .int .i64 (x.1 : Int))]) (0, .slice none 0 0)) (Env.le_cons rfl (Env.le_cons rfl (Env.le_cons rfl (Env.le_cons rfl (Env.le_cons rfl (Env.le_nil _)))))) ?_
  refine cj_sub (M := (fun (x : Nat × Value) => blk b2 [.slice q st.length cap, .int .u64 last] 29 :: blk b4 [.slice none 0 0, .int .u64 0] 29 :: slc 43 11 x.2 (dropG (st.take x.1) i).length (dropG (css.take x.1) i).flatten :: F) (0, .slice none 0 0)) (by (repeat (first | exact Sub.refl _ | (apply Sub.pick; focus (repeat (first | exact Find.head _ | apply Find.tail))) | apply Sub.drop | exact Sub.tailApp _ _))) ?_
  refine cj_loop (fun (x : Nat × Value) => [(1, .int .i64 i), (2, .pointer (some ⟨b2, 0, none⟩)), (4, .pointer (some ⟨b4, 0, none⟩)), (5, x.2), (6, .int .i64 (x.1 : Int))]) (fun (x : Nat × Value) => R) (fun (x : Nat × Value) => blk b2 [.slice q st.length cap, .int .u64 last] 29 :: blk b4 [.slice none 0 0, .int .u64 0] 29 :: slc 43 11 x.2 (dropG (st.take x.1) i).length (dropG (css.take x.1) i).flatten :: F) (fun (x : Nat × Value) => x.1 ≤ st.length ∧ x.2.oneCell' = true) (fun (x : Nat × Value) => st.length - x.1) (0, .slice none 0 0) (⟨by simp, rfl⟩) ?_
  rintro ⟨k, vl⟩ ⟨hk, hvo⟩
  try dsimp only
  dsimp only at hk hvo
  refine cj_seq (fun K5 hK5 => ?_)
  refine cj_seq (fun K6 hK6 => ?_)
  refine cj_region ?_
  refine rj_val (wn0 rfl) rfl rfl (y_move rfl) ?_
  refine rj_val (wn0 rfl) rfl rfl (y_fieldAddr (k := 0) Try.underlying29 rfl (n := 1) (by decide) Try.sizeOf26 rfl) ?_
  first | refine rj_val (wn0 rfl) rfl rfl (y_load ⟨Try.isAgg26, Try.sizeOf26⟩ rfl (by ((repeat (first | exact Find.head _ | apply Find.tail)); done)) rfl) ?_ | refine rj_val (wn0 rfl) rfl rfl (y_load_slc ⟨Try.isAgg26, Try.sizeOf26⟩ rfl (by ((repeat (first | exact Find.head _ | apply Find.tail)); done)) rfl) ?_
  first | refine rj_val (wn0 rfl) rfl rfl (y_len_sl Try.underlying26 rfl) ?_ | refine rj_val (wn0 rfl) rfl rfl (y_len_slc Try.underlying26 rfl (by ((repeat (first | exact Find.head _ | apply Find.tail)); done))) ?_
  refine rj_val (wn0 rfl) rfl rfl (y_lss rfl rfl) ?_
  refine rj_nil ?_
  refine hK6 _ _ _ ?_
  refine cj_env (Env.le_cons (t := 1) rfl (Env.le_cons (t := 2) rfl (Env.le_cons (t := 4) rfl (Env.le_cons (t := 5) rfl (Env.le_cons (t := 6) rfl (Env.le_cons (t := 11) rfl (Env.le_nil _))))))) ?_
  refine cj_cond rfl (fun hc11 => ?_) (fun hc11 => ?_)
  · try simp only [decide_eq_true_eq, decide_eq_false_iff_not, Bool.not_eq_true', Bool.not_eq_false', Bool.true_eq_false, Bool.false_eq_true] at hc11
    refine cj_skip ?_
    refine hK5 _ _ _ ?_
    refine cj_seq (fun K8 hK8 => ?_)
    refine cj_block ?_
    refine cj_seq (fun K9 hK9 => ?_)
    refine cj_region ?_
    have hk2 : k < st.length := by (try simp at hc11); omega
    obtain ⟨⟨n, m⟩, hx⟩ : ∃ x, st[k]? = some x := ⟨st[k], by simp⟩
    obtain ⟨b, off, cap', cs, hee, hcs, ⟨ve, rfl, hve⟩, hcl, hcell⟩ := he.at hfr hx
    obtain ⟨rfl, rfl⟩ : q = some ⟨b, off, none⟩ ∧ cap = cap' := by cases hee; exact ⟨rfl, rfl⟩
    have hs1 := dropG_succ hx i
    have hs2 := dropG_succ hcs i
    have hle := dropG_len (st.take k) i
    rw [List.length_take] at hle
    refine rj_val (wn0 rfl) rfl rfl (y_move rfl) ?_
    refine rj_val (wn0 rfl) rfl rfl (y_move rfl) ?_
    refine rj_val (wn0 rfl) rfl rfl (y_neq rfl rfl) ?_
    refine rj_nil ?_
    refine hK9 _ _ _ ?_
    refine cj_env (Env.le_cons (t := 1) rfl (Env.le_cons (t := 2) rfl (Env.le_cons (t := 4) rfl (Env.le_cons (t := 5) rfl (Env.le_cons (t := 6) rfl (Env.le_cons (t := 16) rfl (Env.le_nil _))))))) ?_
    refine cj_cond rfl (fun hc16 => ?_) (fun hc16 => ?_)
    · (try simp only [decide_eq_true_eq, decide_eq_false_iff_not, Bool.not_eq_true', Bool.not_eq_false', Bool.true_eq_false, Bool.false_eq_true] at hc16); rw [if_neg (by simpa using hc16)] at hs1 hs2
      refine cj_region ?_
      refine rj_val (wn0 rfl) rfl rfl (y_move rfl) ?_
      refine rj_val (wn0 rfl) rfl rfl (y_fieldAddr (k := 0) Try.underlying29 rfl (n := 1) (by decide) Try.sizeOf26 rfl) ?_
      first | refine rj_val (wn0 rfl) rfl rfl (y_load ⟨Try.isAgg26, Try.sizeOf26⟩ rfl (by ((repeat (first | exact Find.head _ | apply Find.tail)); done)) rfl) ?_ | refine rj_val (wn0 rfl) rfl rfl (y_load_slc ⟨Try.isAgg26, Try.sizeOf26⟩ rfl (by ((repeat (first | exact Find.head _ | apply Find.tail)); done)) rfl) ?_
      refine rj_val (wn0 rfl) rfl rfl (y_move rfl) ?_
      first | refine rj_val (wn0 rfl) rfl rfl (y_indexAddr Try.underlying26 Try.sizeOf43 rfl rfl (by (first | omega | (dsimp only; omega) | (simp; done) | (simp; omega)))) ?_ | refine rj_val (wn0 rfl) rfl rfl (y_index_slc Try.underlying26 Try.sizeOf43 rfl rfl (by ((repeat (first | exact Find.head _ | apply Find.tail)); done)) (by (first | omega | (dsimp only; omega) | (simp; done) | (simp; omega)))) ?_
      refine rj_val (wn0 rfl) rfl rfl ((y_loads_ro ⟨Try.isAgg43, Try.sizeOf43⟩ (vs := oneC (n, m) ve) rfl rfl (fun j u hj => hcell j u hj))) ?_
      refine rj_buildSlice (sz := 11) (wn0 rfl) rfl Try.underlying26 Try.sizeOf43 Try.zeroValue43 rfl rfl rfl (by decide) (by decide) (fun bz => ?_)
      refine rj_append (sz := 11) (by_ := 112) ⟨Try.underlying26, _, _, rfl, rfl, rfl, rfl, rfl⟩ (wn0 rfl) rfl rfl rfl (by ((repeat (first | exact Find.head _ | apply Find.tail)); done)) (src_slc (xs := oneC (n, m) ve) Try.underlying26 (by ((repeat (first | exact Find.head _ | apply Find.tail)); done)) (oneE.one (R := R) (x := (n, m)) ⟨ve, rfl, hve⟩)) rfl (by (first | omega | (dsimp only; omega) | (simp; done) | (simp; omega))) (by simp only [maxLen]; omega) (fun v24 ho24 hh24 => ?_)
      rw [flatt_snoc, ← hs2, show (dropG (st.take k) i).length + 1 = (dropG (st.take (k + 1)) i).length by rw [hs1]; simp]
      refine rj_val (wn0 rfl) rfl rfl (y_assign rfl) ?_
      refine rj_nil ?_
      refine hK8 _ _ _ ?_
      refine cj_env (Env.le_cons (t := 1) rfl (Env.le_cons (t := 2) rfl (Env.le_cons (t := 4) rfl (Env.le_cons (t := 5) rfl (Env.le_cons (t := 6) rfl (Env.le_nil _)))))) ?_
      refine cj_region ?_
      refine rj_val (wn0 rfl) rfl rfl (y_move rfl) ?_
      first | refine rj_val (wn0 rfl) rfl rfl (y_add64 rfl rfl (by (first | omega | (dsimp only; omega) | (simp; done) | (simp; omega)))) ?_ | refine rj_val (wn0 rfl) rfl rfl (y_add rfl rfl) ?_
      refine rj_val (wn0 rfl) rfl rfl (y_assign rfl) ?_
      refine rj_nil ?_
      refine ej_on (q' := roundK _ _ _ _ _ _ _) rfl ?_
      refine ej_round ((k + 1, v24)) (⟨by dsimp only; omega, by assumption⟩) (by dsimp only; omega) (Env.le_cons rfl (Env.le_cons rfl (Env.le_cons rfl (Env.le_cons rfl (Env.le_cons rfl (Env.le_nil _)))))) rfl (by (repeat (first | exact Sub.refl _ | (apply Sub.pick; focus (repeat (first | exact Find.head _ | apply Find.tail))) | apply Sub.drop | exact Sub.tailApp _ _)))
    · (try simp only [decide_eq_true_eq, decide_eq_false_iff_not, Bool.not_eq_true', Bool.not_eq_false', Bool.true_eq_false, Bool.false_eq_true] at hc16); rw [if_pos (by simpa using hc16)] at hs1 hs2
      rw [← hs1, ← hs2]
      refine cj_skip ?_
      refine hK8 _ _ _ ?_
      refine cj_region ?_
      refine rj_val (wn0 rfl) rfl rfl (y_move rfl) ?_
      first | refine rj_val (wn0 rfl) rfl rfl (y_add64 rfl rfl (by (first | omega | (dsimp only; omega) | (simp; done) | (simp; omega)))) ?_ | refine rj_val (wn0 rfl) rfl rfl (y_add rfl rfl) ?_
      refine rj_val (wn0 rfl) rfl rfl (y_assign rfl) ?_
      refine rj_nil ?_
      refine ej_on (q' := roundK _ _ _ _ _ _ _) rfl ?_
      refine ej_round ((k + 1, vl)) (⟨by dsimp only; omega, hvo⟩) (by dsimp only; omega) (Env.le_cons rfl (Env.le_cons rfl (Env.le_cons rfl (Env.le_cons rfl (Env.le_cons rfl (Env.le_nil _)))))) rfl (by (repeat (first | exact Sub.refl _ | (apply Sub.pick; focus (repeat (first | exact Find.head _ | apply Find.tail))) | apply Sub.drop | exact Sub.tailApp _ _)))
  · try simp only [decide_eq_true_eq, decide_eq_false_iff_not, Bool.not_eq_true', Bool.not_eq_false', Bool.true_eq_false, Bool.false_eq_true] at hc11
    refine cj_exit ?_
    refine hK3 _ _ _ ?_
    refine cj_env (Env.le_cons (t := 2) rfl (Env.le_cons (t := 4) rfl (Env.le_cons (t := 5) rfl (Env.le_nil _)))) ?_
    refine cj_seq (fun K11 hK11 => ?_)
    refine cj_region ?_
    obtain rfl : k = st.length := by (try simp at hc11); omega
    have hcl : css.length = st.length := he.1
    rw [List.take_of_length_le (Nat.le_refl _), List.take_of_length_le (by omega)]
    refine rj_pure (A := slc 43 11 vl (dropG st i).length (dropG css i).flatten) (by ((repeat (first | exact Find.head _ | apply Find.tail)); done)) slc_shape (fun hsh => ?_)
    obtain ⟨q15, k15, rfl, _⟩ := hsh
    refine rj_val (wn0 rfl) rfl rfl (y_move rfl) ?_
    refine rj_val (wn0 rfl) rfl rfl (y_fieldAddr (k := 1) Try.underlying29 rfl (n := 1) (by decide) Try.sizeOf27 rfl) ?_
    first | refine rj_val (wn0 rfl) rfl rfl (y_load ⟨Try.isAgg27, Try.sizeOf27⟩ rfl (by ((repeat (first | exact Find.head _ | apply Find.tail)); done)) rfl) ?_ | refine rj_val (wn0 rfl) rfl rfl (y_load_slc ⟨Try.isAgg27, Try.sizeOf27⟩ rfl (by ((repeat (first | exact Find.head _ | apply Find.tail)); done)) rfl) ?_
    refine rj_val (wn0 rfl) rfl rfl (y_build (cells := [_, _]) [(0, 1), (1, 1)] Try.underlying29 Try.zeroValue29 (fun _ => rfl) rfl rfl) ?_
    refine rj_stores ⟨Try.isAgg29, Try.sizeOf29⟩ rfl (wn0 rfl) rfl rfl (by (first | (simp [Value.oneCell']; done) | (intro u hu; simp only [List.mem_cons, List.not_mem_nil, or_false] at hu; rcases hu with rfl | rfl | rfl | rfl <;> first | rfl | assumption))) (by ((repeat (first | exact Find.head _ | apply Find.tail)); done)) (by (simp)) rfl ?_
    refine rj_freeze (e := 43) (sz := 11) (n := (dropG st i).length) (v := .slice q15 (dropG st i).length k15) (xs := (dropG css i).flatten) (by ((repeat (first | exact Find.head _ | apply Find.tail)); done)) (fun R2 hR2 hfr2 hxl => ?_)
    have hfx := FrozenS.frx hfr2 ((he.mono hR2).dropG i)
    refine rj_nil ?_
    refine hK11 _ _ _ ?_
    refine cj_env (Env.le_cons (t := 4) rfl (Env.le_nil _)) ?_
    refine cj_ret ?_
    refine hret _ _ _ ?_
    apply ej_ret Try.results15 (.cons (rv_cells ⟨Try.isAgg29, Try.sizeOf29⟩ rfl (by ((repeat (first | exact Find.head _ | apply Find.tail)); done)) rfl rfl) .nil) _ [] (by (first | exact Hp.le_refl _ | assumption | exact Hp.le_trans ‹_› ‹_›)) rfl
    case hp => rw [dropG_L]; exact ⟨rfl, _, rfl, hfx⟩
    case hS => (repeat (first | exact Sub.refl _ | (apply Sub.pick; focus (repeat (first | exact Find.head _ | apply Find.tail))) | apply Sub.drop | exact Sub.tailApp _ _))
end V
end Go.Proofs.Ythdmbdbncbdmiaa
