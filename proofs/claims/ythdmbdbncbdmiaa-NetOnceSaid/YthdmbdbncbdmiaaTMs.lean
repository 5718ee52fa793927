/- Messages compared, as the document's answer does it. -/
import Derived.Test.YthdmbdbncbdmiaaTMp
set_option linter.unusedSimpArgs false
set_option linter.unusedVariables false
set_option maxRecDepth 100000
namespace Go.Proofs.Ythdmbdbncbdmiaa
open Go.RowKit
namespace V
set_option maxHeartbeats 4000000
theorem takes_succ {α : Type} {l m : List α} {i : Nat} {x y : α} (hx : l[i]? = some x) (hy : m[i]? = some y) (h : l.take i = m.take i) (e : x = y) : l.take (i + 1) = m.take (i + 1) := by
  rw [List.take_add_one, List.take_add_one, hx, hy, h, e]
theorem ne_at {α : Type} {l m : List α} {i : Nat} {x y : α} (hx : l[i]? = some x) (hy : m[i]? = some y) (h : ¬ x = y) : ¬ l = m := by
  rintro rfl
  rw [hx] at hy; cases hy; exact h rfl
theorem msg_eq {x y : Msg} (h0 : x.kind = y.kind) (h1 : x.frm = y.frm) (h2 : x.to = y.to) (h3 : x.term = y.term) (h4 : x.index = y.index) (h5 : x.logTerm = y.logTerm) (h6 : x.commit = y.commit) (h7 : x.ok = y.ok) (h8 : x.es = y.es) (h9 : x.state = y.state) : x = y := by
  cases x; cases y; simp_all
theorem msgsSame_q {R : Hp} (la lb : List Msg) (va vb : Value) (ha : FrX msgE R la va) (hb : FrX msgE R lb vb) : QTri Try.prog 25 [va, vb] R [] (.bool (decide (la = lb))) := by
  refine Tri.q2 ?_
  obtain ⟨qa, ca, rfl, hca, hma⟩ := ha.shape
  obtain ⟨qb, cb, rfl, hcb, hmb⟩ := hb.shape
  have hma2 : ca ≤ 9223372036854775807 := by simp only [maxLen] at hma; omega
  have hmb2 : cb ≤ 9223372036854775807 := by simp only [maxLen] at hmb; omega
  refine tri_of Try.func25 rfl Try.ntmps25 rfl (fun σ F Q hret hend hpan => ?_)
  try simp only [List.cons_append, List.nil_append]
  refine cj_env (Env.le_cons (t := 0) rfl (Env.le_cons (t := 1) rfl (Env.le_nil _))) ?_
  refine cj_seq (fun K1 hK1 => ?_)
  refine cj_region ?_
  refine rj_val (wn0 rfl) rfl rfl (y_assign rfl) ?_
  refine rj_nil ?_
  refine hK1 _ _ _ ?_
  refine cj_seq (fun K2 hK2 => ?_)
  refine cj_seq (fun K3 hK3 => ?_)
  refine cj_region ?_
  refine rj_val (wn0 rfl) rfl rfl (y_move rfl) ?_
  first | refine rj_val (wn0 rfl) rfl rfl (y_len_sl Try.underlying64 rfl) ?_ | refine rj_val (wn0 rfl) rfl rfl (y_len_slc Try.underlying64 rfl (by ((repeat (first | exact Find.head _ | apply Find.tail)); done))) ?_
  refine rj_val (wn0 rfl) rfl rfl (y_move rfl) ?_
  first | refine rj_val (wn0 rfl) rfl rfl (y_len_sl Try.underlying64 rfl) ?_ | refine rj_val (wn0 rfl) rfl rfl (y_len_slc Try.underlying64 rfl (by ((repeat (first | exact Find.head _ | apply Find.tail)); done))) ?_
  refine rj_val (wn0 rfl) rfl rfl (y_neq rfl rfl) ?_
  refine rj_nil ?_
  refine hK3 _ _ _ ?_
  refine cj_env (Env.le_cons (t := 0) rfl (Env.le_cons (t := 1) rfl (Env.le_cons (t := 13) rfl (Env.le_nil _)))) ?_
  refine cj_cond rfl (fun hc13 => ?_) (fun hc13 => ?_)
  · try simp only [decide_eq_true_eq, decide_eq_false_iff_not, Bool.not_eq_true', Bool.not_eq_false', Bool.true_eq_false, Bool.false_eq_true] at hc13
    refine cj_seq (fun K5 hK5 => ?_)
    refine cj_region ?_
    refine rj_val (wn0 rfl) rfl rfl (y_assign rfl) ?_
    refine rj_nil ?_
    refine hK5 _ _ _ ?_
    refine cj_env (Env.le_cons (t := 4) rfl (Env.le_nil _)) ?_
    refine cj_ret ?_
    refine hret _ _ _ ?_
    apply ej_ret Try.results25 (.cons (rv_tmp rfl) .nil) _ [] (by (first | exact Hp.le_refl _ | assumption | exact Hp.le_trans ‹_› ‹_›)) rfl
    case hp => refine ⟨?_, rfl⟩; rw [decide_eq_false (by rintro rfl; simp at hc13)]; rfl
    case hS => (repeat (first | exact Sub.refl _ | (apply Sub.pick; focus (repeat (first | exact Find.head _ | apply Find.tail))) | apply Sub.drop | exact Sub.tailApp _ _))
  · (try simp only [decide_eq_true_eq, decide_eq_false_iff_not, Bool.not_eq_true', Bool.not_eq_false', Bool.true_eq_false, Bool.false_eq_true] at hc13); have hlen : la.length = lb.length := by (try simp at hc13); omega
    refine cj_skip ?_
    refine hK2 _ _ _ ?_
    refine cj_seq (fun K6 hK6 => ?_)
    refine cj_seq (fun K7 hK7 => ?_)
    refine cj_region ?_
    refine rj_val (wn0 rfl) rfl rfl (y_assign rfl) ?_
    refine rj_nil ?_
    refine hK7 _ _ _ ?_
    refine cj_block ?_
    refine cj_env (E' := (fun (x : Nat) => [(0, .slice qa la.length ca), (1, .slice qb lb.length cb), (5, .int .i64 (x : Int))]) 0) (Env.le_cons rfl (Env.le_cons rfl (Env.le_cons rfl (Env.le_nil _)))) ?_
    refine cj_sub (M := (fun (x : Nat) => F) 0) (by (repeat (first | exact Sub.refl _ | (apply Sub.pick; focus (repeat (first | exact Find.head _ | apply Find.tail))) | apply Sub.drop | exact Sub.tailApp _ _))) ?_
    refine cj_loop (fun (x : Nat) => [(0, .slice qa la.length ca), (1, .slice qb lb.length cb), (5, .int .i64 (x : Int))]) (fun (x : Nat) => R) (fun (x : Nat) => F) (fun (x : Nat) => x ≤ la.length ∧ la.take x = lb.take x) (fun (x : Nat) => la.length - x) 0 (⟨by simp, by simp⟩) ?_
    rintro i ⟨hi, hall⟩
    try dsimp only
    refine cj_seq (fun K8 hK8 => ?_)
    refine cj_seq (fun K9 hK9 => ?_)
    refine cj_region ?_
    refine rj_val (wn0 rfl) rfl rfl (y_move rfl) ?_
    refine rj_val (wn0 rfl) rfl rfl (y_move rfl) ?_
    first | refine rj_val (wn0 rfl) rfl rfl (y_len_sl Try.underlying64 rfl) ?_ | refine rj_val (wn0 rfl) rfl rfl (y_len_slc Try.underlying64 rfl (by ((repeat (first | exact Find.head _ | apply Find.tail)); done))) ?_
    refine rj_val (wn0 rfl) rfl rfl (y_lss rfl rfl) ?_
    refine rj_nil ?_
    refine hK9 _ _ _ ?_
    refine cj_env (Env.le_cons (t := 0) rfl (Env.le_cons (t := 1) rfl (Env.le_cons (t := 5) rfl (Env.le_cons (t := 17) rfl (Env.le_nil _))))) ?_
    refine cj_cond rfl (fun hc17 => ?_) (fun hc17 => ?_)
    · try simp only [decide_eq_true_eq, decide_eq_false_iff_not, Bool.not_eq_true', Bool.not_eq_false', Bool.true_eq_false, Bool.false_eq_true] at hc17
      refine cj_skip ?_
      refine hK8 _ _ _ ?_
      refine cj_seq (fun K11 hK11 => ?_)
      refine cj_block ?_
      refine cj_seq (fun K12 hK12 => ?_)
      refine cj_region ?_
      obtain ⟨x, hx⟩ : ∃ x, la[i]? = some x := ⟨la[i]'(by omega), by simp⟩
      obtain ⟨y, hy⟩ : ∃ y, lb[i]? = some y := ⟨lb[i]'(by omega), by simp⟩
      obtain ⟨b, off, cap, cs, he, ⟨ve, rfl, hve⟩, hcl, hcell⟩ := ha.at hx
      obtain ⟨b', off', cap', cs', he', ⟨ve', rfl, hve'⟩, hcl', hcell'⟩ := hb.at hy
      obtain ⟨rfl, rfl⟩ : qa = some ⟨b, off, none⟩ ∧ ca = cap := by cases he; exact ⟨rfl, rfl⟩
      obtain ⟨rfl, rfl⟩ : qb = some ⟨b', off', none⟩ ∧ cb = cap' := by cases he'; exact ⟨rfl, rfl⟩
      have hne := fun h => ne_at hx hy h
      obtain ⟨qe, ce, rfl, hce, hme⟩ := hve.shape
      obtain ⟨qe', ce', rfl, hce', hme'⟩ := hve'.shape
      have hme2 : ce ≤ 9223372036854775807 := by simp only [maxLen] at hme; omega
      have hme2' : ce' ≤ 9223372036854775807 := by simp only [maxLen] at hme'; omega
      refine rj_val (wn0 rfl) rfl rfl (y_move rfl) ?_
      refine rj_val (wn0 rfl) rfl rfl (y_move rfl) ?_
      first | refine rj_val (wn0 rfl) rfl rfl (y_indexAddr Try.underlying64 Try.sizeOf32 rfl rfl (by (first | omega | (dsimp only; omega) | (simp; done) | (simp; omega)))) ?_ | refine rj_val (wn0 rfl) rfl rfl (y_index_slc Try.underlying64 Try.sizeOf32 rfl rfl (by ((repeat (first | exact Find.head _ | apply Find.tail)); done)) (by (first | omega | (dsimp only; omega) | (simp; done) | (simp; omega)))) ?_
      refine rj_val (wn0 rfl) rfl rfl ((y_loads_ro ⟨Try.isAgg32, Try.sizeOf32⟩ (vs := msgC x (.slice qe x.es.length ce)) rfl rfl (fun j u hj => hcell j u hj))) ?_
      refine rj_alloc (wn0 rfl) rfl Try.zeroValue32 rfl (fun b6 => ?_)
      refine rj_stores ⟨Try.isAgg32, Try.sizeOf32⟩ rfl (wn0 rfl) rfl rfl (msgE.one (R := R) (x := x) ⟨_, rfl, hve⟩) (by ((repeat (first | exact Find.head _ | apply Find.tail)); done)) (by exact Nat.le_refl 10) rfl ?_
      refine rj_nil ?_
      refine hK12 _ _ _ ?_
      refine cj_env (Env.le_cons (t := 0) rfl (Env.le_cons (t := 1) rfl (Env.le_cons (t := 5) rfl (Env.le_cons (t := 6) rfl (Env.le_nil _))))) ?_
      refine cj_seq (fun K13 hK13 => ?_)
      refine cj_region ?_
      refine rj_val (wn0 rfl) rfl rfl (y_move rfl) ?_
      refine rj_val (wn0 rfl) rfl rfl (y_move rfl) ?_
      first | refine rj_val (wn0 rfl) rfl rfl (y_indexAddr Try.underlying64 Try.sizeOf32 rfl rfl (by (first | omega | (dsimp only; omega) | (simp; done) | (simp; omega)))) ?_ | refine rj_val (wn0 rfl) rfl rfl (y_index_slc Try.underlying64 Try.sizeOf32 rfl rfl (by ((repeat (first | exact Find.head _ | apply Find.tail)); done)) (by (first | omega | (dsimp only; omega) | (simp; done) | (simp; omega)))) ?_
      refine rj_val (wn0 rfl) rfl rfl ((y_loads_ro ⟨Try.isAgg32, Try.sizeOf32⟩ (vs := msgC y (.slice qe' y.es.length ce')) rfl rfl (fun j u hj => hcell' j u hj))) ?_
      refine rj_alloc (wn0 rfl) rfl Try.zeroValue32 rfl (fun b7 => ?_)
      refine rj_stores ⟨Try.isAgg32, Try.sizeOf32⟩ rfl (wn0 rfl) rfl rfl (msgE.one (R := R) (x := y) ⟨_, rfl, hve'⟩) (by ((repeat (first | exact Find.head _ | apply Find.tail)); done)) (by exact Nat.le_refl 10) rfl ?_
      refine rj_nil ?_
      refine hK13 _ _ _ ?_
      refine cj_env (Env.le_cons (t := 0) rfl (Env.le_cons (t := 1) rfl (Env.le_cons (t := 5) rfl (Env.le_cons (t := 6) rfl (Env.le_cons (t := 7) rfl (Env.le_nil _)))))) ?_
      refine cj_seq (fun K14 hK14 => ?_)
      refine cj_seq (fun K15 hK15 => ?_)
      refine cj_region ?_
      refine rj_val (wn0 rfl) rfl rfl (y_fieldAddr (k := 0) Try.underlying32 rfl (n := 1) (by decide) Try.sizeOf3 rfl) ?_
      first | refine rj_val (wn0 rfl) rfl rfl (y_load ⟨Try.isAgg3, Try.sizeOf3⟩ rfl (by ((repeat (first | exact Find.head _ | apply Find.tail)); done)) rfl) ?_ | refine rj_val (wn0 rfl) rfl rfl (y_load_slc ⟨Try.isAgg3, Try.sizeOf3⟩ rfl (by ((repeat (first | exact Find.head _ | apply Find.tail)); done)) rfl) ?_
      refine rj_val (wn0 rfl) rfl rfl (y_fieldAddr (k := 0) Try.underlying32 rfl (n := 1) (by decide) Try.sizeOf3 rfl) ?_
      first | refine rj_val (wn0 rfl) rfl rfl (y_load ⟨Try.isAgg3, Try.sizeOf3⟩ rfl (by ((repeat (first | exact Find.head _ | apply Find.tail)); done)) rfl) ?_ | refine rj_val (wn0 rfl) rfl rfl (y_load_slc ⟨Try.isAgg3, Try.sizeOf3⟩ rfl (by ((repeat (first | exact Find.head _ | apply Find.tail)); done)) rfl) ?_
      refine rj_val (wn0 rfl) rfl rfl (y_neq rfl rfl) ?_
      refine rj_val (wn0 rfl) rfl rfl (y_move rfl) ?_
      refine rj_part 33 rfl (fun hg33 => ?_) (fun hg33 => ?_)
      · try simp only [decide_eq_true_eq, decide_eq_false_iff_not, Bool.not_eq_true', Bool.not_eq_false', Bool.true_eq_false, Bool.false_eq_true] at hg33
        refine rj_skip (wn2 rfl rfl rfl rfl rfl) rfl rfl ?_
        refine rj_skip (wn2 rfl rfl rfl rfl rfl) rfl rfl ?_
        refine rj_skip (wn2 rfl rfl rfl rfl rfl) rfl rfl ?_
        refine rj_skip (wn2 rfl rfl rfl rfl rfl) rfl rfl ?_
        refine rj_skip (wn2 rfl rfl rfl rfl rfl) rfl rfl ?_
        refine rj_val (wn0 rfl) rfl rfl (y_pick_t rfl rfl) ?_
        refine rj_val (wn0 rfl) rfl rfl (y_move rfl) ?_
        refine rj_skip (wn2 rfl rfl rfl rfl rfl) rfl rfl ?_
        refine rj_skip (wn2 rfl rfl rfl rfl rfl) rfl rfl ?_
        refine rj_skip (wn2 rfl rfl rfl rfl rfl) rfl rfl ?_
        refine rj_skip (wn2 rfl rfl rfl rfl rfl) rfl rfl ?_
        refine rj_skip (wn2 rfl rfl rfl rfl rfl) rfl rfl ?_
        refine rj_val (wn0 rfl) rfl rfl (y_pick_t rfl rfl) ?_
        refine rj_val (wn0 rfl) rfl rfl (y_move rfl) ?_
        refine rj_skip (wn2 rfl rfl rfl rfl rfl) rfl rfl ?_
        refine rj_skip (wn2 rfl rfl rfl rfl rfl) rfl rfl ?_
        refine rj_skip (wn2 rfl rfl rfl rfl rfl) rfl rfl ?_
        refine rj_skip (wn2 rfl rfl rfl rfl rfl) rfl rfl ?_
        refine rj_skip (wn2 rfl rfl rfl rfl rfl) rfl rfl ?_
        refine rj_val (wn0 rfl) rfl rfl (y_pick_t rfl rfl) ?_
        refine rj_val (wn0 rfl) rfl rfl (y_move rfl) ?_
        refine rj_skip (wn2 rfl rfl rfl rfl rfl) rfl rfl ?_
        refine rj_skip (wn2 rfl rfl rfl rfl rfl) rfl rfl ?_
        refine rj_skip (wn2 rfl rfl rfl rfl rfl) rfl rfl ?_
        refine rj_skip (wn2 rfl rfl rfl rfl rfl) rfl rfl ?_
        refine rj_skip (wn2 rfl rfl rfl rfl rfl) rfl rfl ?_
        refine rj_val (wn0 rfl) rfl rfl (y_pick_t rfl rfl) ?_
        refine rj_val (wn0 rfl) rfl rfl (y_move rfl) ?_
        refine rj_skip (wn2 rfl rfl rfl rfl rfl) rfl rfl ?_
        refine rj_skip (wn2 rfl rfl rfl rfl rfl) rfl rfl ?_
        refine rj_skip (wn2 rfl rfl rfl rfl rfl) rfl rfl ?_
        refine rj_skip (wn2 rfl rfl rfl rfl rfl) rfl rfl ?_
        refine rj_skip (wn2 rfl rfl rfl rfl rfl) rfl rfl ?_
        refine rj_val (wn0 rfl) rfl rfl (y_pick_t rfl rfl) ?_
        refine rj_val (wn0 rfl) rfl rfl (y_move rfl) ?_
        refine rj_skip (wn2 rfl rfl rfl rfl rfl) rfl rfl ?_
        refine rj_skip (wn2 rfl rfl rfl rfl rfl) rfl rfl ?_
        refine rj_skip (wn2 rfl rfl rfl rfl rfl) rfl rfl ?_
        refine rj_skip (wn2 rfl rfl rfl rfl rfl) rfl rfl ?_
        refine rj_skip (wn2 rfl rfl rfl rfl rfl) rfl rfl ?_
        refine rj_val (wn0 rfl) rfl rfl (y_pick_t rfl rfl) ?_
        refine rj_val (wn0 rfl) rfl rfl (y_move rfl) ?_
        refine rj_skip (wn2 rfl rfl rfl rfl rfl) rfl rfl ?_
        refine rj_skip (wn2 rfl rfl rfl rfl rfl) rfl rfl ?_
        refine rj_skip (wn2 rfl rfl rfl rfl rfl) rfl rfl ?_
        refine rj_skip (wn2 rfl rfl rfl rfl rfl) rfl rfl ?_
        refine rj_skip (wn2 rfl rfl rfl rfl rfl) rfl rfl ?_
        refine rj_val (wn0 rfl) rfl rfl (y_pick_t rfl rfl) ?_
        refine rj_val (wn0 rfl) rfl rfl (y_move rfl) ?_
        refine rj_skip (wn2 rfl rfl rfl rfl rfl) rfl rfl ?_
        refine rj_skip (wn2 rfl rfl rfl rfl rfl) rfl rfl ?_
        refine rj_skip (wn2 rfl rfl rfl rfl rfl) rfl rfl ?_
        refine rj_skip (wn2 rfl rfl rfl rfl rfl) rfl rfl ?_
        refine rj_skip (wn2 rfl rfl rfl rfl rfl) rfl rfl ?_
        refine rj_val (wn0 rfl) rfl rfl (y_pick_t rfl rfl) ?_
        refine rj_val (wn0 rfl) rfl rfl (y_move rfl) ?_
        refine rj_skip (wn2 rfl rfl rfl rfl rfl) rfl rfl ?_
        refine rj_skip (wn2 rfl rfl rfl rfl rfl) rfl rfl ?_
        refine rj_skip (wn2 rfl rfl rfl rfl rfl) rfl rfl ?_
        refine rj_skip (wn2 rfl rfl rfl rfl rfl) rfl rfl ?_
        refine rj_skip (wn2 rfl rfl rfl rfl rfl) rfl rfl ?_
        refine rj_skip (wn2 rfl rfl rfl rfl rfl) rfl rfl ?_
        refine rj_skip (wn2 rfl rfl rfl rfl rfl) rfl rfl ?_
        refine rj_val (wn0 rfl) rfl rfl (y_pick_t rfl rfl) ?_
        refine rj_nil ?_
        refine hK15 _ _ _ ?_
        refine cj_env (Env.le_cons (t := 0) rfl (Env.le_cons (t := 1) rfl (Env.le_cons (t := 5) rfl (Env.le_cons (t := 6) rfl (Env.le_cons (t := 7) rfl (Env.le_cons (t := 97) rfl (Env.le_nil _))))))) ?_
        refine cj_cond_t rfl ?_
        refine cj_seq (fun K16 hK16 => ?_)
        refine cj_region ?_
        refine rj_val (wn0 rfl) rfl rfl (y_assign rfl) ?_
        refine rj_nil ?_
        refine hK16 _ _ _ ?_
        refine cj_env (Env.le_cons (t := 4) rfl (Env.le_nil _)) ?_
        refine cj_ret ?_
        refine hret _ _ _ ?_
        apply ej_ret Try.results25 (.cons (rv_tmp rfl) .nil) _ [] (by (first | exact Hp.le_refl _ | assumption | exact Hp.le_trans ‹_› ‹_›)) rfl
        case hp => refine ⟨?_, rfl⟩; rw [decide_eq_false (hne (by rintro rfl; simp at *))]; rfl
        case hS => (repeat (first | exact Sub.refl _ | (apply Sub.pick; focus (repeat (first | exact Find.head _ | apply Find.tail))) | apply Sub.drop | exact Sub.tailApp _ _))
      · try simp only [decide_eq_true_eq, decide_eq_false_iff_not, Bool.not_eq_true', Bool.not_eq_false', Bool.true_eq_false, Bool.false_eq_true] at hg33
        refine rj_val (wn1 rfl rfl rfl rfl) rfl rfl (y_fieldAddr (k := 1) Try.underlying32 rfl (n := 1) (by decide) Try.sizeOf3 rfl) ?_
        first | refine rj_val (wn1 rfl rfl rfl rfl) rfl rfl (y_load ⟨Try.isAgg3, Try.sizeOf3⟩ rfl (by ((repeat (first | exact Find.head _ | apply Find.tail)); done)) rfl) ?_ | refine rj_val (wn1 rfl rfl rfl rfl) rfl rfl (y_load_slc ⟨Try.isAgg3, Try.sizeOf3⟩ rfl (by ((repeat (first | exact Find.head _ | apply Find.tail)); done)) rfl) ?_
        refine rj_val (wn1 rfl rfl rfl rfl) rfl rfl (y_fieldAddr (k := 1) Try.underlying32 rfl (n := 1) (by decide) Try.sizeOf3 rfl) ?_
        first | refine rj_val (wn1 rfl rfl rfl rfl) rfl rfl (y_load ⟨Try.isAgg3, Try.sizeOf3⟩ rfl (by ((repeat (first | exact Find.head _ | apply Find.tail)); done)) rfl) ?_ | refine rj_val (wn1 rfl rfl rfl rfl) rfl rfl (y_load_slc ⟨Try.isAgg3, Try.sizeOf3⟩ rfl (by ((repeat (first | exact Find.head _ | apply Find.tail)); done)) rfl) ?_
        refine rj_val (wn1 rfl rfl rfl rfl) rfl rfl (y_neq rfl rfl) ?_
        refine rj_val (wn0 rfl) rfl rfl (y_pick_f rfl rfl) ?_
        refine rj_val (wn0 rfl) rfl rfl (y_move rfl) ?_
        refine rj_part 40 rfl (fun hg40 => ?_) (fun hg40 => ?_)
        · try simp only [decide_eq_true_eq, decide_eq_false_iff_not, Bool.not_eq_true', Bool.not_eq_false', Bool.true_eq_false, Bool.false_eq_true] at hg40
          refine rj_skip (wn2 rfl rfl rfl rfl rfl) rfl rfl ?_
          refine rj_skip (wn2 rfl rfl rfl rfl rfl) rfl rfl ?_
          refine rj_skip (wn2 rfl rfl rfl rfl rfl) rfl rfl ?_
          refine rj_skip (wn2 rfl rfl rfl rfl rfl) rfl rfl ?_
          refine rj_skip (wn2 rfl rfl rfl rfl rfl) rfl rfl ?_
          refine rj_val (wn0 rfl) rfl rfl (y_pick_t rfl rfl) ?_
          refine rj_val (wn0 rfl) rfl rfl (y_move rfl) ?_
          refine rj_skip (wn2 rfl rfl rfl rfl rfl) rfl rfl ?_
          refine rj_skip (wn2 rfl rfl rfl rfl rfl) rfl rfl ?_
          refine rj_skip (wn2 rfl rfl rfl rfl rfl) rfl rfl ?_
          refine rj_skip (wn2 rfl rfl rfl rfl rfl) rfl rfl ?_
          refine rj_skip (wn2 rfl rfl rfl rfl rfl) rfl rfl ?_
          refine rj_val (wn0 rfl) rfl rfl (y_pick_t rfl rfl) ?_
          refine rj_val (wn0 rfl) rfl rfl (y_move rfl) ?_
          refine rj_skip (wn2 rfl rfl rfl rfl rfl) rfl rfl ?_
          refine rj_skip (wn2 rfl rfl rfl rfl rfl) rfl rfl ?_
          refine rj_skip (wn2 rfl rfl rfl rfl rfl) rfl rfl ?_
          refine rj_skip (wn2 rfl rfl rfl rfl rfl) rfl rfl ?_
          refine rj_skip (wn2 rfl rfl rfl rfl rfl) rfl rfl ?_
          refine rj_val (wn0 rfl) rfl rfl (y_pick_t rfl rfl) ?_
          refine rj_val (wn0 rfl) rfl rfl (y_move rfl) ?_
          refine rj_skip (wn2 rfl rfl rfl rfl rfl) rfl rfl ?_
          refine rj_skip (wn2 rfl rfl rfl rfl rfl) rfl rfl ?_
          refine rj_skip (wn2 rfl rfl rfl rfl rfl) rfl rfl ?_
          refine rj_skip (wn2 rfl rfl rfl rfl rfl) rfl rfl ?_
          refine rj_skip (wn2 rfl rfl rfl rfl rfl) rfl rfl ?_
          refine rj_val (wn0 rfl) rfl rfl (y_pick_t rfl rfl) ?_
          refine rj_val (wn0 rfl) rfl rfl (y_move rfl) ?_
          refine rj_skip (wn2 rfl rfl rfl rfl rfl) rfl rfl ?_
          refine rj_skip (wn2 rfl rfl rfl rfl rfl) rfl rfl ?_
          refine rj_skip (wn2 rfl rfl rfl rfl rfl) rfl rfl ?_
          refine rj_skip (wn2 rfl rfl rfl rfl rfl) rfl rfl ?_
          refine rj_skip (wn2 rfl rfl rfl rfl rfl) rfl rfl ?_
          refine rj_val (wn0 rfl) rfl rfl (y_pick_t rfl rfl) ?_
          refine rj_val (wn0 rfl) rfl rfl (y_move rfl) ?_
          refine rj_skip (wn2 rfl rfl rfl rfl rfl) rfl rfl ?_
          refine rj_skip (wn2 rfl rfl rfl rfl rfl) rfl rfl ?_
          refine rj_skip (wn2 rfl rfl rfl rfl rfl) rfl rfl ?_
          refine rj_skip (wn2 rfl rfl rfl rfl rfl) rfl rfl ?_
          refine rj_skip (wn2 rfl rfl rfl rfl rfl) rfl rfl ?_
          refine rj_val (wn0 rfl) rfl rfl (y_pick_t rfl rfl) ?_
          refine rj_val (wn0 rfl) rfl rfl (y_move rfl) ?_
          refine rj_skip (wn2 rfl rfl rfl rfl rfl) rfl rfl ?_
          refine rj_skip (wn2 rfl rfl rfl rfl rfl) rfl rfl ?_
          refine rj_skip (wn2 rfl rfl rfl rfl rfl) rfl rfl ?_
          refine rj_skip (wn2 rfl rfl rfl rfl rfl) rfl rfl ?_
          refine rj_skip (wn2 rfl rfl rfl rfl rfl) rfl rfl ?_
          refine rj_val (wn0 rfl) rfl rfl (y_pick_t rfl rfl) ?_
          refine rj_val (wn0 rfl) rfl rfl (y_move rfl) ?_
          refine rj_skip (wn2 rfl rfl rfl rfl rfl) rfl rfl ?_
          refine rj_skip (wn2 rfl rfl rfl rfl rfl) rfl rfl ?_
          refine rj_skip (wn2 rfl rfl rfl rfl rfl) rfl rfl ?_
          refine rj_skip (wn2 rfl rfl rfl rfl rfl) rfl rfl ?_
          refine rj_skip (wn2 rfl rfl rfl rfl rfl) rfl rfl ?_
          refine rj_skip (wn2 rfl rfl rfl rfl rfl) rfl rfl ?_
          refine rj_skip (wn2 rfl rfl rfl rfl rfl) rfl rfl ?_
          refine rj_val (wn0 rfl) rfl rfl (y_pick_t rfl rfl) ?_
          refine rj_nil ?_
          refine hK15 _ _ _ ?_
          refine cj_env (Env.le_cons (t := 0) rfl (Env.le_cons (t := 1) rfl (Env.le_cons (t := 5) rfl (Env.le_cons (t := 6) rfl (Env.le_cons (t := 7) rfl (Env.le_cons (t := 97) rfl (Env.le_nil _))))))) ?_
          refine cj_cond_t rfl ?_
          refine cj_seq (fun K17 hK17 => ?_)
          refine cj_region ?_
          refine rj_val (wn0 rfl) rfl rfl (y_assign rfl) ?_
          refine rj_nil ?_
          refine hK17 _ _ _ ?_
          refine cj_env (Env.le_cons (t := 4) rfl (Env.le_nil _)) ?_
          refine cj_ret ?_
          refine hret _ _ _ ?_
          apply ej_ret Try.results25 (.cons (rv_tmp rfl) .nil) _ [] (by (first | exact Hp.le_refl _ | assumption | exact Hp.le_trans ‹_› ‹_›)) rfl
          case hp => refine ⟨?_, rfl⟩; rw [decide_eq_false (hne (by rintro rfl; simp at *))]; rfl
          case hS => (repeat (first | exact Sub.refl _ | (apply Sub.pick; focus (repeat (first | exact Find.head _ | apply Find.tail))) | apply Sub.drop | exact Sub.tailApp _ _))
        · try simp only [decide_eq_true_eq, decide_eq_false_iff_not, Bool.not_eq_true', Bool.not_eq_false', Bool.true_eq_false, Bool.false_eq_true] at hg40
          refine rj_val (wn1 rfl rfl rfl rfl) rfl rfl (y_fieldAddr (k := 2) Try.underlying32 rfl (n := 1) (by decide) Try.sizeOf3 rfl) ?_
          first | refine rj_val (wn1 rfl rfl rfl rfl) rfl rfl (y_load ⟨Try.isAgg3, Try.sizeOf3⟩ rfl (by ((repeat (first | exact Find.head _ | apply Find.tail)); done)) rfl) ?_ | refine rj_val (wn1 rfl rfl rfl rfl) rfl rfl (y_load_slc ⟨Try.isAgg3, Try.sizeOf3⟩ rfl (by ((repeat (first | exact Find.head _ | apply Find.tail)); done)) rfl) ?_
          refine rj_val (wn1 rfl rfl rfl rfl) rfl rfl (y_fieldAddr (k := 2) Try.underlying32 rfl (n := 1) (by decide) Try.sizeOf3 rfl) ?_
          first | refine rj_val (wn1 rfl rfl rfl rfl) rfl rfl (y_load ⟨Try.isAgg3, Try.sizeOf3⟩ rfl (by ((repeat (first | exact Find.head _ | apply Find.tail)); done)) rfl) ?_ | refine rj_val (wn1 rfl rfl rfl rfl) rfl rfl (y_load_slc ⟨Try.isAgg3, Try.sizeOf3⟩ rfl (by ((repeat (first | exact Find.head _ | apply Find.tail)); done)) rfl) ?_
          refine rj_val (wn1 rfl rfl rfl rfl) rfl rfl (y_neq rfl rfl) ?_
          refine rj_val (wn0 rfl) rfl rfl (y_pick_f rfl rfl) ?_
          refine rj_val (wn0 rfl) rfl rfl (y_move rfl) ?_
          refine rj_part 47 rfl (fun hg47 => ?_) (fun hg47 => ?_)
          · try simp only [decide_eq_true_eq, decide_eq_false_iff_not, Bool.not_eq_true', Bool.not_eq_false', Bool.true_eq_false, Bool.false_eq_true] at hg47
            refine rj_skip (wn2 rfl rfl rfl rfl rfl) rfl rfl ?_
            refine rj_skip (wn2 rfl rfl rfl rfl rfl) rfl rfl ?_
            refine rj_skip (wn2 rfl rfl rfl rfl rfl) rfl rfl ?_
            refine rj_skip (wn2 rfl rfl rfl rfl rfl) rfl rfl ?_
            refine rj_skip (wn2 rfl rfl rfl rfl rfl) rfl rfl ?_
            refine rj_val (wn0 rfl) rfl rfl (y_pick_t rfl rfl) ?_
            refine rj_val (wn0 rfl) rfl rfl (y_move rfl) ?_
            refine rj_skip (wn2 rfl rfl rfl rfl rfl) rfl rfl ?_
            refine rj_skip (wn2 rfl rfl rfl rfl rfl) rfl rfl ?_
            refine rj_skip (wn2 rfl rfl rfl rfl rfl) rfl rfl ?_
            refine rj_skip (wn2 rfl rfl rfl rfl rfl) rfl rfl ?_
            refine rj_skip (wn2 rfl rfl rfl rfl rfl) rfl rfl ?_
            refine rj_val (wn0 rfl) rfl rfl (y_pick_t rfl rfl) ?_
            refine rj_val (wn0 rfl) rfl rfl (y_move rfl) ?_
            refine rj_skip (wn2 rfl rfl rfl rfl rfl) rfl rfl ?_
            refine rj_skip (wn2 rfl rfl rfl rfl rfl) rfl rfl ?_
            refine rj_skip (wn2 rfl rfl rfl rfl rfl) rfl rfl ?_
            refine rj_skip (wn2 rfl rfl rfl rfl rfl) rfl rfl ?_
            refine rj_skip (wn2 rfl rfl rfl rfl rfl) rfl rfl ?_
            refine rj_val (wn0 rfl) rfl rfl (y_pick_t rfl rfl) ?_
            refine rj_val (wn0 rfl) rfl rfl (y_move rfl) ?_
            refine rj_skip (wn2 rfl rfl rfl rfl rfl) rfl rfl ?_
            refine rj_skip (wn2 rfl rfl rfl rfl rfl) rfl rfl ?_
            refine rj_skip (wn2 rfl rfl rfl rfl rfl) rfl rfl ?_
            refine rj_skip (wn2 rfl rfl rfl rfl rfl) rfl rfl ?_
            refine rj_skip (wn2 rfl rfl rfl rfl rfl) rfl rfl ?_
            refine rj_val (wn0 rfl) rfl rfl (y_pick_t rfl rfl) ?_
            refine rj_val (wn0 rfl) rfl rfl (y_move rfl) ?_
            refine rj_skip (wn2 rfl rfl rfl rfl rfl) rfl rfl ?_
            refine rj_skip (wn2 rfl rfl rfl rfl rfl) rfl rfl ?_
            refine rj_skip (wn2 rfl rfl rfl rfl rfl) rfl rfl ?_
            refine rj_skip (wn2 rfl rfl rfl rfl rfl) rfl rfl ?_
            refine rj_skip (wn2 rfl rfl rfl rfl rfl) rfl rfl ?_
            refine rj_val (wn0 rfl) rfl rfl (y_pick_t rfl rfl) ?_
            refine rj_val (wn0 rfl) rfl rfl (y_move rfl) ?_
            refine rj_skip (wn2 rfl rfl rfl rfl rfl) rfl rfl ?_
            refine rj_skip (wn2 rfl rfl rfl rfl rfl) rfl rfl ?_
            refine rj_skip (wn2 rfl rfl rfl rfl rfl) rfl rfl ?_
            refine rj_skip (wn2 rfl rfl rfl rfl rfl) rfl rfl ?_
            refine rj_skip (wn2 rfl rfl rfl rfl rfl) rfl rfl ?_
            refine rj_val (wn0 rfl) rfl rfl (y_pick_t rfl rfl) ?_
            refine rj_val (wn0 rfl) rfl rfl (y_move rfl) ?_
            refine rj_skip (wn2 rfl rfl rfl rfl rfl) rfl rfl ?_
            refine rj_skip (wn2 rfl rfl rfl rfl rfl) rfl rfl ?_
            refine rj_skip (wn2 rfl rfl rfl rfl rfl) rfl rfl ?_
            refine rj_skip (wn2 rfl rfl rfl rfl rfl) rfl rfl ?_
            refine rj_skip (wn2 rfl rfl rfl rfl rfl) rfl rfl ?_
            refine rj_skip (wn2 rfl rfl rfl rfl rfl) rfl rfl ?_
            refine rj_skip (wn2 rfl rfl rfl rfl rfl) rfl rfl ?_
            refine rj_val (wn0 rfl) rfl rfl (y_pick_t rfl rfl) ?_
            refine rj_nil ?_
            refine hK15 _ _ _ ?_
            refine cj_env (Env.le_cons (t := 0) rfl (Env.le_cons (t := 1) rfl (Env.le_cons (t := 5) rfl (Env.le_cons (t := 6) rfl (Env.le_cons (t := 7) rfl (Env.le_cons (t := 97) rfl (Env.le_nil _))))))) ?_
            refine cj_cond_t rfl ?_
            refine cj_seq (fun K18 hK18 => ?_)
            refine cj_region ?_
            refine rj_val (wn0 rfl) rfl rfl (y_assign rfl) ?_
            refine rj_nil ?_
            refine hK18 _ _ _ ?_
            refine cj_env (Env.le_cons (t := 4) rfl (Env.le_nil _)) ?_
            refine cj_ret ?_
            refine hret _ _ _ ?_
            apply ej_ret Try.results25 (.cons (rv_tmp rfl) .nil) _ [] (by (first | exact Hp.le_refl _ | assumption | exact Hp.le_trans ‹_› ‹_›)) rfl
            case hp => refine ⟨?_, rfl⟩; rw [decide_eq_false (hne (by rintro rfl; simp at *))]; rfl
            case hS => (repeat (first | exact Sub.refl _ | (apply Sub.pick; focus (repeat (first | exact Find.head _ | apply Find.tail))) | apply Sub.drop | exact Sub.tailApp _ _))
          · try simp only [decide_eq_true_eq, decide_eq_false_iff_not, Bool.not_eq_true', Bool.not_eq_false', Bool.true_eq_false, Bool.false_eq_true] at hg47
            refine rj_val (wn1 rfl rfl rfl rfl) rfl rfl (y_fieldAddr (k := 3) Try.underlying32 rfl (n := 1) (by decide) Try.sizeOf27 rfl) ?_
            first | refine rj_val (wn1 rfl rfl rfl rfl) rfl rfl (y_load ⟨Try.isAgg27, Try.sizeOf27⟩ rfl (by ((repeat (first | exact Find.head _ | apply Find.tail)); done)) rfl) ?_ | refine rj_val (wn1 rfl rfl rfl rfl) rfl rfl (y_load_slc ⟨Try.isAgg27, Try.sizeOf27⟩ rfl (by ((repeat (first | exact Find.head _ | apply Find.tail)); done)) rfl) ?_
            refine rj_val (wn1 rfl rfl rfl rfl) rfl rfl (y_fieldAddr (k := 3) Try.underlying32 rfl (n := 1) (by decide) Try.sizeOf27 rfl) ?_
            first | refine rj_val (wn1 rfl rfl rfl rfl) rfl rfl (y_load ⟨Try.isAgg27, Try.sizeOf27⟩ rfl (by ((repeat (first | exact Find.head _ | apply Find.tail)); done)) rfl) ?_ | refine rj_val (wn1 rfl rfl rfl rfl) rfl rfl (y_load_slc ⟨Try.isAgg27, Try.sizeOf27⟩ rfl (by ((repeat (first | exact Find.head _ | apply Find.tail)); done)) rfl) ?_
            refine rj_val (wn1 rfl rfl rfl rfl) rfl rfl (y_neq rfl rfl) ?_
            refine rj_val (wn0 rfl) rfl rfl (y_pick_f rfl rfl) ?_
            refine rj_val (wn0 rfl) rfl rfl (y_move rfl) ?_
            refine rj_part 54 rfl (fun hg54 => ?_) (fun hg54 => ?_)
            · try simp only [decide_eq_true_eq, decide_eq_false_iff_not, Bool.not_eq_true', Bool.not_eq_false', Bool.true_eq_false, Bool.false_eq_true] at hg54
              refine rj_skip (wn2 rfl rfl rfl rfl rfl) rfl rfl ?_
              refine rj_skip (wn2 rfl rfl rfl rfl rfl) rfl rfl ?_
              refine rj_skip (wn2 rfl rfl rfl rfl rfl) rfl rfl ?_
              refine rj_skip (wn2 rfl rfl rfl rfl rfl) rfl rfl ?_
              refine rj_skip (wn2 rfl rfl rfl rfl rfl) rfl rfl ?_
              refine rj_val (wn0 rfl) rfl rfl (y_pick_t rfl rfl) ?_
              refine rj_val (wn0 rfl) rfl rfl (y_move rfl) ?_
              refine rj_skip (wn2 rfl rfl rfl rfl rfl) rfl rfl ?_
              refine rj_skip (wn2 rfl rfl rfl rfl rfl) rfl rfl ?_
              refine rj_skip (wn2 rfl rfl rfl rfl rfl) rfl rfl ?_
              refine rj_skip (wn2 rfl rfl rfl rfl rfl) rfl rfl ?_
              refine rj_skip (wn2 rfl rfl rfl rfl rfl) rfl rfl ?_
              refine rj_val (wn0 rfl) rfl rfl (y_pick_t rfl rfl) ?_
              refine rj_val (wn0 rfl) rfl rfl (y_move rfl) ?_
              refine rj_skip (wn2 rfl rfl rfl rfl rfl) rfl rfl ?_
              refine rj_skip (wn2 rfl rfl rfl rfl rfl) rfl rfl ?_
              refine rj_skip (wn2 rfl rfl rfl rfl rfl) rfl rfl ?_
              refine rj_skip (wn2 rfl rfl rfl rfl rfl) rfl rfl ?_
              refine rj_skip (wn2 rfl rfl rfl rfl rfl) rfl rfl ?_
              refine rj_val (wn0 rfl) rfl rfl (y_pick_t rfl rfl) ?_
              refine rj_val (wn0 rfl) rfl rfl (y_move rfl) ?_
              refine rj_skip (wn2 rfl rfl rfl rfl rfl) rfl rfl ?_
              refine rj_skip (wn2 rfl rfl rfl rfl rfl) rfl rfl ?_
              refine rj_skip (wn2 rfl rfl rfl rfl rfl) rfl rfl ?_
              refine rj_skip (wn2 rfl rfl rfl rfl rfl) rfl rfl ?_
              refine rj_skip (wn2 rfl rfl rfl rfl rfl) rfl rfl ?_
              refine rj_val (wn0 rfl) rfl rfl (y_pick_t rfl rfl) ?_
              refine rj_val (wn0 rfl) rfl rfl (y_move rfl) ?_
              refine rj_skip (wn2 rfl rfl rfl rfl rfl) rfl rfl ?_
              refine rj_skip (wn2 rfl rfl rfl rfl rfl) rfl rfl ?_
              refine rj_skip (wn2 rfl rfl rfl rfl rfl) rfl rfl ?_
              refine rj_skip (wn2 rfl rfl rfl rfl rfl) rfl rfl ?_
              refine rj_skip (wn2 rfl rfl rfl rfl rfl) rfl rfl ?_
              refine rj_val (wn0 rfl) rfl rfl (y_pick_t rfl rfl) ?_
              refine rj_val (wn0 rfl) rfl rfl (y_move rfl) ?_
              refine rj_skip (wn2 rfl rfl rfl rfl rfl) rfl rfl ?_
              refine rj_skip (wn2 rfl rfl rfl rfl rfl) rfl rfl ?_
              refine rj_skip (wn2 rfl rfl rfl rfl rfl) rfl rfl ?_
              refine rj_skip (wn2 rfl rfl rfl rfl rfl) rfl rfl ?_
              refine rj_skip (wn2 rfl rfl rfl rfl rfl) rfl rfl ?_
              refine rj_skip (wn2 rfl rfl rfl rfl rfl) rfl rfl ?_
              refine rj_skip (wn2 rfl rfl rfl rfl rfl) rfl rfl ?_
              refine rj_val (wn0 rfl) rfl rfl (y_pick_t rfl rfl) ?_
              refine rj_nil ?_
              refine hK15 _ _ _ ?_
              refine cj_env (Env.le_cons (t := 0) rfl (Env.le_cons (t := 1) rfl (Env.le_cons (t := 5) rfl (Env.le_cons (t := 6) rfl (Env.le_cons (t := 7) rfl (Env.le_cons (t := 97) rfl (Env.le_nil _))))))) ?_
              refine cj_cond_t rfl ?_
              refine cj_seq (fun K19 hK19 => ?_)
              refine cj_region ?_
              refine rj_val (wn0 rfl) rfl rfl (y_assign rfl) ?_
              refine rj_nil ?_
              refine hK19 _ _ _ ?_
              refine cj_env (Env.le_cons (t := 4) rfl (Env.le_nil _)) ?_
              refine cj_ret ?_
              refine hret _ _ _ ?_
              apply ej_ret Try.results25 (.cons (rv_tmp rfl) .nil) _ [] (by (first | exact Hp.le_refl _ | assumption | exact Hp.le_trans ‹_› ‹_›)) rfl
              case hp => refine ⟨?_, rfl⟩; rw [decide_eq_false (hne (by rintro rfl; simp at *))]; rfl
              case hS => (repeat (first | exact Sub.refl _ | (apply Sub.pick; focus (repeat (first | exact Find.head _ | apply Find.tail))) | apply Sub.drop | exact Sub.tailApp _ _))
            · try simp only [decide_eq_true_eq, decide_eq_false_iff_not, Bool.not_eq_true', Bool.not_eq_false', Bool.true_eq_false, Bool.false_eq_true] at hg54
              refine rj_val (wn1 rfl rfl rfl rfl) rfl rfl (y_fieldAddr (k := 4) Try.underlying32 rfl (n := 1) (by decide) Try.sizeOf27 rfl) ?_
              first | refine rj_val (wn1 rfl rfl rfl rfl) rfl rfl (y_load ⟨Try.isAgg27, Try.sizeOf27⟩ rfl (by ((repeat (first | exact Find.head _ | apply Find.tail)); done)) rfl) ?_ | refine rj_val (wn1 rfl rfl rfl rfl) rfl rfl (y_load_slc ⟨Try.isAgg27, Try.sizeOf27⟩ rfl (by ((repeat (first | exact Find.head _ | apply Find.tail)); done)) rfl) ?_
              refine rj_val (wn1 rfl rfl rfl rfl) rfl rfl (y_fieldAddr (k := 4) Try.underlying32 rfl (n := 1) (by decide) Try.sizeOf27 rfl) ?_
              first | refine rj_val (wn1 rfl rfl rfl rfl) rfl rfl (y_load ⟨Try.isAgg27, Try.sizeOf27⟩ rfl (by ((repeat (first | exact Find.head _ | apply Find.tail)); done)) rfl) ?_ | refine rj_val (wn1 rfl rfl rfl rfl) rfl rfl (y_load_slc ⟨Try.isAgg27, Try.sizeOf27⟩ rfl (by ((repeat (first | exact Find.head _ | apply Find.tail)); done)) rfl) ?_
              refine rj_val (wn1 rfl rfl rfl rfl) rfl rfl (y_neq rfl rfl) ?_
              refine rj_val (wn0 rfl) rfl rfl (y_pick_f rfl rfl) ?_
              refine rj_val (wn0 rfl) rfl rfl (y_move rfl) ?_
              refine rj_part 61 rfl (fun hg61 => ?_) (fun hg61 => ?_)
              · try simp only [decide_eq_true_eq, decide_eq_false_iff_not, Bool.not_eq_true', Bool.not_eq_false', Bool.true_eq_false, Bool.false_eq_true] at hg61
                refine rj_skip (wn2 rfl rfl rfl rfl rfl) rfl rfl ?_
                refine rj_skip (wn2 rfl rfl rfl rfl rfl) rfl rfl ?_
                refine rj_skip (wn2 rfl rfl rfl rfl rfl) rfl rfl ?_
                refine rj_skip (wn2 rfl rfl rfl rfl rfl) rfl rfl ?_
                refine rj_skip (wn2 rfl rfl rfl rfl rfl) rfl rfl ?_
                refine rj_val (wn0 rfl) rfl rfl (y_pick_t rfl rfl) ?_
                refine rj_val (wn0 rfl) rfl rfl (y_move rfl) ?_
                refine rj_skip (wn2 rfl rfl rfl rfl rfl) rfl rfl ?_
                refine rj_skip (wn2 rfl rfl rfl rfl rfl) rfl rfl ?_
                refine rj_skip (wn2 rfl rfl rfl rfl rfl) rfl rfl ?_
                refine rj_skip (wn2 rfl rfl rfl rfl rfl) rfl rfl ?_
                refine rj_skip (wn2 rfl rfl rfl rfl rfl) rfl rfl ?_
                refine rj_val (wn0 rfl) rfl rfl (y_pick_t rfl rfl) ?_
                refine rj_val (wn0 rfl) rfl rfl (y_move rfl) ?_
                refine rj_skip (wn2 rfl rfl rfl rfl rfl) rfl rfl ?_
                refine rj_skip (wn2 rfl rfl rfl rfl rfl) rfl rfl ?_
                refine rj_skip (wn2 rfl rfl rfl rfl rfl) rfl rfl ?_
                refine rj_skip (wn2 rfl rfl rfl rfl rfl) rfl rfl ?_
                refine rj_skip (wn2 rfl rfl rfl rfl rfl) rfl rfl ?_
                refine rj_val (wn0 rfl) rfl rfl (y_pick_t rfl rfl) ?_
                refine rj_val (wn0 rfl) rfl rfl (y_move rfl) ?_
                refine rj_skip (wn2 rfl rfl rfl rfl rfl) rfl rfl ?_
                refine rj_skip (wn2 rfl rfl rfl rfl rfl) rfl rfl ?_
                refine rj_skip (wn2 rfl rfl rfl rfl rfl) rfl rfl ?_
                refine rj_skip (wn2 rfl rfl rfl rfl rfl) rfl rfl ?_
                refine rj_skip (wn2 rfl rfl rfl rfl rfl) rfl rfl ?_
                refine rj_val (wn0 rfl) rfl rfl (y_pick_t rfl rfl) ?_
                refine rj_val (wn0 rfl) rfl rfl (y_move rfl) ?_
                refine rj_skip (wn2 rfl rfl rfl rfl rfl) rfl rfl ?_
                refine rj_skip (wn2 rfl rfl rfl rfl rfl) rfl rfl ?_
                refine rj_skip (wn2 rfl rfl rfl rfl rfl) rfl rfl ?_
                refine rj_skip (wn2 rfl rfl rfl rfl rfl) rfl rfl ?_
                refine rj_skip (wn2 rfl rfl rfl rfl rfl) rfl rfl ?_
                refine rj_skip (wn2 rfl rfl rfl rfl rfl) rfl rfl ?_
                refine rj_skip (wn2 rfl rfl rfl rfl rfl) rfl rfl ?_
                refine rj_val (wn0 rfl) rfl rfl (y_pick_t rfl rfl) ?_
                refine rj_nil ?_
                refine hK15 _ _ _ ?_
                refine cj_env (Env.le_cons (t := 0) rfl (Env.le_cons (t := 1) rfl (Env.le_cons (t := 5) rfl (Env.le_cons (t := 6) rfl (Env.le_cons (t := 7) rfl (Env.le_cons (t := 97) rfl (Env.le_nil _))))))) ?_
                refine cj_cond_t rfl ?_
                refine cj_seq (fun K20 hK20 => ?_)
                refine cj_region ?_
                refine rj_val (wn0 rfl) rfl rfl (y_assign rfl) ?_
                refine rj_nil ?_
                refine hK20 _ _ _ ?_
                refine cj_env (Env.le_cons (t := 4) rfl (Env.le_nil _)) ?_
                refine cj_ret ?_
                refine hret _ _ _ ?_
                apply ej_ret Try.results25 (.cons (rv_tmp rfl) .nil) _ [] (by (first | exact Hp.le_refl _ | assumption | exact Hp.le_trans ‹_› ‹_›)) rfl
                case hp => refine ⟨?_, rfl⟩; rw [decide_eq_false (hne (by rintro rfl; simp at *))]; rfl
                case hS => (repeat (first | exact Sub.refl _ | (apply Sub.pick; focus (repeat (first | exact Find.head _ | apply Find.tail))) | apply Sub.drop | exact Sub.tailApp _ _))
              · try simp only [decide_eq_true_eq, decide_eq_false_iff_not, Bool.not_eq_true', Bool.not_eq_false', Bool.true_eq_false, Bool.false_eq_true] at hg61
                refine rj_val (wn1 rfl rfl rfl rfl) rfl rfl (y_fieldAddr (k := 5) Try.underlying32 rfl (n := 1) (by decide) Try.sizeOf27 rfl) ?_
                first | refine rj_val (wn1 rfl rfl rfl rfl) rfl rfl (y_load ⟨Try.isAgg27, Try.sizeOf27⟩ rfl (by ((repeat (first | exact Find.head _ | apply Find.tail)); done)) rfl) ?_ | refine rj_val (wn1 rfl rfl rfl rfl) rfl rfl (y_load_slc ⟨Try.isAgg27, Try.sizeOf27⟩ rfl (by ((repeat (first | exact Find.head _ | apply Find.tail)); done)) rfl) ?_
                refine rj_val (wn1 rfl rfl rfl rfl) rfl rfl (y_fieldAddr (k := 5) Try.underlying32 rfl (n := 1) (by decide) Try.sizeOf27 rfl) ?_
                first | refine rj_val (wn1 rfl rfl rfl rfl) rfl rfl (y_load ⟨Try.isAgg27, Try.sizeOf27⟩ rfl (by ((repeat (first | exact Find.head _ | apply Find.tail)); done)) rfl) ?_ | refine rj_val (wn1 rfl rfl rfl rfl) rfl rfl (y_load_slc ⟨Try.isAgg27, Try.sizeOf27⟩ rfl (by ((repeat (first | exact Find.head _ | apply Find.tail)); done)) rfl) ?_
                refine rj_val (wn1 rfl rfl rfl rfl) rfl rfl (y_neq rfl rfl) ?_
                refine rj_val (wn0 rfl) rfl rfl (y_pick_f rfl rfl) ?_
                refine rj_val (wn0 rfl) rfl rfl (y_move rfl) ?_
                refine rj_part 68 rfl (fun hg68 => ?_) (fun hg68 => ?_)
                · try simp only [decide_eq_true_eq, decide_eq_false_iff_not, Bool.not_eq_true', Bool.not_eq_false', Bool.true_eq_false, Bool.false_eq_true] at hg68
                  refine rj_skip (wn2 rfl rfl rfl rfl rfl) rfl rfl ?_
                  refine rj_skip (wn2 rfl rfl rfl rfl rfl) rfl rfl ?_
                  refine rj_skip (wn2 rfl rfl rfl rfl rfl) rfl rfl ?_
                  refine rj_skip (wn2 rfl rfl rfl rfl rfl) rfl rfl ?_
                  refine rj_skip (wn2 rfl rfl rfl rfl rfl) rfl rfl ?_
                  refine rj_val (wn0 rfl) rfl rfl (y_pick_t rfl rfl) ?_
                  refine rj_val (wn0 rfl) rfl rfl (y_move rfl) ?_
                  refine rj_skip (wn2 rfl rfl rfl rfl rfl) rfl rfl ?_
                  refine rj_skip (wn2 rfl rfl rfl rfl rfl) rfl rfl ?_
                  refine rj_skip (wn2 rfl rfl rfl rfl rfl) rfl rfl ?_
                  refine rj_skip (wn2 rfl rfl rfl rfl rfl) rfl rfl ?_
                  refine rj_skip (wn2 rfl rfl rfl rfl rfl) rfl rfl ?_
                  refine rj_val (wn0 rfl) rfl rfl (y_pick_t rfl rfl) ?_
                  refine rj_val (wn0 rfl) rfl rfl (y_move rfl) ?_
                  refine rj_skip (wn2 rfl rfl rfl rfl rfl) rfl rfl ?_
                  refine rj_skip (wn2 rfl rfl rfl rfl rfl) rfl rfl ?_
                  refine rj_skip (wn2 rfl rfl rfl rfl rfl) rfl rfl ?_
                  refine rj_skip (wn2 rfl rfl rfl rfl rfl) rfl rfl ?_
                  refine rj_skip (wn2 rfl rfl rfl rfl rfl) rfl rfl ?_
                  refine rj_val (wn0 rfl) rfl rfl (y_pick_t rfl rfl) ?_
                  refine rj_val (wn0 rfl) rfl rfl (y_move rfl) ?_
                  refine rj_skip (wn2 rfl rfl rfl rfl rfl) rfl rfl ?_
                  refine rj_skip (wn2 rfl rfl rfl rfl rfl) rfl rfl ?_
                  refine rj_skip (wn2 rfl rfl rfl rfl rfl) rfl rfl ?_
                  refine rj_skip (wn2 rfl rfl rfl rfl rfl) rfl rfl ?_
                  refine rj_skip (wn2 rfl rfl rfl rfl rfl) rfl rfl ?_
                  refine rj_skip (wn2 rfl rfl rfl rfl rfl) rfl rfl ?_
                  refine rj_skip (wn2 rfl rfl rfl rfl rfl) rfl rfl ?_
                  refine rj_val (wn0 rfl) rfl rfl (y_pick_t rfl rfl) ?_
                  refine rj_nil ?_
                  refine hK15 _ _ _ ?_
                  refine cj_env (Env.le_cons (t := 0) rfl (Env.le_cons (t := 1) rfl (Env.le_cons (t := 5) rfl (Env.le_cons (t := 6) rfl (Env.le_cons (t := 7) rfl (Env.le_cons (t := 97) rfl (Env.le_nil _))))))) ?_
                  refine cj_cond_t rfl ?_
                  refine cj_seq (fun K21 hK21 => ?_)
                  refine cj_region ?_
                  refine rj_val (wn0 rfl) rfl rfl (y_assign rfl) ?_
                  refine rj_nil ?_
                  refine hK21 _ _ _ ?_
                  refine cj_env (Env.le_cons (t := 4) rfl (Env.le_nil _)) ?_
                  refine cj_ret ?_
                  refine hret _ _ _ ?_
                  apply ej_ret Try.results25 (.cons (rv_tmp rfl) .nil) _ [] (by (first | exact Hp.le_refl _ | assumption | exact Hp.le_trans ‹_› ‹_›)) rfl
                  case hp => refine ⟨?_, rfl⟩; rw [decide_eq_false (hne (by rintro rfl; simp at *))]; rfl
                  case hS => (repeat (first | exact Sub.refl _ | (apply Sub.pick; focus (repeat (first | exact Find.head _ | apply Find.tail))) | apply Sub.drop | exact Sub.tailApp _ _))
                · try simp only [decide_eq_true_eq, decide_eq_false_iff_not, Bool.not_eq_true', Bool.not_eq_false', Bool.true_eq_false, Bool.false_eq_true] at hg68
                  refine rj_val (wn1 rfl rfl rfl rfl) rfl rfl (y_fieldAddr (k := 6) Try.underlying32 rfl (n := 1) (by decide) Try.sizeOf27 rfl) ?_
                  first | refine rj_val (wn1 rfl rfl rfl rfl) rfl rfl (y_load ⟨Try.isAgg27, Try.sizeOf27⟩ rfl (by ((repeat (first | exact Find.head _ | apply Find.tail)); done)) rfl) ?_ | refine rj_val (wn1 rfl rfl rfl rfl) rfl rfl (y_load_slc ⟨Try.isAgg27, Try.sizeOf27⟩ rfl (by ((repeat (first | exact Find.head _ | apply Find.tail)); done)) rfl) ?_
                  refine rj_val (wn1 rfl rfl rfl rfl) rfl rfl (y_fieldAddr (k := 6) Try.underlying32 rfl (n := 1) (by decide) Try.sizeOf27 rfl) ?_
                  first | refine rj_val (wn1 rfl rfl rfl rfl) rfl rfl (y_load ⟨Try.isAgg27, Try.sizeOf27⟩ rfl (by ((repeat (first | exact Find.head _ | apply Find.tail)); done)) rfl) ?_ | refine rj_val (wn1 rfl rfl rfl rfl) rfl rfl (y_load_slc ⟨Try.isAgg27, Try.sizeOf27⟩ rfl (by ((repeat (first | exact Find.head _ | apply Find.tail)); done)) rfl) ?_
                  refine rj_val (wn1 rfl rfl rfl rfl) rfl rfl (y_neq rfl rfl) ?_
                  refine rj_val (wn0 rfl) rfl rfl (y_pick_f rfl rfl) ?_
                  refine rj_val (wn0 rfl) rfl rfl (y_move rfl) ?_
                  refine rj_part 75 rfl (fun hg75 => ?_) (fun hg75 => ?_)
                  · try simp only [decide_eq_true_eq, decide_eq_false_iff_not, Bool.not_eq_true', Bool.not_eq_false', Bool.true_eq_false, Bool.false_eq_true] at hg75
                    refine rj_skip (wn2 rfl rfl rfl rfl rfl) rfl rfl ?_
                    refine rj_skip (wn2 rfl rfl rfl rfl rfl) rfl rfl ?_
                    refine rj_skip (wn2 rfl rfl rfl rfl rfl) rfl rfl ?_
                    refine rj_skip (wn2 rfl rfl rfl rfl rfl) rfl rfl ?_
                    refine rj_skip (wn2 rfl rfl rfl rfl rfl) rfl rfl ?_
                    refine rj_val (wn0 rfl) rfl rfl (y_pick_t rfl rfl) ?_
                    refine rj_val (wn0 rfl) rfl rfl (y_move rfl) ?_
                    refine rj_skip (wn2 rfl rfl rfl rfl rfl) rfl rfl ?_
                    refine rj_skip (wn2 rfl rfl rfl rfl rfl) rfl rfl ?_
                    refine rj_skip (wn2 rfl rfl rfl rfl rfl) rfl rfl ?_
                    refine rj_skip (wn2 rfl rfl rfl rfl rfl) rfl rfl ?_
                    refine rj_skip (wn2 rfl rfl rfl rfl rfl) rfl rfl ?_
                    refine rj_val (wn0 rfl) rfl rfl (y_pick_t rfl rfl) ?_
                    refine rj_val (wn0 rfl) rfl rfl (y_move rfl) ?_
                    refine rj_skip (wn2 rfl rfl rfl rfl rfl) rfl rfl ?_
                    refine rj_skip (wn2 rfl rfl rfl rfl rfl) rfl rfl ?_
                    refine rj_skip (wn2 rfl rfl rfl rfl rfl) rfl rfl ?_
                    refine rj_skip (wn2 rfl rfl rfl rfl rfl) rfl rfl ?_
                    refine rj_skip (wn2 rfl rfl rfl rfl rfl) rfl rfl ?_
                    refine rj_skip (wn2 rfl rfl rfl rfl rfl) rfl rfl ?_
                    refine rj_skip (wn2 rfl rfl rfl rfl rfl) rfl rfl ?_
                    refine rj_val (wn0 rfl) rfl rfl (y_pick_t rfl rfl) ?_
                    refine rj_nil ?_
                    refine hK15 _ _ _ ?_
                    refine cj_env (Env.le_cons (t := 0) rfl (Env.le_cons (t := 1) rfl (Env.le_cons (t := 5) rfl (Env.le_cons (t := 6) rfl (Env.le_cons (t := 7) rfl (Env.le_cons (t := 97) rfl (Env.le_nil _))))))) ?_
                    refine cj_cond_t rfl ?_
                    refine cj_seq (fun K22 hK22 => ?_)
                    refine cj_region ?_
                    refine rj_val (wn0 rfl) rfl rfl (y_assign rfl) ?_
                    refine rj_nil ?_
                    refine hK22 _ _ _ ?_
                    refine cj_env (Env.le_cons (t := 4) rfl (Env.le_nil _)) ?_
                    refine cj_ret ?_
                    refine hret _ _ _ ?_
                    apply ej_ret Try.results25 (.cons (rv_tmp rfl) .nil) _ [] (by (first | exact Hp.le_refl _ | assumption | exact Hp.le_trans ‹_› ‹_›)) rfl
                    case hp => refine ⟨?_, rfl⟩; rw [decide_eq_false (hne (by rintro rfl; simp at *))]; rfl
                    case hS => (repeat (first | exact Sub.refl _ | (apply Sub.pick; focus (repeat (first | exact Find.head _ | apply Find.tail))) | apply Sub.drop | exact Sub.tailApp _ _))
                  · try simp only [decide_eq_true_eq, decide_eq_false_iff_not, Bool.not_eq_true', Bool.not_eq_false', Bool.true_eq_false, Bool.false_eq_true] at hg75
                    refine rj_val (wn1 rfl rfl rfl rfl) rfl rfl (y_fieldAddr (k := 7) Try.underlying32 rfl (n := 1) (by decide) Try.sizeOf4 rfl) ?_
                    first | refine rj_val (wn1 rfl rfl rfl rfl) rfl rfl (y_load ⟨Try.isAgg4, Try.sizeOf4⟩ rfl (by ((repeat (first | exact Find.head _ | apply Find.tail)); done)) rfl) ?_ | refine rj_val (wn1 rfl rfl rfl rfl) rfl rfl (y_load_slc ⟨Try.isAgg4, Try.sizeOf4⟩ rfl (by ((repeat (first | exact Find.head _ | apply Find.tail)); done)) rfl) ?_
                    refine rj_val (wn1 rfl rfl rfl rfl) rfl rfl (y_fieldAddr (k := 7) Try.underlying32 rfl (n := 1) (by decide) Try.sizeOf4 rfl) ?_
                    first | refine rj_val (wn1 rfl rfl rfl rfl) rfl rfl (y_load ⟨Try.isAgg4, Try.sizeOf4⟩ rfl (by ((repeat (first | exact Find.head _ | apply Find.tail)); done)) rfl) ?_ | refine rj_val (wn1 rfl rfl rfl rfl) rfl rfl (y_load_slc ⟨Try.isAgg4, Try.sizeOf4⟩ rfl (by ((repeat (first | exact Find.head _ | apply Find.tail)); done)) rfl) ?_
                    refine rj_val (wn1 rfl rfl rfl rfl) rfl rfl (y_bneq Try.underlying4 rfl rfl) ?_
                    refine rj_val (wn0 rfl) rfl rfl (y_pick_f rfl rfl) ?_
                    refine rj_val (wn0 rfl) rfl rfl (y_move rfl) ?_
                    refine rj_part 82 rfl (fun hg82 => ?_) (fun hg82 => ?_)
                    · try simp only [decide_eq_true_eq, decide_eq_false_iff_not, Bool.not_eq_true', Bool.not_eq_false', Bool.true_eq_false, Bool.false_eq_true] at hg82
                      refine rj_skip (wn2 rfl rfl rfl rfl rfl) rfl rfl ?_
                      refine rj_skip (wn2 rfl rfl rfl rfl rfl) rfl rfl ?_
                      refine rj_skip (wn2 rfl rfl rfl rfl rfl) rfl rfl ?_
                      refine rj_skip (wn2 rfl rfl rfl rfl rfl) rfl rfl ?_
                      refine rj_skip (wn2 rfl rfl rfl rfl rfl) rfl rfl ?_
                      refine rj_val (wn0 rfl) rfl rfl (y_pick_t rfl rfl) ?_
                      refine rj_val (wn0 rfl) rfl rfl (y_move rfl) ?_
                      refine rj_skip (wn2 rfl rfl rfl rfl rfl) rfl rfl ?_
                      refine rj_skip (wn2 rfl rfl rfl rfl rfl) rfl rfl ?_
                      refine rj_skip (wn2 rfl rfl rfl rfl rfl) rfl rfl ?_
                      refine rj_skip (wn2 rfl rfl rfl rfl rfl) rfl rfl ?_
                      refine rj_skip (wn2 rfl rfl rfl rfl rfl) rfl rfl ?_
                      refine rj_skip (wn2 rfl rfl rfl rfl rfl) rfl rfl ?_
                      refine rj_skip (wn2 rfl rfl rfl rfl rfl) rfl rfl ?_
                      refine rj_val (wn0 rfl) rfl rfl (y_pick_t rfl rfl) ?_
                      refine rj_nil ?_
                      refine hK15 _ _ _ ?_
                      refine cj_env (Env.le_cons (t := 0) rfl (Env.le_cons (t := 1) rfl (Env.le_cons (t := 5) rfl (Env.le_cons (t := 6) rfl (Env.le_cons (t := 7) rfl (Env.le_cons (t := 97) rfl (Env.le_nil _))))))) ?_
                      refine cj_cond_t rfl ?_
                      refine cj_seq (fun K23 hK23 => ?_)
                      refine cj_region ?_
                      refine rj_val (wn0 rfl) rfl rfl (y_assign rfl) ?_
                      refine rj_nil ?_
                      refine hK23 _ _ _ ?_
                      refine cj_env (Env.le_cons (t := 4) rfl (Env.le_nil _)) ?_
                      refine cj_ret ?_
                      refine hret _ _ _ ?_
                      apply ej_ret Try.results25 (.cons (rv_tmp rfl) .nil) _ [] (by (first | exact Hp.le_refl _ | assumption | exact Hp.le_trans ‹_› ‹_›)) rfl
                      case hp => refine ⟨?_, rfl⟩; rw [decide_eq_false (hne (by rintro rfl; simp at *))]; rfl
                      case hS => (repeat (first | exact Sub.refl _ | (apply Sub.pick; focus (repeat (first | exact Find.head _ | apply Find.tail))) | apply Sub.drop | exact Sub.tailApp _ _))
                    · try simp only [decide_eq_true_eq, decide_eq_false_iff_not, Bool.not_eq_true', Bool.not_eq_false', Bool.true_eq_false, Bool.false_eq_true] at hg82
                      refine rj_val (wn1 rfl rfl rfl rfl) rfl rfl (y_fieldAddr (k := 9) Try.underlying32 rfl (n := 1) (by decide) Try.sizeOf9 rfl) ?_
                      first | refine rj_val (wn1 rfl rfl rfl rfl) rfl rfl (y_load ⟨Try.isAgg9, Try.sizeOf9⟩ rfl (by ((repeat (first | exact Find.head _ | apply Find.tail)); done)) rfl) ?_ | refine rj_val (wn1 rfl rfl rfl rfl) rfl rfl (y_load_slc ⟨Try.isAgg9, Try.sizeOf9⟩ rfl (by ((repeat (first | exact Find.head _ | apply Find.tail)); done)) rfl) ?_
                      refine rj_val (wn1 rfl rfl rfl rfl) rfl rfl (y_fieldAddr (k := 9) Try.underlying32 rfl (n := 1) (by decide) Try.sizeOf9 rfl) ?_
                      first | refine rj_val (wn1 rfl rfl rfl rfl) rfl rfl (y_load ⟨Try.isAgg9, Try.sizeOf9⟩ rfl (by ((repeat (first | exact Find.head _ | apply Find.tail)); done)) rfl) ?_ | refine rj_val (wn1 rfl rfl rfl rfl) rfl rfl (y_load_slc ⟨Try.isAgg9, Try.sizeOf9⟩ rfl (by ((repeat (first | exact Find.head _ | apply Find.tail)); done)) rfl) ?_
                      refine rj_val (wn1 rfl rfl rfl rfl) rfl rfl (y_sneq rfl rfl) ?_
                      refine rj_val (wn0 rfl) rfl rfl (y_pick_f rfl rfl) ?_
                      refine rj_val (wn0 rfl) rfl rfl (y_move rfl) ?_
                      refine rj_part 89 rfl (fun hg89 => ?_) (fun hg89 => ?_)
                      · try simp only [decide_eq_true_eq, decide_eq_false_iff_not, Bool.not_eq_true', Bool.not_eq_false', Bool.true_eq_false, Bool.false_eq_true] at hg89
                        refine rj_skip (wn2 rfl rfl rfl rfl rfl) rfl rfl ?_
                        refine rj_skip (wn2 rfl rfl rfl rfl rfl) rfl rfl ?_
                        refine rj_skip (wn2 rfl rfl rfl rfl rfl) rfl rfl ?_
                        refine rj_skip (wn2 rfl rfl rfl rfl rfl) rfl rfl ?_
                        refine rj_skip (wn2 rfl rfl rfl rfl rfl) rfl rfl ?_
                        refine rj_skip (wn2 rfl rfl rfl rfl rfl) rfl rfl ?_
                        refine rj_skip (wn2 rfl rfl rfl rfl rfl) rfl rfl ?_
                        refine rj_val (wn0 rfl) rfl rfl (y_pick_t rfl rfl) ?_
                        refine rj_nil ?_
                        refine hK15 _ _ _ ?_
                        refine cj_env (Env.le_cons (t := 0) rfl (Env.le_cons (t := 1) rfl (Env.le_cons (t := 5) rfl (Env.le_cons (t := 6) rfl (Env.le_cons (t := 7) rfl (Env.le_cons (t := 97) rfl (Env.le_nil _))))))) ?_
                        refine cj_cond_t rfl ?_
                        refine cj_seq (fun K24 hK24 => ?_)
                        refine cj_region ?_
                        refine rj_val (wn0 rfl) rfl rfl (y_assign rfl) ?_
                        refine rj_nil ?_
                        refine hK24 _ _ _ ?_
                        refine cj_env (Env.le_cons (t := 4) rfl (Env.le_nil _)) ?_
                        refine cj_ret ?_
                        refine hret _ _ _ ?_
                        apply ej_ret Try.results25 (.cons (rv_tmp rfl) .nil) _ [] (by (first | exact Hp.le_refl _ | assumption | exact Hp.le_trans ‹_› ‹_›)) rfl
                        case hp => refine ⟨?_, rfl⟩; rw [decide_eq_false (hne (by rintro rfl; simp at *))]; rfl
                        case hS => (repeat (first | exact Sub.refl _ | (apply Sub.pick; focus (repeat (first | exact Find.head _ | apply Find.tail))) | apply Sub.drop | exact Sub.tailApp _ _))
                      · try simp only [decide_eq_true_eq, decide_eq_false_iff_not, Bool.not_eq_true', Bool.not_eq_false', Bool.true_eq_false, Bool.false_eq_true] at hg89
                        refine rj_val (wn1 rfl rfl rfl rfl) rfl rfl (y_fieldAddr (k := 8) Try.underlying32 rfl (n := 1) (by decide) Try.sizeOf30 rfl) ?_
                        first | refine rj_val (wn1 rfl rfl rfl rfl) rfl rfl (y_load ⟨Try.isAgg30, Try.sizeOf30⟩ rfl (by ((repeat (first | exact Find.head _ | apply Find.tail)); done)) rfl) ?_ | refine rj_val (wn1 rfl rfl rfl rfl) rfl rfl (y_load_slc ⟨Try.isAgg30, Try.sizeOf30⟩ rfl (by ((repeat (first | exact Find.head _ | apply Find.tail)); done)) rfl) ?_
                        first | refine rj_val (wn1 rfl rfl rfl rfl) rfl rfl (y_len_sl Try.underlying30 rfl) ?_ | refine rj_val (wn1 rfl rfl rfl rfl) rfl rfl (y_len_slc Try.underlying30 rfl (by ((repeat (first | exact Find.head _ | apply Find.tail)); done))) ?_
                        refine rj_val (wn1 rfl rfl rfl rfl) rfl rfl (y_fieldAddr (k := 8) Try.underlying32 rfl (n := 1) (by decide) Try.sizeOf30 rfl) ?_
                        first | refine rj_val (wn1 rfl rfl rfl rfl) rfl rfl (y_load ⟨Try.isAgg30, Try.sizeOf30⟩ rfl (by ((repeat (first | exact Find.head _ | apply Find.tail)); done)) rfl) ?_ | refine rj_val (wn1 rfl rfl rfl rfl) rfl rfl (y_load_slc ⟨Try.isAgg30, Try.sizeOf30⟩ rfl (by ((repeat (first | exact Find.head _ | apply Find.tail)); done)) rfl) ?_
                        first | refine rj_val (wn1 rfl rfl rfl rfl) rfl rfl (y_len_sl Try.underlying30 rfl) ?_ | refine rj_val (wn1 rfl rfl rfl rfl) rfl rfl (y_len_slc Try.underlying30 rfl (by ((repeat (first | exact Find.head _ | apply Find.tail)); done))) ?_
                        refine rj_val (wn1 rfl rfl rfl rfl) rfl rfl (y_neq rfl rfl) ?_
                        refine rj_val (wn0 rfl) rfl rfl (y_pick_f rfl rfl) ?_
                        refine rj_nil ?_
                        refine hK15 _ _ _ ?_
                        refine cj_env (Env.le_cons (t := 0) rfl (Env.le_cons (t := 1) rfl (Env.le_cons (t := 5) rfl (Env.le_cons (t := 6) rfl (Env.le_cons (t := 7) rfl (Env.le_cons (t := 97) rfl (Env.le_nil _))))))) ?_
                        refine cj_cond rfl (fun hc97 => ?_) (fun hc97 => ?_)
                        · try simp only [decide_eq_true_eq, decide_eq_false_iff_not, Bool.not_eq_true', Bool.not_eq_false', Bool.true_eq_false, Bool.false_eq_true] at hc97
                          refine cj_seq (fun K26 hK26 => ?_)
                          refine cj_region ?_
                          refine rj_val (wn0 rfl) rfl rfl (y_assign rfl) ?_
                          refine rj_nil ?_
                          refine hK26 _ _ _ ?_
                          refine cj_env (Env.le_cons (t := 4) rfl (Env.le_nil _)) ?_
                          refine cj_ret ?_
                          refine hret _ _ _ ?_
                          apply ej_ret Try.results25 (.cons (rv_tmp rfl) .nil) _ [] (by (first | exact Hp.le_refl _ | assumption | exact Hp.le_trans ‹_› ‹_›)) rfl
                          case hp => refine ⟨?_, rfl⟩; rw [decide_eq_false (hne (by rintro rfl; simp at *))]; rfl
                          case hS => (repeat (first | exact Sub.refl _ | (apply Sub.pick; focus (repeat (first | exact Find.head _ | apply Find.tail))) | apply Sub.drop | exact Sub.tailApp _ _))
                        · try simp only [decide_eq_true_eq, decide_eq_false_iff_not, Bool.not_eq_true', Bool.not_eq_false', Bool.true_eq_false, Bool.false_eq_true] at hc97
                          refine cj_skip ?_
                          refine hK14 _ _ _ ?_
                          refine cj_seq (fun K27 hK27 => ?_)
                          refine cj_region ?_
                          refine rj_val (wn0 rfl) rfl rfl (y_assign rfl) ?_
                          refine rj_nil ?_
                          refine hK27 _ _ _ ?_
                          refine cj_block ?_
                          have hel : x.es.length = y.es.length := by (try simp at hc97); omega
                          refine cj_env (E' := (fun (z : Nat) => [(0, .slice (some ⟨b, off, none⟩) la.length ca), (1, .slice (some ⟨b', off', none⟩) lb.length cb), (5, .int .i64 (i : Int)), (6, .pointer (some ⟨b6, 0, none⟩)), (7, .pointer (some ⟨b7, 0, none⟩)), (8, .int .i64 (z : Int))]) 0) (Env.le_cons rfl (Env.le_cons rfl (Env.le_cons rfl (Env.le_cons rfl (Env.le_cons rfl (Env.le_cons rfl (Env.le_nil _))))))) ?_
                          refine cj_sub (M := (fun (z : Nat) => blk b6 (msgC x (.slice qe x.es.length ce)) 32 :: blk b7 (msgC y (.slice qe' y.es.length ce')) 32 :: F) 0) (by (repeat (first | exact Sub.refl _ | (apply Sub.pick; focus (repeat (first | exact Find.head _ | apply Find.tail))) | apply Sub.drop | exact Sub.tailApp _ _))) ?_
                          refine cj_loop (fun (z : Nat) => [(0, .slice (some ⟨b, off, none⟩) la.length ca), (1, .slice (some ⟨b', off', none⟩) lb.length cb), (5, .int .i64 (i : Int)), (6, .pointer (some ⟨b6, 0, none⟩)), (7, .pointer (some ⟨b7, 0, none⟩)), (8, .int .i64 (z : Int))]) (fun (z : Nat) => R) (fun (z : Nat) => blk b6 (msgC x (.slice qe x.es.length ce)) 32 :: blk b7 (msgC y (.slice qe' y.es.length ce')) 32 :: F) (fun (z : Nat) => z ≤ x.es.length ∧ x.es.take z = y.es.take z) (fun (z : Nat) => x.es.length - z) 0 (⟨by simp, by simp⟩) ?_
                          rintro k ⟨hk, hall2⟩
                          try dsimp only
                          refine cj_seq (fun K28 hK28 => ?_)
                          refine cj_seq (fun K29 hK29 => ?_)
                          refine cj_region ?_
                          refine rj_val (wn0 rfl) rfl rfl (y_move rfl) ?_
                          refine rj_val (wn0 rfl) rfl rfl (y_fieldAddr (k := 8) Try.underlying32 rfl (n := 1) (by decide) Try.sizeOf30 rfl) ?_
                          first | refine rj_val (wn0 rfl) rfl rfl (y_load ⟨Try.isAgg30, Try.sizeOf30⟩ rfl (by ((repeat (first | exact Find.head _ | apply Find.tail)); done)) rfl) ?_ | refine rj_val (wn0 rfl) rfl rfl (y_load_slc ⟨Try.isAgg30, Try.sizeOf30⟩ rfl (by ((repeat (first | exact Find.head _ | apply Find.tail)); done)) rfl) ?_
                          first | refine rj_val (wn0 rfl) rfl rfl (y_len_sl Try.underlying30 rfl) ?_ | refine rj_val (wn0 rfl) rfl rfl (y_len_slc Try.underlying30 rfl (by ((repeat (first | exact Find.head _ | apply Find.tail)); done))) ?_
                          refine rj_val (wn0 rfl) rfl rfl (y_lss rfl rfl) ?_
                          refine rj_nil ?_
                          refine hK29 _ _ _ ?_
                          refine cj_env (Env.le_cons (t := 0) rfl (Env.le_cons (t := 1) rfl (Env.le_cons (t := 5) rfl (Env.le_cons (t := 6) rfl (Env.le_cons (t := 7) rfl (Env.le_cons (t := 8) rfl (Env.le_cons (t := 102) rfl (Env.le_nil _)))))))) ?_
                          refine cj_cond rfl (fun hc102 => ?_) (fun hc102 => ?_)
                          · try simp only [decide_eq_true_eq, decide_eq_false_iff_not, Bool.not_eq_true', Bool.not_eq_false', Bool.true_eq_false, Bool.false_eq_true] at hc102
                            refine cj_skip ?_
                            refine hK28 _ _ _ ?_
                            refine cj_seq (fun K31 hK31 => ?_)
                            refine cj_block ?_
                            refine cj_seq (fun K32 hK32 => ?_)
                            refine cj_draw (by kernel_rfl) (by kernel_rfl) ?_
                            obtain ⟨ex, hex⟩ : ∃ e, x.es[k]? = some e := ⟨x.es[k]'(by omega), by simp⟩
                            obtain ⟨ey, hey⟩ : ∃ e, y.es[k]? = some e := ⟨y.es[k]'(by omega), by simp⟩
                            obtain ⟨b2, off2, cap2, cs2, he2, rfl, hcl2, hcell2⟩ := hve.at hex
                            obtain ⟨b3, off3, cap3, cs3, he3, rfl, hcl3, hcell3⟩ := hve'.at hey
                            obtain ⟨rfl, rfl⟩ : qe = some ⟨b2, off2, none⟩ ∧ ce = cap2 := by cases he2; exact ⟨rfl, rfl⟩
                            obtain ⟨rfl, rfl⟩ : qe' = some ⟨b3, off3, none⟩ ∧ ce' = cap3 := by cases he3; exact ⟨rfl, rfl⟩
                            refine qj_val (wn0 rfl) rfl rfl (y_fieldAddr (k := 8) Try.underlying32 rfl (n := 1) (by decide) Try.sizeOf30 rfl) ?_
                            first | refine qj_val (wn0 rfl) rfl rfl (y_load ⟨Try.isAgg30, Try.sizeOf30⟩ rfl (by ((repeat (first | exact Find.head _ | apply Find.tail)); done)) rfl) ?_ | refine qj_val (wn0 rfl) rfl rfl (y_load_slc ⟨Try.isAgg30, Try.sizeOf30⟩ rfl (by ((repeat (first | exact Find.head _ | apply Find.tail)); done)) rfl) ?_
                            refine qj_val (wn0 rfl) rfl rfl (y_move rfl) ?_
                            first | refine qj_val (wn0 rfl) rfl rfl (y_indexAddr Try.underlying30 Try.sizeOf60 rfl rfl (by (first | omega | (dsimp only; omega) | (simp; done) | (simp; omega)))) ?_ | refine qj_val (wn0 rfl) rfl rfl (y_index_slc Try.underlying30 Try.sizeOf60 rfl rfl (by ((repeat (first | exact Find.head _ | apply Find.tail)); done)) (by (first | omega | (dsimp only; omega) | (simp; done) | (simp; omega)))) ?_
                            refine qj_val (wn0 rfl) rfl rfl ((y_loads_ro ⟨Try.isAgg60, Try.sizeOf60⟩ (vs := entC ex) rfl rfl (fun j u hj => hcell2 j u hj))) ?_
                            refine qj_val (wn0 rfl) rfl rfl (y_fieldAddr (k := 8) Try.underlying32 rfl (n := 1) (by decide) Try.sizeOf30 rfl) ?_
                            first | refine qj_val (wn0 rfl) rfl rfl (y_load ⟨Try.isAgg30, Try.sizeOf30⟩ rfl (by ((repeat (first | exact Find.head _ | apply Find.tail)); done)) rfl) ?_ | refine qj_val (wn0 rfl) rfl rfl (y_load_slc ⟨Try.isAgg30, Try.sizeOf30⟩ rfl (by ((repeat (first | exact Find.head _ | apply Find.tail)); done)) rfl) ?_
                            refine qj_val (wn0 rfl) rfl rfl (y_move rfl) ?_
                            first | refine qj_val (wn0 rfl) rfl rfl (y_indexAddr Try.underlying30 Try.sizeOf60 rfl rfl (by (first | omega | (dsimp only; omega) | (simp; done) | (simp; omega)))) ?_ | refine qj_val (wn0 rfl) rfl rfl (y_index_slc Try.underlying30 Try.sizeOf60 rfl rfl (by ((repeat (first | exact Find.head _ | apply Find.tail)); done)) (by (first | omega | (dsimp only; omega) | (simp; done) | (simp; omega)))) ?_
                            refine qj_val (wn0 rfl) rfl rfl ((y_loads_ro ⟨Try.isAgg60, Try.sizeOf60⟩ (vs := entC ey) rfl rfl (fun j u hj => hcell3 j u hj))) ?_
                            refine qj_val (wn0 rfl) rfl rfl ((y_stneq (by kernel_rfl) rfl rfl (fun w => ent_neq ex ey w))) ?_
                            refine qj_nil ?_
                            refine hK32 _ _ _ ?_
                            refine cj_env (Env.le_cons (t := 0) rfl (Env.le_cons (t := 1) rfl (Env.le_cons (t := 5) rfl (Env.le_cons (t := 6) rfl (Env.le_cons (t := 7) rfl (Env.le_cons (t := 8) rfl (Env.le_cons (t := 115) rfl (Env.le_nil _)))))))) ?_
                            refine cj_cond rfl (fun hc115 => ?_) (fun hc115 => ?_)
                            · try simp only [decide_eq_true_eq, decide_eq_false_iff_not, Bool.not_eq_true', Bool.not_eq_false', Bool.true_eq_false, Bool.false_eq_true] at hc115
                              refine cj_seq (fun K34 hK34 => ?_)
                              refine cj_region ?_
                              refine rj_val (wn0 rfl) rfl rfl (y_assign rfl) ?_
                              refine rj_nil ?_
                              refine hK34 _ _ _ ?_
                              refine cj_env (Env.le_cons (t := 4) rfl (Env.le_nil _)) ?_
                              refine cj_ret ?_
                              refine hret _ _ _ ?_
                              apply ej_ret Try.results25 (.cons (rv_tmp rfl) .nil) _ [] (by (first | exact Hp.le_refl _ | assumption | exact Hp.le_trans ‹_› ‹_›)) rfl
                              case hp => refine ⟨?_, rfl⟩; rw [decide_eq_false (hne (by rintro rfl; rw [hex] at hey; cases hey; simp at hc115))]; rfl
                              case hS => (repeat (first | exact Sub.refl _ | (apply Sub.pick; focus (repeat (first | exact Find.head _ | apply Find.tail))) | apply Sub.drop | exact Sub.tailApp _ _))
                            · try simp only [decide_eq_true_eq, decide_eq_false_iff_not, Bool.not_eq_true', Bool.not_eq_false', Bool.true_eq_false, Bool.false_eq_true] at hc115
                              refine cj_skip ?_
                              refine hK31 _ _ _ ?_
                              refine cj_region ?_
                              refine rj_val (wn0 rfl) rfl rfl (y_move rfl) ?_
                              first | refine rj_val (wn0 rfl) rfl rfl (y_add64 rfl rfl (by (first | omega | (dsimp only; omega) | (simp; done) | (simp; omega)))) ?_ | refine rj_val (wn0 rfl) rfl rfl (y_add rfl rfl) ?_
                              refine rj_val (wn0 rfl) rfl rfl (y_assign rfl) ?_
                              refine rj_nil ?_
                              refine ej_on (q' := roundK _ _ _ _ _ _ _) rfl ?_
                              refine ej_round (k + 1) (⟨by omega, takes_succ hex hey hall2 (by simpa using hc115)⟩) (by omega) (Env.le_cons rfl (Env.le_cons rfl (Env.le_cons rfl (Env.le_cons rfl (Env.le_cons rfl (Env.le_cons rfl (Env.le_nil _))))))) rfl (by (repeat (first | exact Sub.refl _ | (apply Sub.pick; focus (repeat (first | exact Find.head _ | apply Find.tail))) | apply Sub.drop | exact Sub.tailApp _ _)))
                          · try simp only [decide_eq_true_eq, decide_eq_false_iff_not, Bool.not_eq_true', Bool.not_eq_false', Bool.true_eq_false, Bool.false_eq_true] at hc102
                            refine cj_exit ?_
                            refine hK11 _ _ _ ?_
                            refine cj_env (Env.le_cons (t := 0) rfl (Env.le_cons (t := 1) rfl (Env.le_cons (t := 5) rfl (Env.le_nil _)))) ?_
                            refine cj_region ?_
                            have hes : x.es = y.es := by have e := hall2; rw [List.take_of_length_le (by (try simp at hc102); omega), List.take_of_length_le (by (try simp at hc102); omega)] at e; exact e
                            have hxy : x = y := msg_eq hg33 hg40 hg47 hg54 hg61 hg68 hg75 (by simpa using hg82) hes hg89
                            refine rj_val (wn0 rfl) rfl rfl (y_move rfl) ?_
                            first | refine rj_val (wn0 rfl) rfl rfl (y_add64 rfl rfl (by (first | omega | (dsimp only; omega) | (simp; done) | (simp; omega)))) ?_ | refine rj_val (wn0 rfl) rfl rfl (y_add rfl rfl) ?_
                            refine rj_val (wn0 rfl) rfl rfl (y_assign rfl) ?_
                            refine rj_nil ?_
                            refine ej_on (q' := roundK _ _ _ _ _ _ _) rfl ?_
                            refine ej_round (i + 1) (⟨by omega, takes_succ hx hy hall hxy⟩) (by omega) (Env.le_cons rfl (Env.le_cons rfl (Env.le_cons rfl (Env.le_nil _)))) rfl (by (repeat (first | exact Sub.refl _ | (apply Sub.pick; focus (repeat (first | exact Find.head _ | apply Find.tail))) | apply Sub.drop | exact Sub.tailApp _ _)))
    · try simp only [decide_eq_true_eq, decide_eq_false_iff_not, Bool.not_eq_true', Bool.not_eq_false', Bool.true_eq_false, Bool.false_eq_true] at hc17
      refine cj_exit ?_
      refine hK6 _ _ _ ?_
      refine cj_env (Env.le_nil _) ?_
      refine cj_seq (fun K35 hK35 => ?_)
      refine cj_region ?_
      refine rj_val (wn0 rfl) rfl rfl (y_assign rfl) ?_
      refine rj_nil ?_
      refine hK35 _ _ _ ?_
      refine cj_ret ?_
      refine hret _ _ _ ?_
      apply ej_ret Try.results25 (.cons (rv_tmp rfl) .nil) _ [] (by (first | exact Hp.le_refl _ | assumption | exact Hp.le_trans ‹_› ‹_›)) rfl
      case hp => refine ⟨?_, rfl⟩; have e := hall; rw [List.take_of_length_le (by (try simp at hc17); omega), List.take_of_length_le (by (try simp at hc17); omega)] at e; rw [decide_eq_true e]; rfl
      case hS => (repeat (first | exact Sub.refl _ | (apply Sub.pick; focus (repeat (first | exact Find.head _ | apply Find.tail))) | apply Sub.drop | exact Sub.tailApp _ _))
end V
end Go.Proofs.Ythdmbdbncbdmiaa
