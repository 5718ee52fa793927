/- The document's bytes of a message, walked. -/
import Derived.Test.YthdmbdbncbdmiaaT10e
set_option linter.unusedSimpArgs false
set_option linter.unusedVariables false
set_option maxRecDepth 100000
namespace Go.Proofs.Ythdmbdbncbdmiaa
open Go.RowKit
namespace V
set_option maxHeartbeats 4000000
theorem rL_q {R : Hp} (v : Value) (hv : v.oneCell' = true) : QTri Try.prog 31 [v] R [] (.agg ⟨[.int .i64 2, .int .u64 0, .string (str []), v]⟩) := by
  refine Tri.q ?_
  refine tri_of Try.func31 rfl Try.ntmps31 rfl (fun σ F Q hret hend hpan => ?_)
  try simp only [List.cons_append, List.nil_append]
  refine cj_env (Env.le_cons (t := 0) rfl (Env.le_nil _)) ?_
  refine cj_seq (fun K1 hK1 => ?_)
  refine cj_region ?_
  refine rj_alloc (wn0 rfl) rfl Try.zeroValue72 rfl (fun b2 => ?_)
  refine rj_nil ?_
  refine hK1 _ _ _ ?_
  refine cj_seq (fun K2 hK2 => ?_)
  refine cj_region ?_
  refine rj_val (wn0 rfl) rfl rfl (y_move rfl) ?_
  refine rj_val (wn0 rfl) rfl rfl ((y_build (cells := [.int .i64 2, .int .u64 0, .string (str []), v]) [(0, 1), (1, 1), (2, 1), (3, 1)] Try.underlying72 Try.zeroValue72 (fun _ => rfl) rfl (by cases v <;> first | rfl | (simp [Value.oneCell'] at hv)))) ?_
  refine rj_stores ⟨Try.isAgg72, Try.sizeOf72⟩ rfl (wn0 rfl) rfl rfl (by (first | (simp [Value.oneCell']; done) | (intro u hu; simp only [List.mem_cons, List.not_mem_nil, or_false] at hu; rcases hu with rfl | rfl | rfl | rfl <;> first | rfl | assumption))) (by ((repeat (first | exact Find.head _ | apply Find.tail)); done)) (by (simp)) rfl ?_
  refine rj_nil ?_
  refine hK2 _ _ _ ?_
  refine cj_env (Env.le_cons (t := 2) rfl (Env.le_nil _)) ?_
  refine cj_ret ?_
  refine hret _ _ _ ?_
  apply ej_ret Try.results31 (.cons (rv_cells ⟨Try.isAgg72, Try.sizeOf72⟩ rfl (by ((repeat (first | exact Find.head _ | apply Find.tail)); done)) rfl rfl) .nil) _ [] (by (first | exact Hp.le_refl _ | assumption | exact Hp.le_trans ‹_› ‹_›)) rfl
  case hp => exact ⟨rfl, rfl, rfl⟩
  case hS => (repeat (first | exact Sub.refl _ | (apply Sub.pick; focus (repeat (first | exact Find.head _ | apply Find.tail))) | apply Sub.drop | exact Sub.tailApp _ _))
theorem rN_q {R : Hp} (n : Int) : QTri Try.prog 32 [.int .u64 n] R [] (.agg ⟨[.int .i64 0, .int .u64 n, .string (str []), .slice none 0 0]⟩) := by
  refine Tri.q ?_
  refine tri_of Try.func32 rfl Try.ntmps32 rfl (fun σ F Q hret hend hpan => ?_)
  try simp only [List.cons_append, List.nil_append]
  refine cj_env (Env.le_cons (t := 0) rfl (Env.le_nil _)) ?_
  refine cj_seq (fun K1 hK1 => ?_)
  refine cj_region ?_
  refine rj_alloc (wn0 rfl) rfl Try.zeroValue72 rfl (fun b2 => ?_)
  refine rj_nil ?_
  refine hK1 _ _ _ ?_
  refine cj_seq (fun K2 hK2 => ?_)
  refine cj_region ?_
  refine rj_val (wn0 rfl) rfl rfl (y_move rfl) ?_
  refine rj_val (wn0 rfl) rfl rfl (y_build (cells := [_, _, _, _]) [(0, 1), (1, 1), (2, 1), (3, 1)] Try.underlying72 Try.zeroValue72 (fun _ => rfl) rfl rfl) ?_
  refine rj_stores ⟨Try.isAgg72, Try.sizeOf72⟩ rfl (wn0 rfl) rfl rfl (by (first | (simp [Value.oneCell']; done) | (intro u hu; simp only [List.mem_cons, List.not_mem_nil, or_false] at hu; rcases hu with rfl | rfl | rfl | rfl <;> first | rfl | assumption))) (by ((repeat (first | exact Find.head _ | apply Find.tail)); done)) (by (simp)) rfl ?_
  refine rj_nil ?_
  refine hK2 _ _ _ ?_
  refine cj_env (Env.le_cons (t := 2) rfl (Env.le_nil _)) ?_
  refine cj_ret ?_
  refine hret _ _ _ ?_
  apply ej_ret Try.results32 (.cons (rv_cells ⟨Try.isAgg72, Try.sizeOf72⟩ rfl (by ((repeat (first | exact Find.head _ | apply Find.tail)); done)) rfl rfl) .nil) _ [] (by (first | exact Hp.le_refl _ | assumption | exact Hp.le_trans ‹_› ‹_›)) rfl
  case hp => exact ⟨rfl, rfl, rfl⟩
  case hS => (repeat (first | exact Sub.refl _ | (apply Sub.pick; focus (repeat (first | exact Find.head _ | apply Find.tail))) | apply Sub.drop | exact Sub.tailApp _ _))
theorem rS_q {R : Hp} (s : List UInt8) : QTri Try.prog 33 [.string (str s)] R [] (.agg ⟨[.int .i64 1, .int .u64 0, .string (str s), .slice none 0 0]⟩) := by
  refine Tri.q ?_
  refine tri_of Try.func33 rfl Try.ntmps33 rfl (fun σ F Q hret hend hpan => ?_)
  try simp only [List.cons_append, List.nil_append]
  refine cj_env (Env.le_cons (t := 0) rfl (Env.le_nil _)) ?_
  refine cj_seq (fun K1 hK1 => ?_)
  refine cj_region ?_
  refine rj_alloc (wn0 rfl) rfl Try.zeroValue72 rfl (fun b2 => ?_)
  refine rj_nil ?_
  refine hK1 _ _ _ ?_
  refine cj_seq (fun K2 hK2 => ?_)
  refine cj_region ?_
  refine rj_val (wn0 rfl) rfl rfl (y_move rfl) ?_
  refine rj_val (wn0 rfl) rfl rfl (y_build (cells := [_, _, _, _]) [(0, 1), (1, 1), (2, 1), (3, 1)] Try.underlying72 Try.zeroValue72 (fun _ => rfl) rfl rfl) ?_
  refine rj_stores ⟨Try.isAgg72, Try.sizeOf72⟩ rfl (wn0 rfl) rfl rfl (by (first | (simp [Value.oneCell']; done) | (intro u hu; simp only [List.mem_cons, List.not_mem_nil, or_false] at hu; rcases hu with rfl | rfl | rfl | rfl <;> first | rfl | assumption))) (by ((repeat (first | exact Find.head _ | apply Find.tail)); done)) (by (simp)) rfl ?_
  refine rj_nil ?_
  refine hK2 _ _ _ ?_
  refine cj_env (Env.le_cons (t := 2) rfl (Env.le_nil _)) ?_
  refine cj_ret ?_
  refine hret _ _ _ ?_
  apply ej_ret Try.results33 (.cons (rv_cells ⟨Try.isAgg72, Try.sizeOf72⟩ rfl (by ((repeat (first | exact Find.head _ | apply Find.tail)); done)) rfl rfl) .nil) _ [] (by (first | exact Hp.le_refl _ | assumption | exact Hp.le_trans ‹_› ‹_›)) rfl
  case hp => exact ⟨rfl, rfl, rfl⟩
  case hS => (repeat (first | exact Sub.refl _ | (apply Sub.pick; focus (repeat (first | exact Find.head _ | apply Find.tail))) | apply Sub.drop | exact Sub.tailApp _ _))
theorem ents_cost : ∀ (l : List Ent), (∀ e ∈ l, e.2.length ≤ 100) → costL (l.map entN) ≤ 220 * l.length
  | [], _ => by simp [costL]
  | e :: l, h => by
    have h1 := ents_cost l (fun x hx => h x (by simp [hx]))
    have h2 := h e (by simp)
    rw [List.map_cons, costL, List.length_cons]
    simp only [entN, numN, txtN, cost, costL, List.length_nil]
    omega
theorem msg_cost {m : Msg} (h : smallB m = true) : cost (msgN m) ≤ 10000 := by
  unfold smallB at h
  obtain ⟨h1, h2, h3⟩ := of_decide_eq_true h
  have := ents_cost m.es h3
  simp only [msgN, msgKids, numN, txtN, cost, costL, List.length_nil]
  omega
theorem cost_big2 {x : Nd} (hx : OkN x) (hc : cost x ≤ 30000) : deepN x ≤ big ∧ (wr x).length ≤ big ∧ (wr x).length ≤ 30000 := by
  have h1 := deepN_cost x
  have h2 := wr_cost x hx (by omega)
  unfold big; omega
theorem rbytesM_q {R : Hp} (m : Msg) (ve : Value) (hve : FrX entE R m.es ve) (hf : Fits m) (hsm : smallB m = true) : QTri Try.prog 21 [.agg ⟨msgC m ve⟩] R [] (.string (str (bytesM m))) := by
  refine Tri.q2 ?_
  obtain ⟨q, cap, rfl, hcap, hcm⟩ := hve.shape
  obtain ⟨hbd, hes, hcmd, hst⟩ := hf
  have hfrm := hbd.frm; have hto := hbd.to; have hkd := hbd.kind; have htm := hbd.term; have hix := hbd.index; have hlt := hbd.logTerm; have hcm2 := hbd.commit
  unfold i64B at hfrm hto hkd
  unfold u64B at htm hix hlt hcm2
  unfold msgC
  refine tri_of Try.func21 rfl Try.ntmps21 rfl (fun σ F Q hret hend hpan => ?_)
  try simp only [List.cons_append, List.nil_append]
  refine cj_env (Env.le_cons (t := 0) rfl (Env.le_nil _)) ?_
  refine cj_seq (fun K1 hK1 => ?_)
  refine cj_region ?_
  refine rj_box (wn0 rfl) rfl rfl rfl (fun b1 => ?_)
  refine rj_val (wn0 rfl) rfl rfl (y_assign rfl) ?_
  refine rj_nil ?_
  refine hK1 _ _ _ ?_
  refine cj_seq (fun K2 hK2 => ?_)
  refine cj_seq (fun K3 hK3 => ?_)
  refine cj_region ?_
  refine rj_val (wn0 rfl) rfl rfl (y_fieldAddr (k := 0) Try.underlying32 rfl (n := 1) (by decide) Try.sizeOf3 rfl) ?_
  first | refine rj_val (wn0 rfl) rfl rfl (y_load ⟨Try.isAgg3, Try.sizeOf3⟩ rfl (by ((repeat (first | exact Find.head _ | apply Find.tail)); done)) rfl) ?_ | refine rj_val (wn0 rfl) rfl rfl (y_load_slc ⟨Try.isAgg3, Try.sizeOf3⟩ rfl (by ((repeat (first | exact Find.head _ | apply Find.tail)); done)) rfl) ?_
  refine rj_val (wn0 rfl) rfl rfl (y_lss rfl rfl) ?_
  refine rj_val (wn0 rfl) rfl rfl (y_move rfl) ?_
  refine rj_part 11 rfl (fun hg11 => ?_) (fun hg11 => ?_)
  · try simp only [decide_eq_true_eq, decide_eq_false_iff_not, Bool.not_eq_true', Bool.not_eq_false', Bool.true_eq_false, Bool.false_eq_true] at hg11
    refine rj_skip (wn2 rfl rfl rfl rfl rfl) rfl rfl ?_
    refine rj_skip (wn2 rfl rfl rfl rfl rfl) rfl rfl ?_
    refine rj_skip (wn2 rfl rfl rfl rfl rfl) rfl rfl ?_
    refine rj_val (wn0 rfl) rfl rfl (y_pick_t rfl rfl) ?_
    refine rj_val (wn0 rfl) rfl rfl (y_move rfl) ?_
    refine rj_skip (wn2 rfl rfl rfl rfl rfl) rfl rfl ?_
    refine rj_skip (wn2 rfl rfl rfl rfl rfl) rfl rfl ?_
    refine rj_skip (wn2 rfl rfl rfl rfl rfl) rfl rfl ?_
    refine rj_val (wn0 rfl) rfl rfl (y_pick_t rfl rfl) ?_
    refine rj_nil ?_
    refine hK3 _ _ _ ?_
    refine cj_env (Env.le_cons (t := 1) rfl (Env.le_cons (t := 20) rfl (Env.le_nil _))) ?_
    refine cj_cond_t rfl ?_
    refine cj_seq (fun K4 hK4 => ?_)
    refine cj_region ?_
    refine rj_val (wn0 rfl) rfl rfl (y_assign rfl) ?_
    refine rj_nil ?_
    refine hK4 _ _ _ ?_
    refine cj_ret ?_
    refine hret _ _ _ ?_
    apply ej_ret Try.results21 (.cons (rv_tmp rfl) .nil) _ [] (by first | exact Hp.le_refl _ | exact Hp.le_trans hR1 (Hp.le_trans hR3 hR4)) rfl
    case hp => refine ⟨?_, rfl⟩; rw [bytesM, if_neg (by unfold hasBytes; simp at *; omega)]; rfl
    case hS => (repeat (first | exact Sub.refl _ | (apply Sub.pick; focus (repeat (first | exact Find.head _ | apply Find.tail))) | apply Sub.drop | exact Sub.tailApp _ _))
  · try simp only [decide_eq_true_eq, decide_eq_false_iff_not, Bool.not_eq_true', Bool.not_eq_false', Bool.true_eq_false, Bool.false_eq_true] at hg11
    refine rj_val (wn1 rfl rfl rfl rfl) rfl rfl (y_fieldAddr (k := 1) Try.underlying32 rfl (n := 1) (by decide) Try.sizeOf3 rfl) ?_
    first | refine rj_val (wn1 rfl rfl rfl rfl) rfl rfl (y_load ⟨Try.isAgg3, Try.sizeOf3⟩ rfl (by ((repeat (first | exact Find.head _ | apply Find.tail)); done)) rfl) ?_ | refine rj_val (wn1 rfl rfl rfl rfl) rfl rfl (y_load_slc ⟨Try.isAgg3, Try.sizeOf3⟩ rfl (by ((repeat (first | exact Find.head _ | apply Find.tail)); done)) rfl) ?_
    refine rj_val (wn1 rfl rfl rfl rfl) rfl rfl (y_lss rfl rfl) ?_
    refine rj_val (wn0 rfl) rfl rfl (y_pick_f rfl rfl) ?_
    refine rj_val (wn0 rfl) rfl rfl (y_move rfl) ?_
    refine rj_part 16 rfl (fun hg16 => ?_) (fun hg16 => ?_)
    · try simp only [decide_eq_true_eq, decide_eq_false_iff_not, Bool.not_eq_true', Bool.not_eq_false', Bool.true_eq_false, Bool.false_eq_true] at hg16
      refine rj_skip (wn2 rfl rfl rfl rfl rfl) rfl rfl ?_
      refine rj_skip (wn2 rfl rfl rfl rfl rfl) rfl rfl ?_
      refine rj_skip (wn2 rfl rfl rfl rfl rfl) rfl rfl ?_
      refine rj_val (wn0 rfl) rfl rfl (y_pick_t rfl rfl) ?_
      refine rj_nil ?_
      refine hK3 _ _ _ ?_
      refine cj_env (Env.le_cons (t := 1) rfl (Env.le_cons (t := 20) rfl (Env.le_nil _))) ?_
      refine cj_cond_t rfl ?_
      refine cj_seq (fun K5 hK5 => ?_)
      refine cj_region ?_
      refine rj_val (wn0 rfl) rfl rfl (y_assign rfl) ?_
      refine rj_nil ?_
      refine hK5 _ _ _ ?_
      refine cj_ret ?_
      refine hret _ _ _ ?_
      apply ej_ret Try.results21 (.cons (rv_tmp rfl) .nil) _ [] (by first | exact Hp.le_refl _ | exact Hp.le_trans hR1 (Hp.le_trans hR3 hR4)) rfl
      case hp => refine ⟨?_, rfl⟩; rw [bytesM, if_neg (by unfold hasBytes; simp at *; omega)]; rfl
      case hS => (repeat (first | exact Sub.refl _ | (apply Sub.pick; focus (repeat (first | exact Find.head _ | apply Find.tail))) | apply Sub.drop | exact Sub.tailApp _ _))
    · try simp only [decide_eq_true_eq, decide_eq_false_iff_not, Bool.not_eq_true', Bool.not_eq_false', Bool.true_eq_false, Bool.false_eq_true] at hg16
      refine rj_val (wn1 rfl rfl rfl rfl) rfl rfl (y_fieldAddr (k := 2) Try.underlying32 rfl (n := 1) (by decide) Try.sizeOf3 rfl) ?_
      first | refine rj_val (wn1 rfl rfl rfl rfl) rfl rfl (y_load ⟨Try.isAgg3, Try.sizeOf3⟩ rfl (by ((repeat (first | exact Find.head _ | apply Find.tail)); done)) rfl) ?_ | refine rj_val (wn1 rfl rfl rfl rfl) rfl rfl (y_load_slc ⟨Try.isAgg3, Try.sizeOf3⟩ rfl (by ((repeat (first | exact Find.head _ | apply Find.tail)); done)) rfl) ?_
      refine rj_val (wn1 rfl rfl rfl rfl) rfl rfl (y_lss rfl rfl) ?_
      refine rj_val (wn0 rfl) rfl rfl (y_pick_f rfl rfl) ?_
      refine rj_nil ?_
      refine hK3 _ _ _ ?_
      refine cj_env (Env.le_cons (t := 1) rfl (Env.le_cons (t := 20) rfl (Env.le_nil _))) ?_
      refine cj_cond rfl (fun hc20 => ?_) (fun hc20 => ?_)
      · try simp only [decide_eq_true_eq, decide_eq_false_iff_not, Bool.not_eq_true', Bool.not_eq_false', Bool.true_eq_false, Bool.false_eq_true] at hc20
        refine cj_seq (fun K7 hK7 => ?_)
        refine cj_region ?_
        refine rj_val (wn0 rfl) rfl rfl (y_assign rfl) ?_
        refine rj_nil ?_
        refine hK7 _ _ _ ?_
        refine cj_ret ?_
        refine hret _ _ _ ?_
        apply ej_ret Try.results21 (.cons (rv_tmp rfl) .nil) _ [] (by first | exact Hp.le_refl _ | exact Hp.le_trans hR1 (Hp.le_trans hR3 hR4)) rfl
        case hp => refine ⟨?_, rfl⟩; rw [bytesM, if_neg (by unfold hasBytes; simp at *; omega)]; rfl
        case hS => (repeat (first | exact Sub.refl _ | (apply Sub.pick; focus (repeat (first | exact Find.head _ | apply Find.tail))) | apply Sub.drop | exact Sub.tailApp _ _))
      · try simp only [decide_eq_true_eq, decide_eq_false_iff_not, Bool.not_eq_true', Bool.not_eq_false', Bool.true_eq_false, Bool.false_eq_true] at hc20
        refine cj_skip ?_
        refine hK2 _ _ _ ?_
        refine cj_seq (fun K8 hK8 => ?_)
        refine cj_region ?_
        have hb : hasBytes m = true := by unfold hasBytes; simp at *; omega
        have hb' : 0 ≤ m.kind ∧ -1 ≤ m.frm ∧ -1 ≤ m.to := by simpa [hasBytes] using hb
        refine rj_add (A := slc 72 4 (.slice none 0 0) 0 []) (slc_nil _ _) ?_
        refine rj_val (wn0 rfl) rfl rfl (y_assign rfl) ?_
        refine rj_nil ?_
        refine hK8 _ _ _ ?_
        refine cj_seq (fun K9 hK9 => ?_)
        refine cj_seq (fun K10 hK10 => ?_)
        refine cj_region ?_
        refine rj_val (wn0 rfl) rfl rfl (y_assign rfl) ?_
        refine rj_nil ?_
        refine hK10 _ _ _ ?_
        refine cj_block ?_
        refine cj_env (E' := (fun (x : Nat × Value × List (List Value) × Hp) => [(1, .pointer (some ⟨b1, 0, none⟩)), (3, x.2.1), (4, .int .i64 (x.1 : Int))]) (0, .slice none 0 0, [], R)) (Env.le_cons rfl (Env.le_cons rfl (Env.le_cons rfl (Env.le_nil _)))) ?_
        refine cj_sub (M := (fun (x : Nat × Value × List (List Value) × Hp) => blk b1 [.int .i64 m.kind, .int .i64 m.frm, .int .i64 m.to, .int .u64 m.term, .int .u64 m.index, .int .u64 m.logTerm, .int .u64 m.commit, .bool m.ok, .slice q m.es.length cap, .string (str m.state)] 32 :: slc 72 4 x.2.1 x.1 x.2.2.1.flatten :: F) (0, .slice none 0 0, [], R)) (by (repeat (first | exact Sub.refl _ | (apply Sub.pick; focus (repeat (first | exact Find.head _ | apply Find.tail))) | apply Sub.drop | exact Sub.tailApp _ _))) ?_
        refine cj_loop (fun (x : Nat × Value × List (List Value) × Hp) => [(1, .pointer (some ⟨b1, 0, none⟩)), (3, x.2.1), (4, .int .i64 (x.1 : Int))]) (fun (x : Nat × Value × List (List Value) × Hp) => x.2.2.2) (fun (x : Nat × Value × List (List Value) × Hp) => blk b1 [.int .i64 m.kind, .int .i64 m.frm, .int .i64 m.to, .int .u64 m.term, .int .u64 m.index, .int .u64 m.logTerm, .int .u64 m.commit, .bool m.ok, .slice q m.es.length cap, .string (str m.state)] 32 :: slc 72 4 x.2.1 x.1 x.2.2.1.flatten :: F) (fun (x : Nat × Value × List (List Value) × Hp) => x.1 ≤ m.es.length ∧ R.le x.2.2.2 ∧ Kids x.2.2.2 ((m.es.take x.1).map entN) x.2.2.1 ∧ x.2.1.oneCell' = true) (fun (x : Nat × Value × List (List Value) × Hp) => m.es.length - x.1) (0, .slice none 0 0, [], R) (⟨by simp, Hp.le_refl R, by simpa using Kids.nil R, rfl⟩) ?_
        rintro ⟨i, v, css, R1⟩ ⟨hi, hR1, hk, hvo⟩
        try dsimp only
        dsimp only at hi hR1 hk hvo
        refine cj_seq (fun K11 hK11 => ?_)
        refine cj_seq (fun K12 hK12 => ?_)
        refine cj_region ?_
        refine rj_val (wn0 rfl) rfl rfl (y_move rfl) ?_
        refine rj_val (wn0 rfl) rfl rfl (y_fieldAddr (k := 8) Try.underlying32 rfl (n := 1) (by decide) Try.sizeOf30 rfl) ?_
        first | refine rj_val (wn0 rfl) rfl rfl (y_load ⟨Try.isAgg30, Try.sizeOf30⟩ rfl (by ((repeat (first | exact Find.head _ | apply Find.tail)); done)) rfl) ?_ | refine rj_val (wn0 rfl) rfl rfl (y_load_slc ⟨Try.isAgg30, Try.sizeOf30⟩ rfl (by ((repeat (first | exact Find.head _ | apply Find.tail)); done)) rfl) ?_
        first | refine rj_val (wn0 rfl) rfl rfl (y_len_sl Try.underlying30 rfl) ?_ | refine rj_val (wn0 rfl) rfl rfl (y_len_slc Try.underlying30 rfl (by ((repeat (first | exact Find.head _ | apply Find.tail)); done))) ?_
        refine rj_val (wn0 rfl) rfl rfl (y_lss rfl rfl) ?_
        refine rj_nil ?_
        refine hK12 _ _ _ ?_
        refine cj_env (Env.le_cons (t := 1) rfl (Env.le_cons (t := 3) rfl (Env.le_cons (t := 4) rfl (Env.le_cons (t := 25) rfl (Env.le_nil _))))) ?_
        refine cj_cond rfl (fun hc25 => ?_) (fun hc25 => ?_)
        · try simp only [decide_eq_true_eq, decide_eq_false_iff_not, Bool.not_eq_true', Bool.not_eq_false', Bool.true_eq_false, Bool.false_eq_true] at hc25
          refine cj_skip ?_
          refine hK11 _ _ _ ?_
          refine cj_seq (fun K14 hK14 => ?_)
          refine cj_block ?_
          obtain ⟨e, he⟩ : ∃ e, m.es[i]? = some e := ⟨m.es[i]'(by omega), by simp⟩
          obtain ⟨b, off, cap', cs, hee, rfl, hcl, hcell⟩ := (hve.mono hR1).at he
          obtain ⟨rfl, rfl⟩ : q = some ⟨b, off, none⟩ ∧ cap = cap' := by cases hee; exact ⟨rfl, rfl⟩
          have hmem := List.mem_of_getElem? he
          obtain ⟨et, ec⟩ := e
          have het := (hbd.es _ hmem).1
          have hec := hcmd _ hmem
          unfold u64B at het
          dsimp only at het hec
          obtain ⟨et, rfl⟩ := Int.eq_ofNat_of_zero_le het.1
          refine cj_mixg (L := [blk b1 [.int .i64 m.kind, .int .i64 m.frm, .int .i64 m.to, .int .u64 m.term, .int .u64 m.index, .int .u64 m.logTerm, .int .u64 m.commit, .bool m.ok, .slice (some ⟨b, off, none⟩) m.es.length cap, .string (str m.state)] 32]) [0, 1, 2, 3, 4, 5, 6, 7, 8, 9, 10, 11, 12, 13, 14] [15, 16, 17] [18, 19] _ (by (repeat (first | exact Sub.refl _ | (apply Sub.pick; focus (repeat (first | exact Find.head _ | apply Find.tail))) | apply Sub.drop | exact Sub.tailApp _ _))) (by kernel_rfl) (by kernel_rfl) (by kernel_rfl) rfl ?_
          refine fj_val rfl rfl rfl (wn0 rfl) (fun R1 hR1 G => (y_move rfl)) ?_
          refine fj_val rfl rfl rfl (wn0 rfl) (fun R1 hR1 G => (y_fieldAddr (k := 8) Try.underlying32 rfl (n := 1) (by decide) Try.sizeOf30 rfl)) ?_
          first | refine fj_val rfl rfl rfl (wn0 rfl) (fun R1 hR1 G => (y_load ⟨Try.isAgg30, Try.sizeOf30⟩ rfl (by ((repeat (first | exact Find.head _ | apply Find.tail)); done)) rfl)) ?_ | refine fj_val rfl rfl rfl (wn0 rfl) (fun R1 hR1 G => (y_load_slc ⟨Try.isAgg30, Try.sizeOf30⟩ rfl (by ((repeat (first | exact Find.head _ | apply Find.tail)); done)) rfl)) ?_
          refine fj_val rfl rfl rfl (wn0 rfl) (fun R1 hR1 G => (y_move rfl)) ?_
          first | refine fj_val rfl rfl rfl (wn0 rfl) (fun R1 hR1 G => (y_indexAddr Try.underlying30 Try.sizeOf60 rfl rfl (by (first | omega | (dsimp only; omega) | (simp; done) | (simp; omega))))) ?_ | refine fj_val rfl rfl rfl (wn0 rfl) (fun R1 hR1 G => (y_index_slc Try.underlying30 Try.sizeOf60 rfl rfl (by ((repeat (first | exact Find.head _ | apply Find.tail)); done)) (by (first | omega | (dsimp only; omega) | (simp; done) | (simp; omega))))) ?_
          refine fj_val rfl rfl rfl (wn0 rfl) (fun R1 hR1 G => (y_fieldAddr (k := 0) Try.underlying60 rfl (n := 1) (by decide) Try.sizeOf27 rfl)) ?_
          refine fj_val rfl rfl rfl (wn0 rfl) (fun R1 hR1 G => (y_load_ro ⟨Try.isAgg27, Try.sizeOf27⟩ rfl (cell_mono hR1 (hcell 0 _ rfl)))) ?_
          refine fj_val rfl rfl rfl (wn0 rfl) (fun R1 hR1 G => (y_call Try.call32 rfl (rN_q _) (by (repeat (first | exact Split.nil _ | (apply Split.cons; focus (repeat (first | exact Find.head _ | apply Find.tail)))))))) ?_
          refine fj_val rfl rfl rfl (wn0 rfl) (fun R1 hR1 G => (y_fieldAddr (k := 8) Try.underlying32 rfl (n := 1) (by decide) Try.sizeOf30 rfl)) ?_
          first | refine fj_val rfl rfl rfl (wn0 rfl) (fun R1 hR1 G => (y_load ⟨Try.isAgg30, Try.sizeOf30⟩ rfl (by ((repeat (first | exact Find.head _ | apply Find.tail)); done)) rfl)) ?_ | refine fj_val rfl rfl rfl (wn0 rfl) (fun R1 hR1 G => (y_load_slc ⟨Try.isAgg30, Try.sizeOf30⟩ rfl (by ((repeat (first | exact Find.head _ | apply Find.tail)); done)) rfl)) ?_
          refine fj_val rfl rfl rfl (wn0 rfl) (fun R1 hR1 G => (y_move rfl)) ?_
          first | refine fj_val rfl rfl rfl (wn0 rfl) (fun R1 hR1 G => (y_indexAddr Try.underlying30 Try.sizeOf60 rfl rfl (by (first | omega | (dsimp only; omega) | (simp; done) | (simp; omega))))) ?_ | refine fj_val rfl rfl rfl (wn0 rfl) (fun R1 hR1 G => (y_index_slc Try.underlying30 Try.sizeOf60 rfl rfl (by ((repeat (first | exact Find.head _ | apply Find.tail)); done)) (by (first | omega | (dsimp only; omega) | (simp; done) | (simp; omega))))) ?_
          refine fj_val rfl rfl rfl (wn0 rfl) (fun R1 hR1 G => (y_fieldAddr (k := 1) Try.underlying60 rfl (n := 1) (by decide) Try.sizeOf9 rfl)) ?_
          refine fj_val rfl rfl rfl (wn0 rfl) (fun R1 hR1 G => (y_load_ro ⟨Try.isAgg9, Try.sizeOf9⟩ rfl (cell_mono hR1 (hcell 1 _ rfl)))) ?_
          refine fj_val rfl rfl rfl (wn0 rfl) (fun R1 hR1 G => (y_call Try.call33 rfl (rS_q _) (by (repeat (first | exact Split.nil _ | (apply Split.cons; focus (repeat (first | exact Find.head _ | apply Find.tail)))))))) ?_
          refine fj_nil ?_
          refine xj_rj rfl ?_
          try simp only [List.cons_append, List.nil_append, List.append_nil]
          refine rj_buildSlice (sz := 4) (wn0 rfl) rfl Try.underlying70 Try.sizeOf72 Try.zeroValue72 rfl rfl rfl (by decide) (by decide) (fun bz => ?_)
          refine rj_freeze (e := 72) (sz := 4) (n := 2) (v := .slice (some ⟨bz, 0, none⟩) 2 2) (xs := [.int .i64 0, .int .u64 ((et : Nat) : Int), .string (str []), .slice none 0 0, .int .i64 1, .int .u64 ((0 : Nat) : Int), .string (str ec), .slice none 0 0]) (by ((repeat (first | exact Find.head _ | apply Find.tail)); done)) (fun R2 hR2 hfr hxl => ?_)
          have hrl2 : ∃ qq cc, Value.slice (some ⟨bz, 0, none⟩) 2 2 = .slice qq 2 cc ∧ RepL R2 [numN (et : Int), txtN ec] qq cc := Kids.repL (v := .slice (some ⟨bz, 0, none⟩) 2 2) (css := [[.int .i64 0, .int .u64 ((et : Nat) : Int), .string (str []), .slice none 0 0], [.int .i64 1, .int .u64 ((0 : Nat) : Int), .string (str ec), .slice none 0 0]]) (.cons (num_rep R2 _) (.cons (txt_rep R2 hec) (.nil R2))) hfr (by simp [big])
          have hy : RepN R2 (entN ((et : Int), ec)) [.int .i64 2, .int .u64 ((0 : Nat) : Int), .string (str []), .slice (some ⟨bz, 0, none⟩) 2 2] := by obtain ⟨qq, cc, hq, hrl⟩ := hrl2; cases hq; exact RepL.node (by simp [big]) hrl
          have hkn : Kids R2 ((m.es.take (i + 1)).map entN) (css ++ [[.int .i64 2, .int .u64 ((0 : Nat) : Int), .string (str []), .slice (some ⟨bz, 0, none⟩) 2 2]]) := by rw [List.take_add_one, he, List.map_append]; exact (hk.mono hR2).snoc hy
          refine rj_xk (by (first | exact Hp.le_refl _ | assumption | exact Hp.le_trans ‹_› ‹_›)) (by (repeat (first | exact Sub.refl _ | (apply Sub.pick; focus (repeat (first | exact Find.head _ | apply Find.tail))) | apply Sub.drop | exact Sub.tailApp _ _))) ?_
          refine xj_rj rfl ?_
          try simp only [List.cons_append, List.nil_append, List.append_nil]
          refine rj_val (wn0 rfl) rfl rfl (y_call Try.call31 rfl (rL_q _ rfl) (by (repeat (first | exact Split.nil _ | (apply Split.cons; focus (repeat (first | exact Find.head _ | apply Find.tail))))))) ?_
          refine rj_xk (by (first | exact Hp.le_refl _ | assumption | exact Hp.le_trans ‹_› ‹_›)) (by (repeat (first | exact Sub.refl _ | (apply Sub.pick; focus (repeat (first | exact Find.head _ | apply Find.tail))) | apply Sub.drop | exact Sub.tailApp _ _))) ?_
          refine xj_rj rfl ?_
          try simp only [List.cons_append, List.nil_append, List.append_nil]
          refine rj_buildSlice (sz := 4) (wn0 rfl) rfl Try.underlying70 Try.sizeOf72 Try.zeroValue72 rfl rfl rfl (by decide) (by decide) (fun bw => ?_)
          refine rj_xk (by (first | exact Hp.le_refl _ | assumption | exact Hp.le_trans ‹_› ‹_›)) (by (repeat (first | exact Sub.refl _ | (apply Sub.pick; focus (repeat (first | exact Find.head _ | apply Find.tail))) | apply Sub.drop | exact Sub.tailApp _ _))) ?_
          refine xj_nil ?_
          try simp only [List.cons_append, List.nil_append, List.append_nil]
          refine rj_append (sz := 4) (by_ := 56) ⟨Try.underlying70, _, _, rfl, rfl, rfl, rfl, rfl⟩ (wn0 rfl) rfl rfl rfl (by ((repeat (first | exact Find.head _ | apply Find.tail)); done)) (src_slc (xs := [.int .i64 2, .int .u64 ((0 : Nat) : Int), .string (str []), .slice (some ⟨bz, 0, none⟩) 2 2]) Try.underlying70 (by ((repeat (first | exact Find.head _ | apply Find.tail)); done)) (by (first | (simp [Value.oneCell']; done) | (intro u hu; simp only [List.mem_cons, List.not_mem_nil, or_false] at hu; rcases hu with rfl | rfl | rfl | rfl <;> first | rfl | assumption)))) rfl (by (first | omega | (dsimp only; omega) | (simp; done) | (simp; omega))) (by simp only [maxLen]; omega) (fun v46 ho46 hh46 => ?_)
          rw [flat_snoc]
          refine rj_val (wn0 rfl) rfl rfl (y_assign rfl) ?_
          refine rj_nil ?_
          refine hK14 _ _ _ ?_
          refine cj_env (Env.le_cons (t := 1) rfl (Env.le_cons (t := 3) rfl (Env.le_cons (t := 4) rfl (Env.le_nil _)))) ?_
          refine cj_region ?_
          refine rj_val (wn0 rfl) rfl rfl (y_move rfl) ?_
          first | refine rj_val (wn0 rfl) rfl rfl (y_add64 rfl rfl (by (first | omega | (dsimp only; omega) | (simp; done) | (simp; omega)))) ?_ | refine rj_val (wn0 rfl) rfl rfl (y_add rfl rfl) ?_
          refine rj_val (wn0 rfl) rfl rfl (y_assign rfl) ?_
          refine rj_nil ?_
          refine ej_on (q' := roundK _ _ _ _ _ _ _) rfl ?_
          refine ej_round ((i + 1, v46, css ++ [[.int .i64 2, .int .u64 ((0 : Nat) : Int), .string (str []), .slice (some ⟨bz, 0, none⟩) 2 2]], R2)) (⟨by dsimp only; omega, Hp.le_trans hR1 hR2, hkn, by assumption⟩) (by dsimp only; omega) (Env.le_cons rfl (Env.le_cons rfl (Env.le_cons rfl (Env.le_nil _)))) rfl (by (repeat (first | exact Sub.refl _ | (apply Sub.pick; focus (repeat (first | exact Find.head _ | apply Find.tail))) | apply Sub.drop | exact Sub.tailApp _ _)))
        · try simp only [decide_eq_true_eq, decide_eq_false_iff_not, Bool.not_eq_true', Bool.not_eq_false', Bool.true_eq_false, Bool.false_eq_true] at hc25
          refine cj_exit ?_
          refine hK9 _ _ _ ?_
          refine cj_seq (fun K15 hK15 => ?_)
          refine cj_region ?_
          refine rj_val (wn0 rfl) rfl rfl (y_assign rfl) ?_
          refine rj_nil ?_
          refine hK15 _ _ _ ?_
          refine cj_seq (fun K16 hK16 => ?_)
          have hJ11 : ∀ (x : Unit), True → EJ ⟨Try.prog, 89, σ⟩ K16 [(1, .pointer (some ⟨b1, 0, none⟩)), (3, v), (5, .int .u64 (((okN m.ok).toNat : Nat) : Int))] R1 (blk b1 [.int .i64 m.kind, .int .i64 m.frm, .int .i64 m.to, .int .u64 m.term, .int .u64 m.index, .int .u64 m.logTerm, .int .u64 m.commit, .bool m.ok, .slice q m.es.length cap, .string (str m.state)] 32 :: slc 72 4 v i css.flatten :: F) := by
            rintro ⟨⟩ hI11
            try dsimp only
            have hil : i = m.es.length := by (try simp at hc25); omega
            subst hil
            refine hK16 _ _ _ ?_
            refine cj_seq (fun K17 hK17 => ?_)
            refine cj_freeze (e := 72) (sz := 4) (n := m.es.length) (v := v) (xs := css.flatten) (by ((repeat (first | exact Find.head _ | apply Find.tail)); done)) (fun R3 hR3 hfr hxl => ?_)
            have hkl : ((m.es.take m.es.length).map entN).length = m.es.length := by simp
            obtain ⟨q3, cap3, rfl, hrl⟩ := (hk.mono hR3).repL (by rw [hkl]; exact hfr) (by rw [hkl]; unfold big; omega)
            rw [List.take_of_length_le (Nat.le_refl _)] at hrl
            rw [hkl]
            have hen : RepN R3 (.mk 2 0 [] (m.es.map entN)) [.int .i64 2, .int .u64 ((0 : Nat) : Int), .string (str []), .slice q3 m.es.length cap3] := by have hh := RepL.node (k := 2) (n := 0) (s := []) (by simp [big]) hrl; rw [List.length_map] at hh; exact hh
            refine cj_mixt (L := [blk b1 [.int .i64 m.kind, .int .i64 m.frm, .int .i64 m.to, .int .u64 m.term, .int .u64 m.index, .int .u64 m.logTerm, .int .u64 m.commit, .bool m.ok, .slice q m.es.length cap, .string (str m.state)] 32]) [0, 1, 2, 3, 4, 5, 6, 7, 8, 9, 10, 11, 12, 13, 14, 15, 16, 17, 18, 19, 20, 21, 22, 23, 24, 25, 26, 27, 28, 29, 30, 31, 32] [] [33, 34, 35, 36, 37, 38, 39, 40] _ (by (repeat (first | exact Sub.refl _ | (apply Sub.pick; focus (repeat (first | exact Find.head _ | apply Find.tail))) | apply Sub.drop | exact Sub.tailApp _ _))) (by kernel_rfl) (by kernel_rfl) ?_
            refine fj_val rfl rfl rfl (wn0 rfl) (fun R1 hR1 G => (y_fieldAddr (k := 0) Try.underlying32 rfl (n := 1) (by decide) Try.sizeOf3 rfl)) ?_
            first | refine fj_val rfl rfl rfl (wn0 rfl) (fun R1 hR1 G => (y_load ⟨Try.isAgg3, Try.sizeOf3⟩ rfl (by ((repeat (first | exact Find.head _ | apply Find.tail)); done)) rfl)) ?_ | refine fj_val rfl rfl rfl (wn0 rfl) (fun R1 hR1 G => (y_load_slc ⟨Try.isAgg3, Try.sizeOf3⟩ rfl (by ((repeat (first | exact Find.head _ | apply Find.tail)); done)) rfl)) ?_
            refine fj_val rfl rfl rfl (wn0 rfl) (fun R1 hR1 G => (Yld.to (y_conv Try.underlying3 Try.underlying27 rfl) (congrArg (Value.int .u64) (u64_of_i64 ⟨hb'.1, hkd.2⟩)))) ?_
            refine fj_val rfl rfl rfl (wn0 rfl) (fun R1 hR1 G => (y_call Try.call32 rfl (rN_q _) (by (repeat (first | exact Split.nil _ | (apply Split.cons; focus (repeat (first | exact Find.head _ | apply Find.tail)))))))) ?_
            refine fj_val rfl rfl rfl (wn0 rfl) (fun R1 hR1 G => (y_fieldAddr (k := 1) Try.underlying32 rfl (n := 1) (by decide) Try.sizeOf3 rfl)) ?_
            first | refine fj_val rfl rfl rfl (wn0 rfl) (fun R1 hR1 G => (y_load ⟨Try.isAgg3, Try.sizeOf3⟩ rfl (by ((repeat (first | exact Find.head _ | apply Find.tail)); done)) rfl)) ?_ | refine fj_val rfl rfl rfl (wn0 rfl) (fun R1 hR1 G => (y_load_slc ⟨Try.isAgg3, Try.sizeOf3⟩ rfl (by ((repeat (first | exact Find.head _ | apply Find.tail)); done)) rfl)) ?_
            refine fj_val rfl rfl rfl (wn0 rfl) (fun R1 hR1 G => (y_add rfl rfl)) ?_
            refine fj_val rfl rfl rfl (wn0 rfl) (fun R1 hR1 G => (Yld.to (y_conv Try.underlying3 Try.underlying27 rfl) (congrArg (Value.int .u64) (u64_of_succ ⟨hb'.2.1, hfrm.2⟩)))) ?_
            refine fj_val rfl rfl rfl (wn0 rfl) (fun R1 hR1 G => (y_call Try.call32 rfl (rN_q _) (by (repeat (first | exact Split.nil _ | (apply Split.cons; focus (repeat (first | exact Find.head _ | apply Find.tail)))))))) ?_
            refine fj_val rfl rfl rfl (wn0 rfl) (fun R1 hR1 G => (y_fieldAddr (k := 2) Try.underlying32 rfl (n := 1) (by decide) Try.sizeOf3 rfl)) ?_
            first | refine fj_val rfl rfl rfl (wn0 rfl) (fun R1 hR1 G => (y_load ⟨Try.isAgg3, Try.sizeOf3⟩ rfl (by ((repeat (first | exact Find.head _ | apply Find.tail)); done)) rfl)) ?_ | refine fj_val rfl rfl rfl (wn0 rfl) (fun R1 hR1 G => (y_load_slc ⟨Try.isAgg3, Try.sizeOf3⟩ rfl (by ((repeat (first | exact Find.head _ | apply Find.tail)); done)) rfl)) ?_
            refine fj_val rfl rfl rfl (wn0 rfl) (fun R1 hR1 G => (y_add rfl rfl)) ?_
            refine fj_val rfl rfl rfl (wn0 rfl) (fun R1 hR1 G => (Yld.to (y_conv Try.underlying3 Try.underlying27 rfl) (congrArg (Value.int .u64) (u64_of_succ ⟨hb'.2.2, hto.2⟩)))) ?_
            refine fj_val rfl rfl rfl (wn0 rfl) (fun R1 hR1 G => (y_call Try.call32 rfl (rN_q _) (by (repeat (first | exact Split.nil _ | (apply Split.cons; focus (repeat (first | exact Find.head _ | apply Find.tail)))))))) ?_
            refine fj_val rfl rfl rfl (wn0 rfl) (fun R1 hR1 G => (y_fieldAddr (k := 3) Try.underlying32 rfl (n := 1) (by decide) Try.sizeOf27 rfl)) ?_
            refine fj_val rfl rfl rfl (wn0 rfl) (fun R1 hR1 G => (Yld.to (y_load ⟨Try.isAgg27, Try.sizeOf27⟩ rfl (by ((repeat (first | exact Find.head _ | apply Find.tail)); done)) rfl) (show _ = Value.int .u64 ((m.term.toNat : Nat) : Int) by congr 1; omega))) ?_
            refine fj_val rfl rfl rfl (wn0 rfl) (fun R1 hR1 G => (y_call Try.call32 rfl (rN_q _) (by (repeat (first | exact Split.nil _ | (apply Split.cons; focus (repeat (first | exact Find.head _ | apply Find.tail)))))))) ?_
            refine fj_val rfl rfl rfl (wn0 rfl) (fun R1 hR1 G => (y_fieldAddr (k := 4) Try.underlying32 rfl (n := 1) (by decide) Try.sizeOf27 rfl)) ?_
            refine fj_val rfl rfl rfl (wn0 rfl) (fun R1 hR1 G => (Yld.to (y_load ⟨Try.isAgg27, Try.sizeOf27⟩ rfl (by ((repeat (first | exact Find.head _ | apply Find.tail)); done)) rfl) (show _ = Value.int .u64 ((m.index.toNat : Nat) : Int) by congr 1; omega))) ?_
            refine fj_val rfl rfl rfl (wn0 rfl) (fun R1 hR1 G => (y_call Try.call32 rfl (rN_q _) (by (repeat (first | exact Split.nil _ | (apply Split.cons; focus (repeat (first | exact Find.head _ | apply Find.tail)))))))) ?_
            refine fj_val rfl rfl rfl (wn0 rfl) (fun R1 hR1 G => (y_fieldAddr (k := 5) Try.underlying32 rfl (n := 1) (by decide) Try.sizeOf27 rfl)) ?_
            refine fj_val rfl rfl rfl (wn0 rfl) (fun R1 hR1 G => (Yld.to (y_load ⟨Try.isAgg27, Try.sizeOf27⟩ rfl (by ((repeat (first | exact Find.head _ | apply Find.tail)); done)) rfl) (show _ = Value.int .u64 ((m.logTerm.toNat : Nat) : Int) by congr 1; omega))) ?_
            refine fj_val rfl rfl rfl (wn0 rfl) (fun R1 hR1 G => (y_call Try.call32 rfl (rN_q _) (by (repeat (first | exact Split.nil _ | (apply Split.cons; focus (repeat (first | exact Find.head _ | apply Find.tail)))))))) ?_
            refine fj_val rfl rfl rfl (wn0 rfl) (fun R1 hR1 G => (y_fieldAddr (k := 6) Try.underlying32 rfl (n := 1) (by decide) Try.sizeOf27 rfl)) ?_
            refine fj_val rfl rfl rfl (wn0 rfl) (fun R1 hR1 G => (Yld.to (y_load ⟨Try.isAgg27, Try.sizeOf27⟩ rfl (by ((repeat (first | exact Find.head _ | apply Find.tail)); done)) rfl) (show _ = Value.int .u64 ((m.commit.toNat : Nat) : Int) by congr 1; omega))) ?_
            refine fj_val rfl rfl rfl (wn0 rfl) (fun R1 hR1 G => (y_call Try.call32 rfl (rN_q _) (by (repeat (first | exact Split.nil _ | (apply Split.cons; focus (repeat (first | exact Find.head _ | apply Find.tail)))))))) ?_
            refine fj_val rfl rfl rfl (wn0 rfl) (fun R1 hR1 G => (y_move rfl)) ?_
            refine fj_val rfl rfl rfl (wn0 rfl) (fun R1 hR1 G => (y_call Try.call32 rfl (rN_q _) (by (repeat (first | exact Split.nil _ | (apply Split.cons; focus (repeat (first | exact Find.head _ | apply Find.tail)))))))) ?_
            refine fj_val rfl rfl rfl (wn0 rfl) (fun R1 hR1 G => (y_move rfl)) ?_
            refine fj_val rfl rfl rfl (wn0 rfl) (fun R1 hR1 G => (y_call Try.call31 rfl (rL_q _ rfl) (by (repeat (first | exact Split.nil _ | (apply Split.cons; focus (repeat (first | exact Find.head _ | apply Find.tail)))))))) ?_
            refine fj_val rfl rfl rfl (wn0 rfl) (fun R1 hR1 G => (y_fieldAddr (k := 9) Try.underlying32 rfl (n := 1) (by decide) Try.sizeOf9 rfl)) ?_
            first | refine fj_val rfl rfl rfl (wn0 rfl) (fun R1 hR1 G => (y_load ⟨Try.isAgg9, Try.sizeOf9⟩ rfl (by ((repeat (first | exact Find.head _ | apply Find.tail)); done)) rfl)) ?_ | refine fj_val rfl rfl rfl (wn0 rfl) (fun R1 hR1 G => (y_load_slc ⟨Try.isAgg9, Try.sizeOf9⟩ rfl (by ((repeat (first | exact Find.head _ | apply Find.tail)); done)) rfl)) ?_
            refine fj_val rfl rfl rfl (wn0 rfl) (fun R1 hR1 G => (y_call Try.call33 rfl (rS_q _) (by (repeat (first | exact Split.nil _ | (apply Split.cons; focus (repeat (first | exact Find.head _ | apply Find.tail)))))))) ?_
            refine fj_nil ?_
            refine xj_nil ?_
            try simp only [List.cons_append, List.nil_append, List.append_nil]
            refine tj_all (rs := [33]) (by kernel_rfl) (by decide) ⟨⟨_, rfl, ?_⟩, trivial⟩
            refine rj_buildSlice (sz := 4) (wn0 rfl) rfl Try.underlying70 Try.sizeOf72 Try.zeroValue72 rfl rfl rfl (by decide) (by decide) (fun bt => ?_)
            refine rj_freeze (e := 72) (sz := 4) (n := 10) (v := .slice (some ⟨bt, 0, none⟩) 10 10) (xs := (tenC m [.int .i64 2, .int .u64 ((0 : Nat) : Int), .string (str []), .slice q3 m.es.length cap3]).flatten) (by ((repeat (first | exact Find.head _ | apply Find.tail)); done)) (fun R4 hR4 hfr4 hxl4 => ?_)
            have hrl4 : ∃ qq cc, Value.slice (some ⟨bt, 0, none⟩) 10 10 = .slice qq (msgKids m).length cc ∧ RepL R4 (msgKids m) qq cc := Kids.repL (ten_kids (hen.mono hR4) hst) hfr4 (by simp [big, msgKids])
            have hy : RepN R4 (msgN m) [.int .i64 2, .int .u64 ((0 : Nat) : Int), .string (str []), .slice (some ⟨bt, 0, none⟩) 10 10] := by obtain ⟨qq, cc, hq, hrl⟩ := hrl4; cases hq; exact RepL.node (l := msgKids m) (by simp [big]) hrl
            have hcost := cost_big2 (msgN_ok hbd hb) (by have := msg_cost hsm; omega)
            refine rj_tj ?_
            refine tj_all (rs := [34]) (by kernel_rfl) (by decide) ⟨⟨_, rfl, ?_⟩, trivial⟩
            refine rj_val (wn0 rfl) rfl rfl (y_call Try.call31 rfl (rL_q _ rfl) (by (repeat (first | exact Split.nil _ | (apply Split.cons; focus (repeat (first | exact Find.head _ | apply Find.tail))))))) ?_
            refine rj_tj ?_
            refine tj_all (rs := [35]) (by kernel_rfl) (by decide) ⟨⟨_, rfl, ?_⟩, trivial⟩
            refine rj_val (wn0 rfl) rfl rfl (y_call Try.call34 rfl (rwrite_q (msgN m) _ hy (msgN_ok hbd hb) hcost.1 hcost.2.1) (by (repeat (first | exact Split.nil _ | (apply Split.cons; focus (repeat (first | exact Find.head _ | apply Find.tail))))))) ?_
            refine rj_tj ?_
            refine tj_all (rs := [36]) (by kernel_rfl) (by decide) ⟨⟨_, rfl, ?_⟩, trivial⟩
            refine rj_val (wn0 rfl) rfl rfl (y_move rfl) ?_
            refine rj_tj ?_
            refine tj_take (i := 37) rfl rfl rfl (by kernel_rfl) (by kernel_rfl) (by kernel_rfl) (wn0 rfl) rfl (fun σ => (y_extract rfl rfl)) ?_
            refine tj_take (i := 38) rfl rfl rfl (by kernel_rfl) (by kernel_rfl) (by kernel_rfl) (wn0 rfl) rfl (fun σ => (y_extract rfl rfl)) ?_
            refine tj_all (rs := [39]) (by kernel_rfl) (by decide) ⟨⟨_, rfl, ?_⟩, trivial⟩
            refine rj_val (wn0 rfl) rfl rfl (y_assign rfl) ?_
            refine rj_tj ?_
            refine tj_all (rs := [40]) (by kernel_rfl) (by decide) ⟨⟨_, rfl, ?_⟩, trivial⟩
            refine rj_val (wn0 rfl) rfl rfl (y_assign rfl) ?_
            refine rj_tj ?_
            refine tj_done (by kernel_rfl) ?_
            refine hK17 _ _ _ ?_
            refine cj_env (Env.le_cons (t := 6) rfl (Env.le_nil _)) ?_
            refine cj_seq (fun K18 hK18 => ?_)
            refine cj_region ?_
            refine rj_val (wn0 rfl) rfl rfl (y_move rfl) ?_
            refine rj_val (wn0 rfl) rfl rfl (y_assign rfl) ?_
            refine rj_nil ?_
            refine hK18 _ _ _ ?_
            refine cj_ret ?_
            refine hret _ _ _ ?_
            apply ej_ret Try.results21 (.cons (rv_tmp rfl) .nil) _ [] (by first | exact Hp.le_refl _ | exact Hp.le_trans hR1 (Hp.le_trans hR3 hR4)) rfl
            case hp => refine ⟨?_, rfl⟩; rw [bytesM, if_pos hb]; rfl
            case hS => (repeat (first | exact Sub.refl _ | (apply Sub.pick; focus (repeat (first | exact Find.head _ | apply Find.tail))) | apply Sub.drop | exact Sub.tailApp _ _))
          refine cj_seq (fun K19 hK19 => ?_)
          refine cj_region ?_
          refine rj_val (wn0 rfl) rfl rfl (y_fieldAddr (k := 7) Try.underlying32 rfl (n := 1) (by decide) Try.sizeOf4 rfl) ?_
          first | refine rj_val (wn0 rfl) rfl rfl (y_load ⟨Try.isAgg4, Try.sizeOf4⟩ rfl (by ((repeat (first | exact Find.head _ | apply Find.tail)); done)) rfl) ?_ | refine rj_val (wn0 rfl) rfl rfl (y_load_slc ⟨Try.isAgg4, Try.sizeOf4⟩ rfl (by ((repeat (first | exact Find.head _ | apply Find.tail)); done)) rfl) ?_
          refine rj_nil ?_
          refine hK19 _ _ _ ?_
          refine cj_env (Env.le_cons (t := 1) rfl (Env.le_cons (t := 3) rfl (Env.le_cons (t := 5) rfl (Env.le_cons (t := 48) rfl (Env.le_nil _))))) ?_
          refine cj_cond rfl (fun hc48 => ?_) (fun hc48 => ?_)
          · try simp only [decide_eq_true_eq, decide_eq_false_iff_not, Bool.not_eq_true', Bool.not_eq_false', Bool.true_eq_false, Bool.false_eq_true] at hc48
            refine cj_region ?_
            refine rj_val (wn0 rfl) rfl rfl (y_assign rfl) ?_
            refine rj_nil ?_
            refine ej_join hJ11 (()) (trivial) (Env.le_cons rfl (Env.le_cons rfl (Env.le_cons (Eq.trans rfl (congrArg some (by first | rfl | (rw [hc48]; rfl)))) (Env.le_nil _)))) rfl (by (repeat (first | exact Sub.refl _ | (apply Sub.pick; focus (repeat (first | exact Find.head _ | apply Find.tail))) | apply Sub.drop | exact Sub.tailApp _ _)))
          · try simp only [decide_eq_true_eq, decide_eq_false_iff_not, Bool.not_eq_true', Bool.not_eq_false', Bool.true_eq_false, Bool.false_eq_true] at hc48
            refine cj_skip ?_
            refine ej_join hJ11 (()) (trivial) (Env.le_cons rfl (Env.le_cons rfl (Env.le_cons (Eq.trans rfl (congrArg some (by first | rfl | (rw [hc48]; rfl)))) (Env.le_nil _)))) rfl (by (repeat (first | exact Sub.refl _ | (apply Sub.pick; focus (repeat (first | exact Find.head _ | apply Find.tail))) | apply Sub.drop | exact Sub.tailApp _ _)))
end V
end Go.Proofs.Ythdmbdbncbdmiaa
