/- Bytes read as a message, walked. -/
import Derived.Test.YthdmbdbncbdmiaaT10f
set_option linter.unusedSimpArgs false
set_option linter.unusedVariables false
set_option maxRecDepth 100000
namespace Go.Proofs.Ythdmbdbncbdmiaa
open Go.RowKit
namespace V
set_option maxHeartbeats 4000000
theorem RepL.row {R : Hp} {l : List Nd} {q : Option Addr} {cap : Nat} (h : RepL R l q cap) (hne : l ≠ []) : ∃ b off, q = some ⟨b, off, none⟩ ∧ ∀ (i : Nat) (x : Nd), l[i]? = some x →
    Hp.cell R ⟨b, off + i * 4 + 0, none⟩ = some (.int .i64 x.kind) ∧ Hp.cell R ⟨b, off + i * 4 + 1, none⟩ = some (.int .u64 ((x.n : Nat) : Int)) ∧ Hp.cell R ⟨b, off + i * 4 + 2, none⟩ = some (.string (str x.s)) ∧
    ∃ qq cc, Hp.cell R ⟨b, off + i * 4 + 3, none⟩ = some (.slice qq x.kids.length cc) ∧ RepL R x.kids qq cc ∧ x.s.length ≤ big := by
  obtain ⟨x0, hx0⟩ : ∃ x, l[0]? = some x := by cases l with | nil => exact absurd rfl hne | cons x l => exact ⟨x, rfl⟩
  obtain ⟨b, off, cs0, rfl, _⟩ := h.at hx0
  refine ⟨b, off, rfl, fun i x hx => ?_⟩
  obtain ⟨b', off', cs, he, hc4, hrep, hcell⟩ := h.at hx
  cases he
  obtain ⟨k, n, s, l2, q2, c2, rfl, rfl, hs, hl2⟩ := hrep.inv
  exact ⟨hcell 0 _ rfl, hcell 1 _ rfl, hcell 2 _ rfl, q2, c2, hcell 3 _ rfl, hl2, hs⟩
/-! ### kinds -/
def kindsV (ws : List Int) : List Value := ws.map fun k => .int .i64 k
theorem kinds1_q {R : Hp} (x : Nd) (cs : List Value) (h : RepN R x cs) (w : Int) : QTri Try.prog 47 [.agg ⟨cs⟩, .int .i64 w] R [] (.bool (decide (x.kind = w))) := by
  refine Tri.q ?_
  obtain ⟨k, n, s, l2, q2, c2, rfl, rfl, hs, hl2⟩ := h.inv
  refine tri_of Try.func47 rfl Try.ntmps47 rfl (fun σ F Q hret hend hpan => ?_)
  try simp only [List.cons_append, List.nil_append]
  refine cj_env (Env.le_cons (t := 0) rfl (Env.le_cons (t := 1) rfl (Env.le_nil _))) ?_
  refine cj_seq (fun K1 hK1 => ?_)
  refine cj_region ?_
  refine rj_box (wn0 rfl) rfl rfl rfl (fun b2 => ?_)
  refine rj_val (wn0 rfl) rfl rfl (y_assign rfl) ?_
  refine rj_nil ?_
  refine hK1 _ _ _ ?_
  refine cj_seq (fun K2 hK2 => ?_)
  refine cj_region ?_
  refine rj_val (wn0 rfl) rfl rfl (y_fieldAddr (k := 0) Try.underlying72 rfl (n := 1) (by decide) Try.sizeOf3 rfl) ?_
  first | refine rj_val (wn0 rfl) rfl rfl (y_load ⟨Try.isAgg3, Try.sizeOf3⟩ rfl (by ((repeat (first | exact Find.head _ | apply Find.tail)); done)) rfl) ?_ | refine rj_val (wn0 rfl) rfl rfl (y_load_slc ⟨Try.isAgg3, Try.sizeOf3⟩ rfl (by ((repeat (first | exact Find.head _ | apply Find.tail)); done)) rfl) ?_
  refine rj_val (wn0 rfl) rfl rfl (y_move rfl) ?_
  refine rj_val (wn0 rfl) rfl rfl (y_eql rfl rfl) ?_
  refine rj_val (wn0 rfl) rfl rfl (y_assign rfl) ?_
  refine rj_nil ?_
  refine hK2 _ _ _ ?_
  refine cj_env (Env.le_cons (t := 4) rfl (Env.le_nil _)) ?_
  refine cj_ret ?_
  refine hret _ _ _ ?_
  apply ej_ret Try.results47 (.cons (rv_tmp rfl) .nil) _ [] (by (first | exact Hp.le_refl _ | assumption | exact Hp.le_trans ‹_› ‹_›)) rfl
  case hp => exact ⟨rfl, rfl, rfl⟩
  case hS => (repeat (first | exact Sub.refl _ | (apply Sub.pick; focus (repeat (first | exact Find.head _ | apply Find.tail))) | apply Sub.drop | exact Sub.tailApp _ _))
theorem eqKinds_q {R : Hp} (l : List Nd) (q : Option Addr) (cap : Nat) (hl : RepL R l q cap) (vi : Value) (ws : List Int) (hw : ws.length ≤ 1000) :
    QTri Try.prog 46 [.slice q l.length cap, vi, .func (.func 47) ⟨[]⟩ ⟨[]⟩] R [slc 3 1 vi ws.length (kindsV ws)] (.bool (decide (l.map Nd.kind = ws))) := by
  refine Tri.q ?_
  have hlb : l.length ≤ 1000000000000 := hl.choose_spec.1
  refine tri_of Try.func46 rfl Try.ntmps46 rfl (fun σ F Q hret hend hpan => ?_)
  try simp only [List.cons_append, List.nil_append]
  refine cj_env (Env.le_cons (t := 0) rfl (Env.le_cons (t := 1) rfl (Env.le_cons (t := 2) rfl (Env.le_nil _)))) ?_
  refine cj_seq (fun K1 hK1 => ?_)
  refine cj_region ?_
  refine rj_val (wn0 rfl) rfl rfl (y_assign rfl) ?_
  refine rj_nil ?_
  refine hK1 _ _ _ ?_
  refine cj_seq (fun K2 hK2 => ?_)
  refine cj_seq (fun K3 hK3 => ?_)
  refine cj_region ?_
  refine rj_val (wn0 rfl) rfl rfl (y_move rfl) ?_
  first | refine rj_val (wn0 rfl) rfl rfl (y_len_sl Try.underlying70 rfl) ?_ | refine rj_val (wn0 rfl) rfl rfl (y_len_slc Try.underlying70 rfl (by ((repeat (first | exact Find.head _ | apply Find.tail)); done))) ?_
  refine rj_val (wn0 rfl) rfl rfl (y_move rfl) ?_
  first | refine rj_val (wn0 rfl) rfl rfl (y_len_sl Try.underlying52 rfl) ?_ | refine rj_val (wn0 rfl) rfl rfl (y_len_slc Try.underlying52 rfl (by ((repeat (first | exact Find.head _ | apply Find.tail)); done))) ?_
  refine rj_val (wn0 rfl) rfl rfl (y_neq rfl rfl) ?_
  refine rj_nil ?_
  refine hK3 _ _ _ ?_
  refine cj_env (Env.le_cons (t := 0) rfl (Env.le_cons (t := 1) rfl (Env.le_cons (t := 2) rfl (Env.le_cons (t := 14) rfl (Env.le_nil _))))) ?_
  refine cj_cond rfl (fun hc14 => ?_) (fun hc14 => ?_)
  · try simp only [decide_eq_true_eq, decide_eq_false_iff_not, Bool.not_eq_true', Bool.not_eq_false', Bool.true_eq_false, Bool.false_eq_true] at hc14
    refine cj_seq (fun K5 hK5 => ?_)
    refine cj_region ?_
    refine rj_val (wn0 rfl) rfl rfl (y_assign rfl) ?_
    refine rj_nil ?_
    refine hK5 _ _ _ ?_
    refine cj_env (Env.le_cons (t := 6) rfl (Env.le_nil _)) ?_
    refine cj_ret ?_
    refine hret _ _ _ ?_
    apply ej_ret Try.results46 (.cons (rv_tmp rfl) .nil) _ [slc 3 1 vi ws.length (kindsV ws)] (by (first | exact Hp.le_refl _ | assumption | exact Hp.le_trans ‹_› ‹_›)) rfl
    case hp => refine ⟨?_, rfl, rfl⟩; rw [decide_eq_false (fun h => by have := congrArg List.length h; simp at this hc14; omega)]; rfl
    case hS => (repeat (first | exact Sub.refl _ | (apply Sub.pick; focus (repeat (first | exact Find.head _ | apply Find.tail))) | apply Sub.drop | exact Sub.tailApp _ _))
  · (try simp only [decide_eq_true_eq, decide_eq_false_iff_not, Bool.not_eq_true', Bool.not_eq_false', Bool.true_eq_false, Bool.false_eq_true] at hc14); have hlen : l.length = ws.length := by (try simp at hc14); omega
    refine cj_skip ?_
    refine hK2 _ _ _ ?_
    refine cj_seq (fun K6 hK6 => ?_)
    refine cj_seq (fun K7 hK7 => ?_)
    refine cj_region ?_
    refine rj_val (wn0 rfl) rfl rfl (y_move rfl) ?_
    first | refine rj_val (wn0 rfl) rfl rfl (y_len_sl Try.underlying70 rfl) ?_ | refine rj_val (wn0 rfl) rfl rfl (y_len_slc Try.underlying70 rfl (by ((repeat (first | exact Find.head _ | apply Find.tail)); done))) ?_
    refine rj_val (wn0 rfl) rfl rfl (y_move rfl) ?_
    refine rj_nil ?_
    refine hK7 _ _ _ ?_
    refine cj_block ?_
    refine cj_env (E' := (fun (x : Nat) => [(1, vi), (2, .func (.func 47) ⟨[]⟩ ⟨[]⟩), (15, .slice q l.length cap), (16, .int .i64 (l.length : Int)), (17, .int .i64 (x : Int))]) 0) (Env.le_cons rfl (Env.le_cons rfl (Env.le_cons rfl (Env.le_cons rfl (Env.le_cons rfl (Env.le_nil _)))))) ?_
    refine cj_sub (M := (fun (x : Nat) => slc 3 1 vi ws.length (kindsV ws) :: F) 0) (by (repeat (first | exact Sub.refl _ | (apply Sub.pick; focus (repeat (first | exact Find.head _ | apply Find.tail))) | apply Sub.drop | exact Sub.tailApp _ _))) ?_
    refine cj_loop (fun (x : Nat) => [(1, vi), (2, .func (.func 47) ⟨[]⟩ ⟨[]⟩), (15, .slice q l.length cap), (16, .int .i64 (l.length : Int)), (17, .int .i64 (x : Int))]) (fun (x : Nat) => R) (fun (x : Nat) => slc 3 1 vi ws.length (kindsV ws) :: F) (fun (x : Nat) => x ≤ l.length ∧ (l.take x).map Nd.kind = ws.take x) (fun (x : Nat) => l.length - x) 0 (⟨by simp, by simp⟩) ?_
    rintro i ⟨hi, hall⟩
    try dsimp only
    refine cj_seq (fun K8 hK8 => ?_)
    refine cj_region ?_
    refine rj_val (wn0 rfl) rfl rfl (y_lss rfl rfl) ?_
    refine rj_nil ?_
    refine hK8 _ _ _ ?_
    refine cj_seq (fun K9 hK9 => ?_)
    refine cj_cond rfl (fun hc18 => ?_) (fun hc18 => ?_)
    · try simp only [decide_eq_true_eq, decide_eq_false_iff_not, Bool.not_eq_true', Bool.not_eq_false', Bool.true_eq_false, Bool.false_eq_true] at hc18
      refine cj_skip ?_
      refine hK9 _ _ _ ?_
      refine cj_seq (fun K11 hK11 => ?_)
      refine cj_block ?_
      refine cj_seq (fun K12 hK12 => ?_)
      refine cj_region ?_
      obtain ⟨x, hx⟩ : ∃ x, l[i]? = some x := ⟨l[i]'(by omega), by simp⟩
      obtain ⟨w, hwx⟩ : ∃ w, ws[i]? = some w := ⟨ws[i]'(by omega), by simp⟩
      obtain ⟨b, off, cs, rfl, hc4, hrep, hcell⟩ := hl.at hx
      obtain ⟨k1, n1, s1, l1, q1, cap1, he1, rfl, hs1, hl1⟩ := id hrep.inv
      refine rj_val (wn0 rfl) rfl rfl (y_move rfl) ?_
      first | refine rj_val (wn0 rfl) rfl rfl (y_indexAddr Try.underlying70 Try.sizeOf72 rfl rfl (by (first | omega | (dsimp only; omega) | (simp; done) | (simp; omega)))) ?_ | refine rj_val (wn0 rfl) rfl rfl (y_index_slc Try.underlying70 Try.sizeOf72 rfl rfl (by ((repeat (first | exact Find.head _ | apply Find.tail)); done)) (by (first | omega | (dsimp only; omega) | (simp; done) | (simp; omega)))) ?_
      refine rj_val (wn0 rfl) rfl rfl ((y_loads_ro ⟨Try.isAgg72, Try.sizeOf72⟩ hc4 rfl (fun j u hj => by simpa using hcell j u hj))) ?_
      refine rj_alloc (wn0 rfl) rfl Try.zeroValue72 rfl (fun b8 => ?_)
      refine rj_val (wn0 rfl) rfl rfl (y_assign rfl) ?_
      refine rj_stores ⟨Try.isAgg72, Try.sizeOf72⟩ rfl (wn0 rfl) rfl rfl (by (first | (simp [Value.oneCell']; done) | (intro u hu; simp only [List.mem_cons, List.not_mem_nil, or_false] at hu; rcases hu with rfl | rfl | rfl | rfl <;> first | rfl | assumption))) (by ((repeat (first | exact Find.head _ | apply Find.tail)); done)) (by (simp)) rfl ?_
      refine rj_nil ?_
      refine hK12 _ _ _ ?_
      refine cj_env (Env.le_cons (t := 1) rfl (Env.le_cons (t := 2) rfl (Env.le_cons (t := 7) rfl (Env.le_cons (t := 8) rfl (Env.le_cons (t := 15) rfl (Env.le_cons (t := 16) rfl (Env.le_cons (t := 17) rfl (Env.le_nil _)))))))) ?_
      refine cj_seq (fun K13 hK13 => ?_)
      refine cj_region ?_
      refine rj_val (wn0 rfl) rfl rfl (y_move rfl) ?_
      refine rj_val (wn0 rfl) rfl rfl (y_move rfl) ?_
      refine rj_val (wn0 rfl) rfl rfl ((y_index_slc (sz := 1) (n := ws.length) Try.underlying52 Try.sizeOf3 rfl rfl (by ((repeat (first | exact Find.head _ | apply Find.tail)); done)) (by omega))) ?_
      refine rj_val (wn0 rfl) rfl rfl ((y_load_slc ⟨Try.isAgg3, Try.sizeOf3⟩ rfl (by ((repeat (first | exact Find.head _ | apply Find.tail)); done)) (show nth (kindsV ws) ((i : Int).toNat * 1) = some (.int .i64 w) by rw [nth_eq, Int.toNat_natCast, Nat.mul_one, kindsV, List.getElem?_map, hwx]; rfl))) ?_
      refine rj_val (wn0 rfl) rfl rfl (y_assign rfl) ?_
      refine rj_nil ?_
      refine hK13 _ _ _ ?_
      refine cj_env (Env.le_cons (t := 1) rfl (Env.le_cons (t := 2) rfl (Env.le_cons (t := 8) rfl (Env.le_cons (t := 9) rfl (Env.le_cons (t := 15) rfl (Env.le_cons (t := 16) rfl (Env.le_cons (t := 17) rfl (Env.le_nil _)))))))) ?_
      refine cj_seq (fun K14 hK14 => ?_)
      refine cj_region ?_
      refine rj_val (wn0 rfl) rfl rfl (y_move rfl) ?_
      first | refine rj_val (wn0 rfl) rfl rfl (y_loads_blk ⟨Try.isAgg72, Try.sizeOf72⟩ rfl (by ((repeat (first | exact Find.head _ | apply Find.tail)); done)) rfl rfl) ?_ | refine rj_val (wn0 rfl) rfl rfl (y_loads_slc ⟨Try.isAgg72, Try.sizeOf72⟩ rfl (by ((repeat (first | exact Find.head _ | apply Find.tail)); done)) rfl rfl (by (first | omega | (dsimp only; omega) | (simp; done) | (simp; omega)))) ?_
      refine rj_val (wn0 rfl) rfl rfl (y_move rfl) ?_
      refine rj_val (wn0 rfl) rfl rfl (y_callv rfl Try.call47 rfl (kinds1_q x _ hrep w) (by (repeat (first | exact Split.nil _ | (apply Split.cons; focus (repeat (first | exact Find.head _ | apply Find.tail))))))) ?_
      refine rj_val (wn0 rfl) rfl rfl (y_not rfl) ?_
      refine rj_nil ?_
      refine hK14 _ _ _ ?_
      refine cj_env (Env.le_cons (t := 1) rfl (Env.le_cons (t := 2) rfl (Env.le_cons (t := 15) rfl (Env.le_cons (t := 16) rfl (Env.le_cons (t := 17) rfl (Env.le_cons (t := 30) rfl (Env.le_nil _))))))) ?_
      refine cj_cond rfl (fun hc30 => ?_) (fun hc30 => ?_)
      · try simp only [decide_eq_true_eq, decide_eq_false_iff_not, Bool.not_eq_true', Bool.not_eq_false', Bool.true_eq_false, Bool.false_eq_true] at hc30
        refine cj_seq (fun K16 hK16 => ?_)
        refine cj_region ?_
        refine rj_val (wn0 rfl) rfl rfl (y_assign rfl) ?_
        refine rj_nil ?_
        refine hK16 _ _ _ ?_
        refine cj_env (Env.le_cons (t := 6) rfl (Env.le_nil _)) ?_
        refine cj_ret ?_
        refine hret _ _ _ ?_
        apply ej_ret Try.results46 (.cons (rv_tmp rfl) .nil) _ [slc 3 1 vi ws.length (kindsV ws)] (by (first | exact Hp.le_refl _ | assumption | exact Hp.le_trans ‹_› ‹_›)) rfl
        case hp => refine ⟨?_, rfl, rfl⟩; rw [decide_eq_false (fun h => by have h2 := congrArg (fun z => z[i]?) h; simp only [List.getElem?_map, hx, hwx, Option.map_some, Option.some.injEq] at h2; exact hc30 h2)]; rfl
        case hS => (repeat (first | exact Sub.refl _ | (apply Sub.pick; focus (repeat (first | exact Find.head _ | apply Find.tail))) | apply Sub.drop | exact Sub.tailApp _ _))
      · try simp only [decide_eq_true_eq, decide_eq_false_iff_not, Bool.not_eq_true', Bool.not_eq_false', Bool.true_eq_false, Bool.false_eq_true] at hc30
        refine cj_skip ?_
        refine hK11 _ _ _ ?_
        refine cj_region ?_
        first | refine rj_val (wn0 rfl) rfl rfl (y_add64 rfl rfl (by (first | omega | (dsimp only; omega) | (simp; done) | (simp; omega)))) ?_ | refine rj_val (wn0 rfl) rfl rfl (y_add rfl rfl) ?_
        refine rj_val (wn0 rfl) rfl rfl (y_move rfl) ?_
        refine rj_nil ?_
        refine ej_on (q' := roundK _ _ _ _ _ _ _) rfl ?_
        refine ej_round (i + 1) (⟨by omega, by rw [List.take_add_one, List.take_add_one, hx, hwx, List.map_append, hall]; simp [hc30]⟩) (by omega) (Env.le_cons rfl (Env.le_cons rfl (Env.le_cons rfl (Env.le_cons rfl (Env.le_cons rfl (Env.le_nil _)))))) rfl (by (repeat (first | exact Sub.refl _ | (apply Sub.pick; focus (repeat (first | exact Find.head _ | apply Find.tail))) | apply Sub.drop | exact Sub.tailApp _ _)))
    · try simp only [decide_eq_true_eq, decide_eq_false_iff_not, Bool.not_eq_true', Bool.not_eq_false', Bool.true_eq_false, Bool.false_eq_true] at hc18
      refine cj_exit ?_
      refine hK6 _ _ _ ?_
      refine cj_env (Env.le_nil _) ?_
      refine cj_seq (fun K17 hK17 => ?_)
      refine cj_region ?_
      refine rj_val (wn0 rfl) rfl rfl (y_assign rfl) ?_
      refine rj_nil ?_
      refine hK17 _ _ _ ?_
      refine cj_ret ?_
      refine hret _ _ _ ?_
      apply ej_ret Try.results46 (.cons (rv_tmp rfl) .nil) _ [slc 3 1 vi ws.length (kindsV ws)] (by (first | exact Hp.le_refl _ | assumption | exact Hp.le_trans ‹_› ‹_›)) rfl
      case hp => refine ⟨?_, rfl, rfl⟩; rw [List.take_of_length_le (by (try simp at hc18); omega), List.take_of_length_le (by (try simp at hc18); omega)] at hall; rw [decide_eq_true hall]; rfl
      case hS => (repeat (first | exact Sub.refl _ | (apply Sub.pick; focus (repeat (first | exact Find.head _ | apply Find.tail))) | apply Sub.drop | exact Sub.tailApp _ _))
theorem kinds_q {R : Hp} (l : List Nd) (q : Option Addr) (cap : Nat) (hl : RepL R l q cap) (vi : Value) (ws : List Int) (hw : ws.length ≤ 1000) :
    QTri Try.prog 36 [.slice q l.length cap, vi] R [slc 3 1 vi ws.length (kindsV ws)] (.bool (decide (l.map Nd.kind = ws))) := by
  refine Tri.q ?_
  refine tri_of Try.func36 rfl Try.ntmps36 rfl (fun σ F Q hret hend hpan => ?_)
  try simp only [List.cons_append, List.nil_append]
  refine cj_env (Env.le_cons (t := 0) rfl (Env.le_cons (t := 1) rfl (Env.le_nil _))) ?_
  refine cj_seq (fun K1 hK1 => ?_)
  refine cj_region ?_
  refine rj_val (wn0 rfl) rfl rfl (y_assign rfl) ?_
  refine rj_nil ?_
  refine hK1 _ _ _ ?_
  refine cj_seq (fun K2 hK2 => ?_)
  refine cj_region ?_
  refine rj_val (wn0 rfl) rfl rfl (y_move rfl) ?_
  refine rj_val (wn0 rfl) rfl rfl (y_move rfl) ?_
  refine rj_val (wn0 rfl) rfl rfl (y_call Try.call46 rfl (eqKinds_q l q cap hl vi ws hw) (by (repeat (first | exact Split.nil _ | (apply Split.cons; focus (repeat (first | exact Find.head _ | apply Find.tail))))))) ?_
  refine rj_val (wn0 rfl) rfl rfl (y_assign rfl) ?_
  refine rj_nil ?_
  refine hK2 _ _ _ ?_
  refine cj_env (Env.le_cons (t := 4) rfl (Env.le_nil _)) ?_
  refine cj_ret ?_
  refine hret _ _ _ ?_
  apply ej_ret Try.results36 (.cons (rv_tmp rfl) .nil) _ [slc 3 1 vi ws.length (kindsV ws)] (by (first | exact Hp.le_refl _ | assumption | exact Hp.le_trans ‹_› ‹_›)) rfl
  case hp => exact ⟨rfl, rfl, rfl⟩
  case hS => (repeat (first | exact Sub.refl _ | (apply Sub.pick; focus (repeat (first | exact Find.head _ | apply Find.tail))) | apply Sub.drop | exact Sub.tailApp _ _))
/-! ### a node as a message -/
def entOf (x : Nd) : Option Ent := if x.kind = 2 ∧ x.kids.map Nd.kind = [0, 1] then some (((x.kids.getD 0 ndZero).n : Int), (x.kids.getD 1 ndZero).s) else none
def entsOf : List Nd → Option (List Ent)
  | [] => some []
  | x :: l => match entOf x, entsOf l with
    | some e, some es => some (e :: es)
    | _, _ => none
theorem entsOf_snoc : ∀ (l : List Nd) (x : Nd) (es : List Ent) (e : Ent), entsOf l = some es → entOf x = some e → entsOf (l ++ [x]) = some (es ++ [e])
  | [], x, es, e, h, hx => by simp [entsOf] at h ⊢; subst h; simp [hx]
  | y :: l, x, es, e, h, hx => by
    rw [List.cons_append, entsOf]
    rw [entsOf] at h
    cases hy : entOf y with
    | none => rw [hy] at h; cases h
    | some ey =>
      cases hl : entsOf l with
      | none => rw [hy, hl] at h; cases h
      | some el =>
        rw [hy, hl] at h
        simp at h; subst h
        rw [entsOf_snoc l x el e hl hx]
        rfl
theorem entsOf_none : ∀ (l : List Nd) (i : Nat) (x : Nd), l[i]? = some x → entOf x = none → entsOf l = none
  | [], i, x, h, _ => by simp at h
  | y :: l, 0, x, h, hx => by simp at h; subst h; simp [entsOf, hx]
  | y :: l, i + 1, x, h, hx => by
    rw [entsOf, entsOf_none l i x (by simpa using h) hx]
    cases entOf y <;> rfl
def kidN (x : Nd) (i : Nat) : Nd := x.kids.getD i ndZero
def tenK : List Int := [0, 0, 0, 0, 0, 0, 0, 0, 2, 1]
def wideN (x : Nd) : Bool := decide (2147483648 < (kidN x 0).n ∨ 2147483648 < (kidN x 1).n ∨ 2147483648 < (kidN x 2).n ∨ 1 < (kidN x 7).n)
def msgOfN (x : Nd) : Option Msg := if x.kind = 2 ∧ x.kids.map Nd.kind = tenK then
    if wideN x then none else match entsOf (kidN x 8).kids with
      | none => none
      | some es => some ⟨(kidN x 0).n, (kidN x 1).n - 1, (kidN x 2).n - 1, (kidN x 3).n, (kidN x 4).n, (kidN x 5).n, (kidN x 6).n, decide (((kidN x 7).n : Int) = 1), es, (kidN x 9).s⟩
  else none
noncomputable def readMsg (s : List UInt8) : Msg × Bool := if (readM s).2 then match msgOfN (readM s).1 with
    | some m => (m, true)
    | none => (Msg.zero, false)
  else (Msg.zero, false)
theorem ten_of {l : List Nd} (h : l.map Nd.kind = tenK) : ∃ a0 a1 a2 a3 a4 a5 a6 a7 a8 a9, l = [a0, a1, a2, a3, a4, a5, a6, a7, a8, a9] := by
  have hl : l.length = 10 := by have := congrArg List.length h; simpa [tenK] using this
  match l, hl with
  | [a0, a1, a2, a3, a4, a5, a6, a7, a8, a9], _ => exact ⟨_, _, _, _, _, _, _, _, _, _, rfl⟩
theorem two_of {l : List Nd} (h : l.map Nd.kind = [0, 1]) : ∃ a0 a1, l = [a0, a1] := by
  have hl : l.length = 2 := by have := congrArg List.length h; simpa using this
  match l, hl with
  | [a0, a1], _ => exact ⟨_, _, rfl⟩
theorem readNet_t {R : Hp} (s : List UInt8) (hs : s.length ≤ big) : Tri Try.prog 22 [.string (str s)] R []
    (fun r R' L' => L' = [] ∧ ∃ ve, r = .tuple #[.agg ⟨msgC (readMsg s).1 ve⟩, .bool (readMsg s).2] ∧ FrX entE R' (readMsg s).1.es ve) := by
  refine tri_of Try.func22 rfl Try.ntmps22 rfl (fun σ F Q hret hend hpan => ?_)
  try simp only [List.cons_append, List.nil_append]
  refine cj_env (Env.le_cons (t := 0) rfl (Env.le_nil _)) ?_
  refine cj_seq (fun K1 hK1 => ?_)
  refine cj_region ?_
  refine rj_alloc (wn0 rfl) rfl Try.zeroValue32 rfl (fun b2 => ?_)
  refine rj_val (wn0 rfl) rfl rfl (y_assign rfl) ?_
  refine rj_nil ?_
  refine hK1 _ _ _ ?_
  refine cj_seq (fun K2 hK2 => ?_)
  refine cj_region ?_
  refine rj_val (wn0 rfl) rfl rfl (y_move rfl) ?_
  refine rj_call (wn0 rfl) rfl Try.call35 rfl (read_t s hs) (by (repeat (first | exact Split.nil _ | (apply Split.cons; focus (repeat (first | exact Find.head _ | apply Find.tail)))))) (fun _ _ _ _ h => h.elim) ?_
  rintro r R1 L' hR1 ⟨cx, rfl, hx, rfl⟩
  obtain ⟨x, hxe⟩ : ∃ x, x = (readM s).1 := ⟨_, rfl⟩
  obtain ⟨ok, hok⟩ : ∃ ok, ok = (readM s).2 := ⟨_, rfl⟩
  rw [← hxe] at hx
  rw [← hok]
  obtain ⟨k1, n1, st1, l, q, cap, rfl, rfl, hs1, hl⟩ := id hx.inv
  have hno : ok = false → readMsg s = (Msg.zero, false) := fun h => by unfold readMsg; rw [← hok, h]; rfl
  have hyes : ok = true → readMsg s = match msgOfN (.mk k1 n1 st1 l) with | some m => (m, true) | none => (Msg.zero, false) := fun h => by unfold readMsg; rw [← hok, h, ← hxe]; rfl
  try simp only [List.cons_append, List.nil_append]
  refine rj_val (wn0 rfl) rfl rfl (y_move rfl) ?_
  refine rj_val (wn0 rfl) rfl rfl (y_extract rfl rfl) ?_
  refine rj_val (wn0 rfl) rfl rfl (y_extract rfl rfl) ?_
  refine rj_alloc (wn0 rfl) rfl Try.zeroValue72 rfl (fun b4 => ?_)
  refine rj_stores ⟨Try.isAgg72, Try.sizeOf72⟩ rfl (wn0 rfl) rfl rfl (by (first | (simp [Value.oneCell']; done) | (intro u hu; simp only [List.mem_cons, List.not_mem_nil, or_false] at hu; rcases hu with rfl | rfl | rfl | rfl <;> first | rfl | assumption))) (by ((repeat (first | exact Find.head _ | apply Find.tail)); done)) (by (simp)) rfl ?_
  refine rj_val (wn0 rfl) rfl rfl (y_assign rfl) ?_
  refine rj_nil ?_
  refine hK2 _ _ _ ?_
  refine cj_env (Env.le_cons (t := 2) rfl (Env.le_cons (t := 4) rfl (Env.le_cons (t := 5) rfl (Env.le_nil _)))) ?_
  refine cj_seq (fun K3 hK3 => ?_)
  refine cj_region ?_
  refine rj_val (wn0 rfl) rfl rfl (y_fieldAddr (k := 3) Try.underlying72 rfl (n := 1) (by decide) Try.sizeOf70 rfl) ?_
  first | refine rj_val (wn0 rfl) rfl rfl (y_load ⟨Try.isAgg70, Try.sizeOf70⟩ rfl (by ((repeat (first | exact Find.head _ | apply Find.tail)); done)) rfl) ?_ | refine rj_val (wn0 rfl) rfl rfl (y_load_slc ⟨Try.isAgg70, Try.sizeOf70⟩ rfl (by ((repeat (first | exact Find.head _ | apply Find.tail)); done)) rfl) ?_
  refine rj_val (wn0 rfl) rfl rfl (y_assign rfl) ?_
  refine rj_nil ?_
  refine hK3 _ _ _ ?_
  refine cj_seq (fun K4 hK4 => ?_)
  refine cj_seq (fun K5 hK5 => ?_)
  refine cj_region ?_
  refine rj_val (wn0 rfl) rfl rfl (y_move rfl) ?_
  refine rj_val (wn0 rfl) rfl rfl (y_not rfl) ?_
  refine rj_val (wn0 rfl) rfl rfl (y_move rfl) ?_
  refine rj_part 19 rfl (fun hg19 => ?_) (fun hg19 => ?_)
  · try simp only [decide_eq_true_eq, decide_eq_false_iff_not, Bool.not_eq_true', Bool.not_eq_false', Bool.true_eq_false, Bool.false_eq_true] at hg19
    refine rj_skip (wn2 rfl rfl rfl rfl rfl) rfl rfl ?_
    refine rj_skip (wn2 rfl rfl rfl rfl rfl) rfl rfl ?_
    refine rj_skip (wn2 rfl rfl rfl rfl rfl) rfl rfl ?_
    refine rj_val (wn0 rfl) rfl rfl (y_pick_t rfl rfl) ?_
    refine rj_val (wn0 rfl) rfl rfl (y_move rfl) ?_
    refine rj_skip (wn2 rfl rfl rfl rfl rfl) rfl rfl ?_
    refine rj_skip (wn2 rfl rfl rfl rfl rfl) rfl rfl ?_
    refine rj_skip (wn2 rfl rfl rfl rfl rfl) rfl rfl ?_
    refine rj_skip (wn2 rfl rfl rfl rfl rfl) rfl rfl ?_
    refine rj_val (wn0 rfl) rfl rfl (y_pick_t rfl rfl) ?_
    refine rj_nil ?_
    refine hK5 _ _ _ ?_
    refine cj_env (Env.le_cons (t := 2) rfl (Env.le_cons (t := 6) rfl (Env.le_cons (t := 29) rfl (Env.le_nil _)))) ?_
    refine cj_cond_t rfl ?_
    refine cj_seq (fun K6 hK6 => ?_)
    refine cj_region ?_
    refine rj_val (wn0 rfl) rfl rfl (y_build (cells := [_, _, _, _, _, _, _, _, _, _]) [(0, 1), (1, 1), (2, 1), (3, 1), (4, 1), (5, 1), (6, 1), (7, 1), (8, 1), (9, 1)] Try.underlying32 Try.zeroValue32 (fun _ => rfl) rfl rfl) ?_
    refine rj_stores ⟨Try.isAgg32, Try.sizeOf32⟩ rfl (wn0 rfl) rfl rfl (by (first | (simp [Value.oneCell']; done) | (intro u hu; simp only [List.mem_cons, List.not_mem_nil, or_false] at hu; rcases hu with rfl | rfl | rfl | rfl <;> first | rfl | assumption))) (by ((repeat (first | exact Find.head _ | apply Find.tail)); done)) (by (simp)) rfl ?_
    refine rj_val (wn0 rfl) rfl rfl (y_assign rfl) ?_
    refine rj_nil ?_
    refine hK6 _ _ _ ?_
    refine cj_env (Env.le_cons (t := 2) rfl (Env.le_cons (t := 3) rfl (Env.le_nil _))) ?_
    refine cj_ret ?_
    refine hret _ _ _ ?_
    apply ej_ret Try.results22 (.cons (rv_cells ⟨Try.isAgg32, Try.sizeOf32⟩ rfl (by ((repeat (first | exact Find.head _ | apply Find.tail)); done)) rfl rfl) (.cons (rv_tmp rfl) .nil)) _ [] (by first | assumption | exact Hp.le_trans hR1 hR3) rfl
    case hp => refine ⟨rfl, .slice none 0 0, ?_, ?_⟩ <;> first | (rw [hno (by simpa using hg19)]; exact rfl) | (rw [hno (by simpa using hg19)]; exact FrX.nil) | (rw [hyes (by simpa using hg19), show msgOfN (.mk k1 n1 st1 l) = none from if_neg (fun h => by simp_all [Nd.kind, Nd.kids])]; exact rfl) | (rw [hyes (by simpa using hg19), show msgOfN (.mk k1 n1 st1 l) = none from if_neg (fun h => by simp_all [Nd.kind, Nd.kids])]; exact FrX.nil)
    case hS => (repeat (first | exact Sub.refl _ | (apply Sub.pick; focus (repeat (first | exact Find.head _ | apply Find.tail))) | apply Sub.drop | exact Sub.tailApp _ _))
  · try simp only [decide_eq_true_eq, decide_eq_false_iff_not, Bool.not_eq_true', Bool.not_eq_false', Bool.true_eq_false, Bool.false_eq_true] at hg19
    refine rj_val (wn1 rfl rfl rfl rfl) rfl rfl (y_fieldAddr (k := 0) Try.underlying72 rfl (n := 1) (by decide) Try.sizeOf3 rfl) ?_
    first | refine rj_val (wn1 rfl rfl rfl rfl) rfl rfl (y_load ⟨Try.isAgg3, Try.sizeOf3⟩ rfl (by ((repeat (first | exact Find.head _ | apply Find.tail)); done)) rfl) ?_ | refine rj_val (wn1 rfl rfl rfl rfl) rfl rfl (y_load_slc ⟨Try.isAgg3, Try.sizeOf3⟩ rfl (by ((repeat (first | exact Find.head _ | apply Find.tail)); done)) rfl) ?_
    refine rj_val (wn1 rfl rfl rfl rfl) rfl rfl (y_neq rfl rfl) ?_
    refine rj_val (wn0 rfl) rfl rfl (y_pick_f rfl rfl) ?_
    refine rj_val (wn0 rfl) rfl rfl (y_move rfl) ?_
    refine rj_part 24 rfl (fun hg24 => ?_) (fun hg24 => ?_)
    · try simp only [decide_eq_true_eq, decide_eq_false_iff_not, Bool.not_eq_true', Bool.not_eq_false', Bool.true_eq_false, Bool.false_eq_true] at hg24
      refine rj_skip (wn2 rfl rfl rfl rfl rfl) rfl rfl ?_
      refine rj_skip (wn2 rfl rfl rfl rfl rfl) rfl rfl ?_
      refine rj_skip (wn2 rfl rfl rfl rfl rfl) rfl rfl ?_
      refine rj_skip (wn2 rfl rfl rfl rfl rfl) rfl rfl ?_
      refine rj_val (wn0 rfl) rfl rfl (y_pick_t rfl rfl) ?_
      refine rj_nil ?_
      refine hK5 _ _ _ ?_
      refine cj_env (Env.le_cons (t := 2) rfl (Env.le_cons (t := 6) rfl (Env.le_cons (t := 29) rfl (Env.le_nil _)))) ?_
      refine cj_cond_t rfl ?_
      refine cj_seq (fun K7 hK7 => ?_)
      refine cj_region ?_
      refine rj_val (wn0 rfl) rfl rfl (y_build (cells := [_, _, _, _, _, _, _, _, _, _]) [(0, 1), (1, 1), (2, 1), (3, 1), (4, 1), (5, 1), (6, 1), (7, 1), (8, 1), (9, 1)] Try.underlying32 Try.zeroValue32 (fun _ => rfl) rfl rfl) ?_
      refine rj_stores ⟨Try.isAgg32, Try.sizeOf32⟩ rfl (wn0 rfl) rfl rfl (by (first | (simp [Value.oneCell']; done) | (intro u hu; simp only [List.mem_cons, List.not_mem_nil, or_false] at hu; rcases hu with rfl | rfl | rfl | rfl <;> first | rfl | assumption))) (by ((repeat (first | exact Find.head _ | apply Find.tail)); done)) (by (simp)) rfl ?_
      refine rj_val (wn0 rfl) rfl rfl (y_assign rfl) ?_
      refine rj_nil ?_
      refine hK7 _ _ _ ?_
      refine cj_env (Env.le_cons (t := 2) rfl (Env.le_cons (t := 3) rfl (Env.le_nil _))) ?_
      refine cj_ret ?_
      refine hret _ _ _ ?_
      apply ej_ret Try.results22 (.cons (rv_cells ⟨Try.isAgg32, Try.sizeOf32⟩ rfl (by ((repeat (first | exact Find.head _ | apply Find.tail)); done)) rfl rfl) (.cons (rv_tmp rfl) .nil)) _ [] (by first | assumption | exact Hp.le_trans hR1 hR3) rfl
      case hp => refine ⟨rfl, .slice none 0 0, ?_, ?_⟩ <;> first | (rw [hno (by simpa using hg19)]; exact rfl) | (rw [hno (by simpa using hg19)]; exact FrX.nil) | (rw [hyes (by simpa using hg19), show msgOfN (.mk k1 n1 st1 l) = none from if_neg (fun h => by simp_all [Nd.kind, Nd.kids])]; exact rfl) | (rw [hyes (by simpa using hg19), show msgOfN (.mk k1 n1 st1 l) = none from if_neg (fun h => by simp_all [Nd.kind, Nd.kids])]; exact FrX.nil)
      case hS => (repeat (first | exact Sub.refl _ | (apply Sub.pick; focus (repeat (first | exact Find.head _ | apply Find.tail))) | apply Sub.drop | exact Sub.tailApp _ _))
    · try simp only [decide_eq_true_eq, decide_eq_false_iff_not, Bool.not_eq_true', Bool.not_eq_false', Bool.true_eq_false, Bool.false_eq_true] at hg24
      refine rj_val (wn1 rfl rfl rfl rfl) rfl rfl (y_move rfl) ?_
      refine rj_buildSlice (sz := 1) (wn1 rfl rfl rfl rfl) rfl Try.underlying52 Try.sizeOf3 Try.zeroValue3 rfl rfl rfl (by decide) (by decide) (fun bi => ?_)
      refine rj_val (wn1 rfl rfl rfl rfl) rfl rfl (y_call Try.call36 rfl (kinds_q l q cap hl _ tenK (by decide)) (by (repeat (first | exact Split.nil _ | (apply Split.cons; focus (repeat (first | exact Find.head _ | apply Find.tail))))))) ?_
      refine rj_val (wn1 rfl rfl rfl rfl) rfl rfl (y_not rfl) ?_
      refine rj_val (wn0 rfl) rfl rfl (y_pick_f rfl rfl) ?_
      refine rj_nil ?_
      refine hK5 _ _ _ ?_
      refine cj_env (Env.le_cons (t := 2) rfl (Env.le_cons (t := 6) rfl (Env.le_cons (t := 29) rfl (Env.le_nil _)))) ?_
      refine cj_cond rfl (fun hc29 => ?_) (fun hc29 => ?_)
      · try simp only [decide_eq_true_eq, decide_eq_false_iff_not, Bool.not_eq_true', Bool.not_eq_false', Bool.true_eq_false, Bool.false_eq_true] at hc29
        refine cj_seq (fun K9 hK9 => ?_)
        refine cj_region ?_
        refine rj_val (wn0 rfl) rfl rfl (y_build (cells := [_, _, _, _, _, _, _, _, _, _]) [(0, 1), (1, 1), (2, 1), (3, 1), (4, 1), (5, 1), (6, 1), (7, 1), (8, 1), (9, 1)] Try.underlying32 Try.zeroValue32 (fun _ => rfl) rfl rfl) ?_
        refine rj_stores ⟨Try.isAgg32, Try.sizeOf32⟩ rfl (wn0 rfl) rfl rfl (by (first | (simp [Value.oneCell']; done) | (intro u hu; simp only [List.mem_cons, List.not_mem_nil, or_false] at hu; rcases hu with rfl | rfl | rfl | rfl <;> first | rfl | assumption))) (by ((repeat (first | exact Find.head _ | apply Find.tail)); done)) (by (simp)) rfl ?_
        refine rj_val (wn0 rfl) rfl rfl (y_assign rfl) ?_
        refine rj_nil ?_
        refine hK9 _ _ _ ?_
        refine cj_env (Env.le_cons (t := 2) rfl (Env.le_cons (t := 3) rfl (Env.le_nil _))) ?_
        refine cj_ret ?_
        refine hret _ _ _ ?_
        apply ej_ret Try.results22 (.cons (rv_cells ⟨Try.isAgg32, Try.sizeOf32⟩ rfl (by ((repeat (first | exact Find.head _ | apply Find.tail)); done)) rfl rfl) (.cons (rv_tmp rfl) .nil)) _ [] (by first | assumption | exact Hp.le_trans hR1 hR3) rfl
        case hp => refine ⟨rfl, .slice none 0 0, ?_, ?_⟩ <;> first | (rw [hno (by simpa using hg19)]; exact rfl) | (rw [hno (by simpa using hg19)]; exact FrX.nil) | (rw [hyes (by simpa using hg19), show msgOfN (.mk k1 n1 st1 l) = none from if_neg (fun h => by simp_all [Nd.kind, Nd.kids])]; exact rfl) | (rw [hyes (by simpa using hg19), show msgOfN (.mk k1 n1 st1 l) = none from if_neg (fun h => by simp_all [Nd.kind, Nd.kids])]; exact FrX.nil)
        case hS => (repeat (first | exact Sub.refl _ | (apply Sub.pick; focus (repeat (first | exact Find.head _ | apply Find.tail))) | apply Sub.drop | exact Sub.tailApp _ _))
      · try simp only [decide_eq_true_eq, decide_eq_false_iff_not, Bool.not_eq_true', Bool.not_eq_false', Bool.true_eq_false, Bool.false_eq_true] at hc29
        refine cj_skip ?_
        refine hK4 _ _ _ ?_
        refine cj_seq (fun K10 hK10 => ?_)
        refine cj_seq (fun K11 hK11 => ?_)
        refine cj_region ?_
        have hok1 : ok = true := by simpa using hg19
        have hk2 : k1 = 2 := by simpa using hg24
        have hlk : l.map Nd.kind = tenK := by simpa using hc29
        obtain ⟨a0, a1, a2, a3, a4, a5, a6, a7, a8, a9, rfl⟩ := ten_of hlk
        obtain ⟨b, off, rfl, hrow⟩ := hl.row (by simp)
        have hyes2 := hyes hok1
        have hmo : msgOfN (.mk k1 n1 st1 [a0, a1, a2, a3, a4, a5, a6, a7, a8, a9]) = if decide (2147483648 < a0.n ∨ 2147483648 < a1.n ∨ 2147483648 < a2.n ∨ 1 < a7.n) then none else match entsOf a8.kids with | none => none | some es => some ⟨a0.n, a1.n - 1, a2.n - 1, a3.n, a4.n, a5.n, a6.n, decide ((a7.n : Int) = 1), es, a9.s⟩ := by unfold msgOfN; rw [if_pos ⟨hk2, hlk⟩]; rfl
        obtain ⟨q8, c8, hcell8, hl8, _⟩ := (hrow 8 a8 rfl).2.2.2
        have hwide : (2147483648 < a0.n ∨ 2147483648 < a1.n ∨ 2147483648 < a2.n ∨ 1 < a7.n) → readMsg s = (Msg.zero, false) := fun h => by rw [hyes2, hmo, if_pos (decide_eq_true h)]
        refine rj_val (wn0 rfl) rfl rfl (y_move rfl) ?_
        first | refine rj_val (wn0 rfl) rfl rfl (y_indexAddr Try.underlying70 Try.sizeOf72 rfl rfl (by (first | omega | (dsimp only; omega) | (simp; done) | (simp; omega)))) ?_ | refine rj_val (wn0 rfl) rfl rfl (y_index_slc Try.underlying70 Try.sizeOf72 rfl rfl (by ((repeat (first | exact Find.head _ | apply Find.tail)); done)) (by (first | omega | (dsimp only; omega) | (simp; done) | (simp; omega)))) ?_
        refine rj_val (wn0 rfl) rfl rfl (y_fieldAddr (k := 1) Try.underlying72 rfl (n := 1) (by decide) Try.sizeOf27 rfl) ?_
        refine rj_val (wn0 rfl) rfl rfl ((y_load_ro ⟨Try.isAgg27, Try.sizeOf27⟩ rfl (hrow 0 a0 rfl).2.1)) ?_
        refine rj_val (wn0 rfl) rfl rfl (y_gtr rfl rfl) ?_
        refine rj_val (wn0 rfl) rfl rfl (y_move rfl) ?_
        refine rj_part 36 rfl (fun hg36 => ?_) (fun hg36 => ?_)
        · try simp only [decide_eq_true_eq, decide_eq_false_iff_not, Bool.not_eq_true', Bool.not_eq_false', Bool.true_eq_false, Bool.false_eq_true] at hg36
          refine rj_skip (wn2 rfl rfl rfl rfl rfl) rfl rfl ?_
          refine rj_skip (wn2 rfl rfl rfl rfl rfl) rfl rfl ?_
          refine rj_skip (wn2 rfl rfl rfl rfl rfl) rfl rfl ?_
          refine rj_skip (wn2 rfl rfl rfl rfl rfl) rfl rfl ?_
          refine rj_skip (wn2 rfl rfl rfl rfl rfl) rfl rfl ?_
          refine rj_val (wn0 rfl) rfl rfl (y_pick_t rfl rfl) ?_
          refine rj_val (wn0 rfl) rfl rfl (y_move rfl) ?_
          refine rj_skip (wn2 rfl rfl rfl rfl rfl) rfl rfl ?_
          refine rj_skip (wn2 rfl rfl rfl rfl rfl) rfl rfl ?_
          refine rj_skip (wn2 rfl rfl rfl rfl rfl) rfl rfl ?_
          refine rj_skip (wn2 rfl rfl rfl rfl rfl) rfl rfl ?_
          refine rj_skip (wn2 rfl rfl rfl rfl rfl) rfl rfl ?_
          refine rj_val (wn0 rfl) rfl rfl (y_pick_t rfl rfl) ?_
          refine rj_val (wn0 rfl) rfl rfl (y_move rfl) ?_
          refine rj_skip (wn2 rfl rfl rfl rfl rfl) rfl rfl ?_
          refine rj_skip (wn2 rfl rfl rfl rfl rfl) rfl rfl ?_
          refine rj_skip (wn2 rfl rfl rfl rfl rfl) rfl rfl ?_
          refine rj_skip (wn2 rfl rfl rfl rfl rfl) rfl rfl ?_
          refine rj_skip (wn2 rfl rfl rfl rfl rfl) rfl rfl ?_
          refine rj_val (wn0 rfl) rfl rfl (y_pick_t rfl rfl) ?_
          refine rj_nil ?_
          refine hK11 _ _ _ ?_
          refine cj_env (Env.le_cons (t := 2) rfl (Env.le_cons (t := 6) rfl (Env.le_cons (t := 56) rfl (Env.le_nil _)))) ?_
          refine cj_cond_t rfl ?_
          refine cj_seq (fun K12 hK12 => ?_)
          refine cj_region ?_
          refine rj_val (wn0 rfl) rfl rfl (y_build (cells := [_, _, _, _, _, _, _, _, _, _]) [(0, 1), (1, 1), (2, 1), (3, 1), (4, 1), (5, 1), (6, 1), (7, 1), (8, 1), (9, 1)] Try.underlying32 Try.zeroValue32 (fun _ => rfl) rfl rfl) ?_
          refine rj_stores ⟨Try.isAgg32, Try.sizeOf32⟩ rfl (wn0 rfl) rfl rfl (by (first | (simp [Value.oneCell']; done) | (intro u hu; simp only [List.mem_cons, List.not_mem_nil, or_false] at hu; rcases hu with rfl | rfl | rfl | rfl <;> first | rfl | assumption))) (by ((repeat (first | exact Find.head _ | apply Find.tail)); done)) (by (simp)) rfl ?_
          refine rj_val (wn0 rfl) rfl rfl (y_assign rfl) ?_
          refine rj_nil ?_
          refine hK12 _ _ _ ?_
          refine cj_env (Env.le_cons (t := 2) rfl (Env.le_cons (t := 3) rfl (Env.le_nil _))) ?_
          refine cj_ret ?_
          refine hret _ _ _ ?_
          apply ej_ret Try.results22 (.cons (rv_cells ⟨Try.isAgg32, Try.sizeOf32⟩ rfl (by ((repeat (first | exact Find.head _ | apply Find.tail)); done)) rfl rfl) (.cons (rv_tmp rfl) .nil)) _ [] (by first | assumption | exact Hp.le_trans hR1 hR3) rfl
          case hp =>
            have hw := hwide (by (try simp at hg36); omega)
            rw [hw]; exact ⟨rfl, _, rfl, FrX.nil⟩
          case hS => (repeat (first | exact Sub.refl _ | (apply Sub.pick; focus (repeat (first | exact Find.head _ | apply Find.tail))) | apply Sub.drop | exact Sub.tailApp _ _))
        · try simp only [decide_eq_true_eq, decide_eq_false_iff_not, Bool.not_eq_true', Bool.not_eq_false', Bool.true_eq_false, Bool.false_eq_true] at hg36
          refine rj_val (wn1 rfl rfl rfl rfl) rfl rfl (y_move rfl) ?_
          first | refine rj_val (wn1 rfl rfl rfl rfl) rfl rfl (y_indexAddr Try.underlying70 Try.sizeOf72 rfl rfl (by (first | omega | (dsimp only; omega) | (simp; done) | (simp; omega)))) ?_ | refine rj_val (wn1 rfl rfl rfl rfl) rfl rfl (y_index_slc Try.underlying70 Try.sizeOf72 rfl rfl (by ((repeat (first | exact Find.head _ | apply Find.tail)); done)) (by (first | omega | (dsimp only; omega) | (simp; done) | (simp; omega)))) ?_
          refine rj_val (wn1 rfl rfl rfl rfl) rfl rfl (y_fieldAddr (k := 1) Try.underlying72 rfl (n := 1) (by decide) Try.sizeOf27 rfl) ?_
          refine rj_val (wn1 rfl rfl rfl rfl) rfl rfl (y_load_ro ⟨Try.isAgg27, Try.sizeOf27⟩ rfl (hrow 1 a1 rfl).2.1) ?_
          refine rj_val (wn1 rfl rfl rfl rfl) rfl rfl (y_gtr rfl rfl) ?_
          refine rj_val (wn0 rfl) rfl rfl (y_pick_f rfl rfl) ?_
          refine rj_val (wn0 rfl) rfl rfl (y_move rfl) ?_
          refine rj_part 43 rfl (fun hg43 => ?_) (fun hg43 => ?_)
          · try simp only [decide_eq_true_eq, decide_eq_false_iff_not, Bool.not_eq_true', Bool.not_eq_false', Bool.true_eq_false, Bool.false_eq_true] at hg43
            refine rj_skip (wn2 rfl rfl rfl rfl rfl) rfl rfl ?_
            refine rj_skip (wn2 rfl rfl rfl rfl rfl) rfl rfl ?_
            refine rj_skip (wn2 rfl rfl rfl rfl rfl) rfl rfl ?_
            refine rj_skip (wn2 rfl rfl rfl rfl rfl) rfl rfl ?_
            refine rj_skip (wn2 rfl rfl rfl rfl rfl) rfl rfl ?_
            refine rj_val (wn0 rfl) rfl rfl (y_pick_t rfl rfl) ?_
            refine rj_val (wn0 rfl) rfl rfl (y_move rfl) ?_
            refine rj_skip (wn2 rfl rfl rfl rfl rfl) rfl rfl ?_
            refine rj_skip (wn2 rfl rfl rfl rfl rfl) rfl rfl ?_
            refine rj_skip (wn2 rfl rfl rfl rfl rfl) rfl rfl ?_
            refine rj_skip (wn2 rfl rfl rfl rfl rfl) rfl rfl ?_
            refine rj_skip (wn2 rfl rfl rfl rfl rfl) rfl rfl ?_
            refine rj_val (wn0 rfl) rfl rfl (y_pick_t rfl rfl) ?_
            refine rj_nil ?_
            refine hK11 _ _ _ ?_
            refine cj_env (Env.le_cons (t := 2) rfl (Env.le_cons (t := 6) rfl (Env.le_cons (t := 56) rfl (Env.le_nil _)))) ?_
            refine cj_cond_t rfl ?_
            refine cj_seq (fun K13 hK13 => ?_)
            refine cj_region ?_
            refine rj_val (wn0 rfl) rfl rfl (y_build (cells := [_, _, _, _, _, _, _, _, _, _]) [(0, 1), (1, 1), (2, 1), (3, 1), (4, 1), (5, 1), (6, 1), (7, 1), (8, 1), (9, 1)] Try.underlying32 Try.zeroValue32 (fun _ => rfl) rfl rfl) ?_
            refine rj_stores ⟨Try.isAgg32, Try.sizeOf32⟩ rfl (wn0 rfl) rfl rfl (by (first | (simp [Value.oneCell']; done) | (intro u hu; simp only [List.mem_cons, List.not_mem_nil, or_false] at hu; rcases hu with rfl | rfl | rfl | rfl <;> first | rfl | assumption))) (by ((repeat (first | exact Find.head _ | apply Find.tail)); done)) (by (simp)) rfl ?_
            refine rj_val (wn0 rfl) rfl rfl (y_assign rfl) ?_
            refine rj_nil ?_
            refine hK13 _ _ _ ?_
            refine cj_env (Env.le_cons (t := 2) rfl (Env.le_cons (t := 3) rfl (Env.le_nil _))) ?_
            refine cj_ret ?_
            refine hret _ _ _ ?_
            apply ej_ret Try.results22 (.cons (rv_cells ⟨Try.isAgg32, Try.sizeOf32⟩ rfl (by ((repeat (first | exact Find.head _ | apply Find.tail)); done)) rfl rfl) (.cons (rv_tmp rfl) .nil)) _ [] (by first | assumption | exact Hp.le_trans hR1 hR3) rfl
            case hp =>
              have hw := hwide (by (try simp at hg36 hg43); omega)
              rw [hw]; exact ⟨rfl, _, rfl, FrX.nil⟩
            case hS => (repeat (first | exact Sub.refl _ | (apply Sub.pick; focus (repeat (first | exact Find.head _ | apply Find.tail))) | apply Sub.drop | exact Sub.tailApp _ _))
          · try simp only [decide_eq_true_eq, decide_eq_false_iff_not, Bool.not_eq_true', Bool.not_eq_false', Bool.true_eq_false, Bool.false_eq_true] at hg43
            refine rj_val (wn1 rfl rfl rfl rfl) rfl rfl (y_move rfl) ?_
            first | refine rj_val (wn1 rfl rfl rfl rfl) rfl rfl (y_indexAddr Try.underlying70 Try.sizeOf72 rfl rfl (by (first | omega | (dsimp only; omega) | (simp; done) | (simp; omega)))) ?_ | refine rj_val (wn1 rfl rfl rfl rfl) rfl rfl (y_index_slc Try.underlying70 Try.sizeOf72 rfl rfl (by ((repeat (first | exact Find.head _ | apply Find.tail)); done)) (by (first | omega | (dsimp only; omega) | (simp; done) | (simp; omega)))) ?_
            refine rj_val (wn1 rfl rfl rfl rfl) rfl rfl (y_fieldAddr (k := 1) Try.underlying72 rfl (n := 1) (by decide) Try.sizeOf27 rfl) ?_
            refine rj_val (wn1 rfl rfl rfl rfl) rfl rfl (y_load_ro ⟨Try.isAgg27, Try.sizeOf27⟩ rfl (hrow 2 a2 rfl).2.1) ?_
            refine rj_val (wn1 rfl rfl rfl rfl) rfl rfl (y_gtr rfl rfl) ?_
            refine rj_val (wn0 rfl) rfl rfl (y_pick_f rfl rfl) ?_
            refine rj_val (wn0 rfl) rfl rfl (y_move rfl) ?_
            refine rj_part 50 rfl (fun hg50 => ?_) (fun hg50 => ?_)
            · try simp only [decide_eq_true_eq, decide_eq_false_iff_not, Bool.not_eq_true', Bool.not_eq_false', Bool.true_eq_false, Bool.false_eq_true] at hg50
              refine rj_skip (wn2 rfl rfl rfl rfl rfl) rfl rfl ?_
              refine rj_skip (wn2 rfl rfl rfl rfl rfl) rfl rfl ?_
              refine rj_skip (wn2 rfl rfl rfl rfl rfl) rfl rfl ?_
              refine rj_skip (wn2 rfl rfl rfl rfl rfl) rfl rfl ?_
              refine rj_skip (wn2 rfl rfl rfl rfl rfl) rfl rfl ?_
              refine rj_val (wn0 rfl) rfl rfl (y_pick_t rfl rfl) ?_
              refine rj_nil ?_
              refine hK11 _ _ _ ?_
              refine cj_env (Env.le_cons (t := 2) rfl (Env.le_cons (t := 6) rfl (Env.le_cons (t := 56) rfl (Env.le_nil _)))) ?_
              refine cj_cond_t rfl ?_
              refine cj_seq (fun K14 hK14 => ?_)
              refine cj_region ?_
              refine rj_val (wn0 rfl) rfl rfl (y_build (cells := [_, _, _, _, _, _, _, _, _, _]) [(0, 1), (1, 1), (2, 1), (3, 1), (4, 1), (5, 1), (6, 1), (7, 1), (8, 1), (9, 1)] Try.underlying32 Try.zeroValue32 (fun _ => rfl) rfl rfl) ?_
              refine rj_stores ⟨Try.isAgg32, Try.sizeOf32⟩ rfl (wn0 rfl) rfl rfl (by (first | (simp [Value.oneCell']; done) | (intro u hu; simp only [List.mem_cons, List.not_mem_nil, or_false] at hu; rcases hu with rfl | rfl | rfl | rfl <;> first | rfl | assumption))) (by ((repeat (first | exact Find.head _ | apply Find.tail)); done)) (by (simp)) rfl ?_
              refine rj_val (wn0 rfl) rfl rfl (y_assign rfl) ?_
              refine rj_nil ?_
              refine hK14 _ _ _ ?_
              refine cj_env (Env.le_cons (t := 2) rfl (Env.le_cons (t := 3) rfl (Env.le_nil _))) ?_
              refine cj_ret ?_
              refine hret _ _ _ ?_
              apply ej_ret Try.results22 (.cons (rv_cells ⟨Try.isAgg32, Try.sizeOf32⟩ rfl (by ((repeat (first | exact Find.head _ | apply Find.tail)); done)) rfl rfl) (.cons (rv_tmp rfl) .nil)) _ [] (by first | assumption | exact Hp.le_trans hR1 hR3) rfl
              case hp =>
                have hw := hwide (by (try simp at hg36 hg43 hg50); omega)
                rw [hw]; exact ⟨rfl, _, rfl, FrX.nil⟩
              case hS => (repeat (first | exact Sub.refl _ | (apply Sub.pick; focus (repeat (first | exact Find.head _ | apply Find.tail))) | apply Sub.drop | exact Sub.tailApp _ _))
            · try simp only [decide_eq_true_eq, decide_eq_false_iff_not, Bool.not_eq_true', Bool.not_eq_false', Bool.true_eq_false, Bool.false_eq_true] at hg50
              refine rj_val (wn1 rfl rfl rfl rfl) rfl rfl (y_move rfl) ?_
              first | refine rj_val (wn1 rfl rfl rfl rfl) rfl rfl (y_indexAddr Try.underlying70 Try.sizeOf72 rfl rfl (by (first | omega | (dsimp only; omega) | (simp; done) | (simp; omega)))) ?_ | refine rj_val (wn1 rfl rfl rfl rfl) rfl rfl (y_index_slc Try.underlying70 Try.sizeOf72 rfl rfl (by ((repeat (first | exact Find.head _ | apply Find.tail)); done)) (by (first | omega | (dsimp only; omega) | (simp; done) | (simp; omega)))) ?_
              refine rj_val (wn1 rfl rfl rfl rfl) rfl rfl (y_fieldAddr (k := 1) Try.underlying72 rfl (n := 1) (by decide) Try.sizeOf27 rfl) ?_
              refine rj_val (wn1 rfl rfl rfl rfl) rfl rfl (y_load_ro ⟨Try.isAgg27, Try.sizeOf27⟩ rfl (hrow 7 a7 rfl).2.1) ?_
              refine rj_val (wn1 rfl rfl rfl rfl) rfl rfl (y_gtr rfl rfl) ?_
              refine rj_val (wn0 rfl) rfl rfl (y_pick_f rfl rfl) ?_
              refine rj_nil ?_
              refine hK11 _ _ _ ?_
              refine cj_env (Env.le_cons (t := 2) rfl (Env.le_cons (t := 6) rfl (Env.le_cons (t := 56) rfl (Env.le_nil _)))) ?_
              refine cj_cond rfl (fun hc56 => ?_) (fun hc56 => ?_)
              · try simp only [decide_eq_true_eq, decide_eq_false_iff_not, Bool.not_eq_true', Bool.not_eq_false', Bool.true_eq_false, Bool.false_eq_true] at hc56
                refine cj_seq (fun K16 hK16 => ?_)
                refine cj_region ?_
                refine rj_val (wn0 rfl) rfl rfl (y_build (cells := [_, _, _, _, _, _, _, _, _, _]) [(0, 1), (1, 1), (2, 1), (3, 1), (4, 1), (5, 1), (6, 1), (7, 1), (8, 1), (9, 1)] Try.underlying32 Try.zeroValue32 (fun _ => rfl) rfl rfl) ?_
                refine rj_stores ⟨Try.isAgg32, Try.sizeOf32⟩ rfl (wn0 rfl) rfl rfl (by (first | (simp [Value.oneCell']; done) | (intro u hu; simp only [List.mem_cons, List.not_mem_nil, or_false] at hu; rcases hu with rfl | rfl | rfl | rfl <;> first | rfl | assumption))) (by ((repeat (first | exact Find.head _ | apply Find.tail)); done)) (by (simp)) rfl ?_
                refine rj_val (wn0 rfl) rfl rfl (y_assign rfl) ?_
                refine rj_nil ?_
                refine hK16 _ _ _ ?_
                refine cj_env (Env.le_cons (t := 2) rfl (Env.le_cons (t := 3) rfl (Env.le_nil _))) ?_
                refine cj_ret ?_
                refine hret _ _ _ ?_
                apply ej_ret Try.results22 (.cons (rv_cells ⟨Try.isAgg32, Try.sizeOf32⟩ rfl (by ((repeat (first | exact Find.head _ | apply Find.tail)); done)) rfl rfl) (.cons (rv_tmp rfl) .nil)) _ [] (by first | assumption | exact Hp.le_trans hR1 hR3) rfl
                case hp =>
                  have hw := hwide (by (try simp at hg36 hg43 hg50 hc56); omega)
                  rw [hw]; exact ⟨rfl, _, rfl, FrX.nil⟩
                case hS => (repeat (first | exact Sub.refl _ | (apply Sub.pick; focus (repeat (first | exact Find.head _ | apply Find.tail))) | apply Sub.drop | exact Sub.tailApp _ _))
              · try simp only [decide_eq_true_eq, decide_eq_false_iff_not, Bool.not_eq_true', Bool.not_eq_false', Bool.true_eq_false, Bool.false_eq_true] at hc56
                refine cj_skip ?_
                refine hK10 _ _ _ ?_
                refine cj_seq (fun K17 hK17 => ?_)
                have hnw : ¬ (2147483648 < a0.n ∨ 2147483648 < a1.n ∨ 2147483648 < a2.n ∨ 1 < a7.n) := by (try simp at hg36 hg43 hg50 hc56); omega
                rw [if_neg (by simpa using hnw)] at hmo
                obtain ⟨w0, w1, w2, w7⟩ : a0.n ≤ 2147483648 ∧ a1.n ≤ 2147483648 ∧ a2.n ≤ 2147483648 ∧ a7.n ≤ 1 := by omega
                clear hnw hwide
                refine cj_mixg (L := []) [0, 1, 2, 3, 4, 5, 6, 7, 8, 9, 10, 11, 12, 13, 14, 15, 16, 17, 18, 19, 20, 21, 22, 23, 24, 25, 26, 27, 28, 29, 30, 31, 32, 33, 34, 35, 36, 37, 38, 39, 40, 41, 42] [43] [44] _ (by (repeat (first | exact Sub.refl _ | (apply Sub.pick; focus (repeat (first | exact Find.head _ | apply Find.tail))) | apply Sub.drop | exact Sub.tailApp _ _))) (by kernel_rfl) (by kernel_rfl) (by kernel_rfl) rfl ?_
                refine fj_val rfl rfl rfl (wn0 rfl) (fun R1 hR1 G => (y_move rfl)) ?_
                first | refine fj_val rfl rfl rfl (wn0 rfl) (fun R1 hR1 G => (y_indexAddr Try.underlying70 Try.sizeOf72 rfl rfl (by (first | omega | (dsimp only; omega) | (simp; done) | (simp; omega))))) ?_ | refine fj_val rfl rfl rfl (wn0 rfl) (fun R1 hR1 G => (y_index_slc Try.underlying70 Try.sizeOf72 rfl rfl (by ((repeat (first | exact Find.head _ | apply Find.tail)); done)) (by (first | omega | (dsimp only; omega) | (simp; done) | (simp; omega))))) ?_
                refine fj_val rfl rfl rfl (wn0 rfl) (fun R1 hR1 G => (y_fieldAddr (k := 1) Try.underlying72 rfl (n := 1) (by decide) Try.sizeOf27 rfl)) ?_
                refine fj_val rfl rfl rfl (wn0 rfl) (fun R1 hR1 G => (y_load_ro ⟨Try.isAgg27, Try.sizeOf27⟩ rfl (cell_mono hR1 (hrow 0 a0 rfl).2.1))) ?_
                first | refine fj_val rfl rfl rfl (wn0 rfl) (fun R1 hR1 G => (y_conv_in Try.underlying27 Try.underlying3 rfl (by (simp only [IntKind.min, IntKind.max, IntKind.signed, IntKind.bits, Bool.false_eq_true, ite_false, ite_true]; omega)))) ?_ | refine fj_val rfl rfl rfl (wn0 rfl) (fun R1 hR1 G => (y_conv Try.underlying27 Try.underlying3 rfl)) ?_
                refine fj_val rfl rfl rfl (wn0 rfl) (fun R1 hR1 G => (y_move rfl)) ?_
                first | refine fj_val rfl rfl rfl (wn0 rfl) (fun R1 hR1 G => (y_indexAddr Try.underlying70 Try.sizeOf72 rfl rfl (by (first | omega | (dsimp only; omega) | (simp; done) | (simp; omega))))) ?_ | refine fj_val rfl rfl rfl (wn0 rfl) (fun R1 hR1 G => (y_index_slc Try.underlying70 Try.sizeOf72 rfl rfl (by ((repeat (first | exact Find.head _ | apply Find.tail)); done)) (by (first | omega | (dsimp only; omega) | (simp; done) | (simp; omega))))) ?_
                refine fj_val rfl rfl rfl (wn0 rfl) (fun R1 hR1 G => (y_fieldAddr (k := 1) Try.underlying72 rfl (n := 1) (by decide) Try.sizeOf27 rfl)) ?_
                refine fj_val rfl rfl rfl (wn0 rfl) (fun R1 hR1 G => (y_load_ro ⟨Try.isAgg27, Try.sizeOf27⟩ rfl (cell_mono hR1 (hrow 1 a1 rfl).2.1))) ?_
                first | refine fj_val rfl rfl rfl (wn0 rfl) (fun R1 hR1 G => (y_conv_in Try.underlying27 Try.underlying3 rfl (by (simp only [IntKind.min, IntKind.max, IntKind.signed, IntKind.bits, Bool.false_eq_true, ite_false, ite_true]; omega)))) ?_ | refine fj_val rfl rfl rfl (wn0 rfl) (fun R1 hR1 G => (y_conv Try.underlying27 Try.underlying3 rfl)) ?_
                first | refine fj_val rfl rfl rfl (wn0 rfl) (fun R1 hR1 G => (y_sub64 rfl rfl (by (first | omega | (dsimp only; omega) | (simp; done) | (simp; omega))))) ?_ | refine fj_val rfl rfl rfl (wn0 rfl) (fun R1 hR1 G => (y_sub rfl rfl)) ?_
                refine fj_val rfl rfl rfl (wn0 rfl) (fun R1 hR1 G => (y_move rfl)) ?_
                first | refine fj_val rfl rfl rfl (wn0 rfl) (fun R1 hR1 G => (y_indexAddr Try.underlying70 Try.sizeOf72 rfl rfl (by (first | omega | (dsimp only; omega) | (simp; done) | (simp; omega))))) ?_ | refine fj_val rfl rfl rfl (wn0 rfl) (fun R1 hR1 G => (y_index_slc Try.underlying70 Try.sizeOf72 rfl rfl (by ((repeat (first | exact Find.head _ | apply Find.tail)); done)) (by (first | omega | (dsimp only; omega) | (simp; done) | (simp; omega))))) ?_
                refine fj_val rfl rfl rfl (wn0 rfl) (fun R1 hR1 G => (y_fieldAddr (k := 1) Try.underlying72 rfl (n := 1) (by decide) Try.sizeOf27 rfl)) ?_
                refine fj_val rfl rfl rfl (wn0 rfl) (fun R1 hR1 G => (y_load_ro ⟨Try.isAgg27, Try.sizeOf27⟩ rfl (cell_mono hR1 (hrow 2 a2 rfl).2.1))) ?_
                first | refine fj_val rfl rfl rfl (wn0 rfl) (fun R1 hR1 G => (y_conv_in Try.underlying27 Try.underlying3 rfl (by (simp only [IntKind.min, IntKind.max, IntKind.signed, IntKind.bits, Bool.false_eq_true, ite_false, ite_true]; omega)))) ?_ | refine fj_val rfl rfl rfl (wn0 rfl) (fun R1 hR1 G => (y_conv Try.underlying27 Try.underlying3 rfl)) ?_
                first | refine fj_val rfl rfl rfl (wn0 rfl) (fun R1 hR1 G => (y_sub64 rfl rfl (by (first | omega | (dsimp only; omega) | (simp; done) | (simp; omega))))) ?_ | refine fj_val rfl rfl rfl (wn0 rfl) (fun R1 hR1 G => (y_sub rfl rfl)) ?_
                refine fj_val rfl rfl rfl (wn0 rfl) (fun R1 hR1 G => (y_move rfl)) ?_
                first | refine fj_val rfl rfl rfl (wn0 rfl) (fun R1 hR1 G => (y_indexAddr Try.underlying70 Try.sizeOf72 rfl rfl (by (first | omega | (dsimp only; omega) | (simp; done) | (simp; omega))))) ?_ | refine fj_val rfl rfl rfl (wn0 rfl) (fun R1 hR1 G => (y_index_slc Try.underlying70 Try.sizeOf72 rfl rfl (by ((repeat (first | exact Find.head _ | apply Find.tail)); done)) (by (first | omega | (dsimp only; omega) | (simp; done) | (simp; omega))))) ?_
                refine fj_val rfl rfl rfl (wn0 rfl) (fun R1 hR1 G => (y_fieldAddr (k := 1) Try.underlying72 rfl (n := 1) (by decide) Try.sizeOf27 rfl)) ?_
                refine fj_val rfl rfl rfl (wn0 rfl) (fun R1 hR1 G => (y_load_ro ⟨Try.isAgg27, Try.sizeOf27⟩ rfl (cell_mono hR1 (hrow 3 a3 rfl).2.1))) ?_
                refine fj_val rfl rfl rfl (wn0 rfl) (fun R1 hR1 G => (y_move rfl)) ?_
                first | refine fj_val rfl rfl rfl (wn0 rfl) (fun R1 hR1 G => (y_indexAddr Try.underlying70 Try.sizeOf72 rfl rfl (by (first | omega | (dsimp only; omega) | (simp; done) | (simp; omega))))) ?_ | refine fj_val rfl rfl rfl (wn0 rfl) (fun R1 hR1 G => (y_index_slc Try.underlying70 Try.sizeOf72 rfl rfl (by ((repeat (first | exact Find.head _ | apply Find.tail)); done)) (by (first | omega | (dsimp only; omega) | (simp; done) | (simp; omega))))) ?_
                refine fj_val rfl rfl rfl (wn0 rfl) (fun R1 hR1 G => (y_fieldAddr (k := 1) Try.underlying72 rfl (n := 1) (by decide) Try.sizeOf27 rfl)) ?_
                refine fj_val rfl rfl rfl (wn0 rfl) (fun R1 hR1 G => (y_load_ro ⟨Try.isAgg27, Try.sizeOf27⟩ rfl (cell_mono hR1 (hrow 4 a4 rfl).2.1))) ?_
                refine fj_val rfl rfl rfl (wn0 rfl) (fun R1 hR1 G => (y_move rfl)) ?_
                first | refine fj_val rfl rfl rfl (wn0 rfl) (fun R1 hR1 G => (y_indexAddr Try.underlying70 Try.sizeOf72 rfl rfl (by (first | omega | (dsimp only; omega) | (simp; done) | (simp; omega))))) ?_ | refine fj_val rfl rfl rfl (wn0 rfl) (fun R1 hR1 G => (y_index_slc Try.underlying70 Try.sizeOf72 rfl rfl (by ((repeat (first | exact Find.head _ | apply Find.tail)); done)) (by (first | omega | (dsimp only; omega) | (simp; done) | (simp; omega))))) ?_
                refine fj_val rfl rfl rfl (wn0 rfl) (fun R1 hR1 G => (y_fieldAddr (k := 1) Try.underlying72 rfl (n := 1) (by decide) Try.sizeOf27 rfl)) ?_
                refine fj_val rfl rfl rfl (wn0 rfl) (fun R1 hR1 G => (y_load_ro ⟨Try.isAgg27, Try.sizeOf27⟩ rfl (cell_mono hR1 (hrow 5 a5 rfl).2.1))) ?_
                refine fj_val rfl rfl rfl (wn0 rfl) (fun R1 hR1 G => (y_move rfl)) ?_
                first | refine fj_val rfl rfl rfl (wn0 rfl) (fun R1 hR1 G => (y_indexAddr Try.underlying70 Try.sizeOf72 rfl rfl (by (first | omega | (dsimp only; omega) | (simp; done) | (simp; omega))))) ?_ | refine fj_val rfl rfl rfl (wn0 rfl) (fun R1 hR1 G => (y_index_slc Try.underlying70 Try.sizeOf72 rfl rfl (by ((repeat (first | exact Find.head _ | apply Find.tail)); done)) (by (first | omega | (dsimp only; omega) | (simp; done) | (simp; omega))))) ?_
                refine fj_val rfl rfl rfl (wn0 rfl) (fun R1 hR1 G => (y_fieldAddr (k := 1) Try.underlying72 rfl (n := 1) (by decide) Try.sizeOf27 rfl)) ?_
                refine fj_val rfl rfl rfl (wn0 rfl) (fun R1 hR1 G => (y_load_ro ⟨Try.isAgg27, Try.sizeOf27⟩ rfl (cell_mono hR1 (hrow 6 a6 rfl).2.1))) ?_
                refine fj_val rfl rfl rfl (wn0 rfl) (fun R1 hR1 G => (y_move rfl)) ?_
                first | refine fj_val rfl rfl rfl (wn0 rfl) (fun R1 hR1 G => (y_indexAddr Try.underlying70 Try.sizeOf72 rfl rfl (by (first | omega | (dsimp only; omega) | (simp; done) | (simp; omega))))) ?_ | refine fj_val rfl rfl rfl (wn0 rfl) (fun R1 hR1 G => (y_index_slc Try.underlying70 Try.sizeOf72 rfl rfl (by ((repeat (first | exact Find.head _ | apply Find.tail)); done)) (by (first | omega | (dsimp only; omega) | (simp; done) | (simp; omega))))) ?_
                refine fj_val rfl rfl rfl (wn0 rfl) (fun R1 hR1 G => (y_fieldAddr (k := 1) Try.underlying72 rfl (n := 1) (by decide) Try.sizeOf27 rfl)) ?_
                refine fj_val rfl rfl rfl (wn0 rfl) (fun R1 hR1 G => (y_load_ro ⟨Try.isAgg27, Try.sizeOf27⟩ rfl (cell_mono hR1 (hrow 7 a7 rfl).2.1))) ?_
                refine fj_val rfl rfl rfl (wn0 rfl) (fun R1 hR1 G => (y_eql rfl rfl)) ?_
                refine fj_val rfl rfl rfl (wn0 rfl) (fun R1 hR1 G => (y_move rfl)) ?_
                first | refine fj_val rfl rfl rfl (wn0 rfl) (fun R1 hR1 G => (y_indexAddr Try.underlying70 Try.sizeOf72 rfl rfl (by (first | omega | (dsimp only; omega) | (simp; done) | (simp; omega))))) ?_ | refine fj_val rfl rfl rfl (wn0 rfl) (fun R1 hR1 G => (y_index_slc Try.underlying70 Try.sizeOf72 rfl rfl (by ((repeat (first | exact Find.head _ | apply Find.tail)); done)) (by (first | omega | (dsimp only; omega) | (simp; done) | (simp; omega))))) ?_
                refine fj_val rfl rfl rfl (wn0 rfl) (fun R1 hR1 G => (y_fieldAddr (k := 2) Try.underlying72 rfl (n := 1) (by decide) Try.sizeOf9 rfl)) ?_
                refine fj_val rfl rfl rfl (wn0 rfl) (fun R1 hR1 G => (y_load_ro ⟨Try.isAgg9, Try.sizeOf9⟩ rfl (cell_mono hR1 (hrow 9 a9 rfl).2.2.1))) ?_
                refine fj_val rfl rfl rfl (wn0 rfl) (fun R1 hR1 G => (y_build (cells := [_, _, _, _, _, _, _, _, _, _]) [(0, 1), (1, 1), (2, 1), (3, 1), (4, 1), (5, 1), (6, 1), (7, 1), (8, 1), (9, 1)] Try.underlying32 Try.zeroValue32 (fun _ => rfl) rfl rfl)) ?_
                refine fj_nil ?_
                refine xj_rj rfl ?_
                try simp only [List.cons_append, List.nil_append, List.append_nil]
                refine rj_alloc (wn0 rfl) rfl Try.zeroValue32 rfl (fun b7 => ?_)
                refine rj_xk (by (first | exact Hp.le_refl _ | assumption | exact Hp.le_trans ‹_› ‹_›)) (by (repeat (first | exact Sub.refl _ | (apply Sub.pick; focus (repeat (first | exact Find.head _ | apply Find.tail))) | apply Sub.drop | exact Sub.tailApp _ _))) ?_
                refine xj_nil ?_
                try simp only [List.cons_append, List.nil_append, List.append_nil]
                refine rj_stores ⟨Try.isAgg32, Try.sizeOf32⟩ rfl (wn0 rfl) rfl rfl (by (first | (simp [Value.oneCell']; done) | (intro u hu; simp only [List.mem_cons, List.not_mem_nil, or_false] at hu; rcases hu with rfl | rfl | rfl | rfl <;> first | rfl | assumption))) (by ((repeat (first | exact Find.head _ | apply Find.tail)); done)) (by (simp)) rfl ?_
                refine rj_nil ?_
                refine hK17 _ _ _ ?_
                refine cj_env (Env.le_cons (t := 2) rfl (Env.le_cons (t := 6) rfl (Env.le_cons (t := 7) rfl (Env.le_nil _)))) ?_
                refine cj_seq (fun K18 hK18 => ?_)
                refine cj_seq (fun K19 hK19 => ?_)
                refine cj_region ?_
                refine rj_add (A := slc 60 2 (.slice none 0 0) 0 []) (slc_nil _ _) ?_
                have hlb8 : a8.kids.length ≤ 1000000000000 := hl8.choose_spec.1
                refine rj_val (wn0 rfl) rfl rfl (y_move rfl) ?_
                first | refine rj_val (wn0 rfl) rfl rfl (y_indexAddr Try.underlying70 Try.sizeOf72 rfl rfl (by (first | omega | (dsimp only; omega) | (simp; done) | (simp; omega)))) ?_ | refine rj_val (wn0 rfl) rfl rfl (y_index_slc Try.underlying70 Try.sizeOf72 rfl rfl (by ((repeat (first | exact Find.head _ | apply Find.tail)); done)) (by (first | omega | (dsimp only; omega) | (simp; done) | (simp; omega)))) ?_
                refine rj_val (wn0 rfl) rfl rfl (y_fieldAddr (k := 3) Try.underlying72 rfl (n := 1) (by decide) Try.sizeOf70 rfl) ?_
                refine rj_val (wn0 rfl) rfl rfl ((y_load_ro ⟨Try.isAgg70, Try.sizeOf70⟩ rfl hcell8)) ?_
                first | refine rj_val (wn0 rfl) rfl rfl (y_len_sl Try.underlying70 rfl) ?_ | refine rj_val (wn0 rfl) rfl rfl (y_len_slc Try.underlying70 rfl (by ((repeat (first | exact Find.head _ | apply Find.tail)); done))) ?_
                refine rj_val (wn0 rfl) rfl rfl (y_move rfl) ?_
                refine rj_nil ?_
                refine hK19 _ _ _ ?_
                refine cj_env (Env.le_cons (t := 2) rfl (Env.le_cons (t := 7) rfl (Env.le_cons (t := 104) rfl (Env.le_cons (t := 105) rfl (Env.le_cons (t := 106) rfl (Env.le_nil _)))))) ?_
                refine cj_block ?_
                refine cj_env (E' := (fun (y : Nat × Value × List Ent × List (List Value)) => [(2, .pointer (some ⟨b2, 0, none⟩)), (7, .pointer (some ⟨b7, 0, none⟩)), (104, .slice q8 a8.kids.length c8), (105, .int .i64 (a8.kids.length : Int)), (106, .int .i64 (y.1 : Int))]) (0, .slice none 0 0, [], [])) (Env.le_cons rfl (Env.le_cons rfl (Env.le_cons rfl (Env.le_cons rfl (Env.le_cons rfl (Env.le_nil _)))))) ?_
                refine cj_sub (M := (fun (y : Nat × Value × List Ent × List (List Value)) => blk b2 [.int .i64 0, .int .i64 0, .int .i64 0, .int .u64 0, .int .u64 0, .int .u64 0, .int .u64 0, .bool false, .slice none 0 0, .string (str [])] 32 :: blk b7 [.int .i64 a0.n, .int .i64 (a1.n - 1), .int .i64 (a2.n - 1), .int .u64 a3.n, .int .u64 a4.n, .int .u64 a5.n, .int .u64 a6.n, .bool (decide ((a7.n : Int) = 1)), y.2.1, .string (str a9.s)] 32 :: slc 60 2 y.2.1 y.2.2.1.length y.2.2.2.flatten :: F) (0, .slice none 0 0, [], [])) (by (repeat (first | exact Sub.refl _ | (apply Sub.pick; focus (repeat (first | exact Find.head _ | apply Find.tail))) | apply Sub.drop | exact Sub.tailApp _ _))) ?_
                refine cj_loop (fun (y : Nat × Value × List Ent × List (List Value)) => [(2, .pointer (some ⟨b2, 0, none⟩)), (7, .pointer (some ⟨b7, 0, none⟩)), (104, .slice q8 a8.kids.length c8), (105, .int .i64 (a8.kids.length : Int)), (106, .int .i64 (y.1 : Int))]) (fun (y : Nat × Value × List Ent × List (List Value)) => R1) (fun (y : Nat × Value × List Ent × List (List Value)) => blk b2 [.int .i64 0, .int .i64 0, .int .i64 0, .int .u64 0, .int .u64 0, .int .u64 0, .int .u64 0, .bool false, .slice none 0 0, .string (str [])] 32 :: blk b7 [.int .i64 a0.n, .int .i64 (a1.n - 1), .int .i64 (a2.n - 1), .int .u64 a3.n, .int .u64 a4.n, .int .u64 a5.n, .int .u64 a6.n, .bool (decide ((a7.n : Int) = 1)), y.2.1, .string (str a9.s)] 32 :: slc 60 2 y.2.1 y.2.2.1.length y.2.2.2.flatten :: F) (fun (y : Nat × Value × List Ent × List (List Value)) => y.1 ≤ a8.kids.length ∧ entsOf (a8.kids.take y.1) = some y.2.2.1 ∧ Els entE R1 y.2.2.1 y.2.2.2 ∧ y.2.1.oneCell' = true ∧ y.2.2.1.length = y.1) (fun (y : Nat × Value × List Ent × List (List Value)) => a8.kids.length - y.1) (0, .slice none 0 0, [], []) (⟨by simp, by simp [entsOf], Els.nil, rfl, rfl⟩) ?_
                rintro ⟨i, v, es, css⟩ ⟨hi, hen, hk, hvo, hel⟩
                try dsimp only
                dsimp only at hi hen hk hvo hel
                refine cj_seq (fun K20 hK20 => ?_)
                refine cj_region ?_
                refine rj_val (wn0 rfl) rfl rfl (y_lss rfl rfl) ?_
                refine rj_nil ?_
                refine hK20 _ _ _ ?_
                refine cj_seq (fun K21 hK21 => ?_)
                refine cj_cond rfl (fun hc107 => ?_) (fun hc107 => ?_)
                · try simp only [decide_eq_true_eq, decide_eq_false_iff_not, Bool.not_eq_true', Bool.not_eq_false', Bool.true_eq_false, Bool.false_eq_true] at hc107
                  refine cj_skip ?_
                  refine hK21 _ _ _ ?_
                  refine cj_seq (fun K23 hK23 => ?_)
                  refine cj_block ?_
                  refine cj_seq (fun K24 hK24 => ?_)
                  refine cj_region ?_
                  obtain ⟨y, hy⟩ : ∃ y, a8.kids[i]? = some y := ⟨a8.kids[i]'(by omega), by simp⟩
                  obtain ⟨b8, off8, cs8, rfl, hc4, hrep, hcell9⟩ := hl8.at hy
                  obtain ⟨ky, ny, sy, ly, qy, capy, rfl, rfl, hsy, hly⟩ := hrep.inv
                  first | refine rj_val (wn0 rfl) rfl rfl (y_indexAddr Try.underlying70 Try.sizeOf72 rfl rfl (by (first | omega | (dsimp only; omega) | (simp; done) | (simp; omega)))) ?_ | refine rj_val (wn0 rfl) rfl rfl (y_index_slc Try.underlying70 Try.sizeOf72 rfl rfl (by ((repeat (first | exact Find.head _ | apply Find.tail)); done)) (by (first | omega | (dsimp only; omega) | (simp; done) | (simp; omega)))) ?_
                  refine rj_val (wn0 rfl) rfl rfl ((y_loads_ro ⟨Try.isAgg72, Try.sizeOf72⟩ (vs := [.int .i64 ky, .int .u64 ((ny : Nat) : Int), .string (str sy), .slice qy ly.length capy]) rfl rfl (fun j u hj => by simpa using hcell9 j u hj))) ?_
                  refine rj_alloc (wn0 rfl) rfl Try.zeroValue72 rfl (fun b9 => ?_)
                  refine rj_stores ⟨Try.isAgg72, Try.sizeOf72⟩ rfl (wn0 rfl) rfl rfl (by (first | (simp [Value.oneCell']; done) | (intro u hu; simp only [List.mem_cons, List.not_mem_nil, or_false] at hu; rcases hu with rfl | rfl | rfl | rfl <;> first | rfl | assumption))) (by ((repeat (first | exact Find.head _ | apply Find.tail)); done)) (by (simp)) rfl ?_
                  refine rj_nil ?_
                  refine hK24 _ _ _ ?_
                  refine cj_env (Env.le_cons (t := 2) rfl (Env.le_cons (t := 7) rfl (Env.le_cons (t := 9) rfl (Env.le_cons (t := 104) rfl (Env.le_cons (t := 105) rfl (Env.le_cons (t := 106) rfl (Env.le_nil _))))))) ?_
                  refine cj_seq (fun K25 hK25 => ?_)
                  refine cj_seq (fun K26 hK26 => ?_)
                  refine cj_region ?_
                  refine rj_val (wn0 rfl) rfl rfl (y_fieldAddr (k := 0) Try.underlying72 rfl (n := 1) (by decide) Try.sizeOf3 rfl) ?_
                  first | refine rj_val (wn0 rfl) rfl rfl (y_load ⟨Try.isAgg3, Try.sizeOf3⟩ rfl (by ((repeat (first | exact Find.head _ | apply Find.tail)); done)) rfl) ?_ | refine rj_val (wn0 rfl) rfl rfl (y_load_slc ⟨Try.isAgg3, Try.sizeOf3⟩ rfl (by ((repeat (first | exact Find.head _ | apply Find.tail)); done)) rfl) ?_
                  refine rj_val (wn0 rfl) rfl rfl (y_neq rfl rfl) ?_
                  refine rj_val (wn0 rfl) rfl rfl (y_move rfl) ?_
                  refine rj_part 113 rfl (fun hg113 => ?_) (fun hg113 => ?_)
                  · try simp only [decide_eq_true_eq, decide_eq_false_iff_not, Bool.not_eq_true', Bool.not_eq_false', Bool.true_eq_false, Bool.false_eq_true] at hg113
                    refine rj_skip (wn2 rfl rfl rfl rfl rfl) rfl rfl ?_
                    refine rj_skip (wn2 rfl rfl rfl rfl rfl) rfl rfl ?_
                    refine rj_skip (wn2 rfl rfl rfl rfl rfl) rfl rfl ?_
                    refine rj_skip (wn2 rfl rfl rfl rfl rfl) rfl rfl ?_
                    refine rj_skip (wn2 rfl rfl rfl rfl rfl) rfl rfl ?_
                    refine rj_val (wn0 rfl) rfl rfl (y_pick_t rfl rfl) ?_
                    refine rj_nil ?_
                    refine hK26 _ _ _ ?_
                    refine cj_env (Env.le_cons (t := 2) rfl (Env.le_cons (t := 7) rfl (Env.le_cons (t := 9) rfl (Env.le_cons (t := 104) rfl (Env.le_cons (t := 105) rfl (Env.le_cons (t := 106) rfl (Env.le_cons (t := 119) rfl (Env.le_nil _)))))))) ?_
                    refine cj_cond_t rfl ?_
                    refine cj_seq (fun K27 hK27 => ?_)
                    refine cj_region ?_
                    refine rj_val (wn0 rfl) rfl rfl (y_build (cells := [_, _, _, _, _, _, _, _, _, _]) [(0, 1), (1, 1), (2, 1), (3, 1), (4, 1), (5, 1), (6, 1), (7, 1), (8, 1), (9, 1)] Try.underlying32 Try.zeroValue32 (fun _ => rfl) rfl rfl) ?_
                    refine rj_stores ⟨Try.isAgg32, Try.sizeOf32⟩ rfl (wn0 rfl) rfl rfl (by (first | (simp [Value.oneCell']; done) | (intro u hu; simp only [List.mem_cons, List.not_mem_nil, or_false] at hu; rcases hu with rfl | rfl | rfl | rfl <;> first | rfl | assumption))) (by ((repeat (first | exact Find.head _ | apply Find.tail)); done)) (by (simp)) rfl ?_
                    refine rj_val (wn0 rfl) rfl rfl (y_assign rfl) ?_
                    refine rj_nil ?_
                    refine hK27 _ _ _ ?_
                    refine cj_env (Env.le_cons (t := 2) rfl (Env.le_cons (t := 3) rfl (Env.le_nil _))) ?_
                    refine cj_ret ?_
                    refine hret _ _ _ ?_
                    apply ej_ret Try.results22 (.cons (rv_cells ⟨Try.isAgg32, Try.sizeOf32⟩ rfl (by ((repeat (first | exact Find.head _ | apply Find.tail)); done)) rfl rfl) (.cons (rv_tmp rfl) .nil)) _ [] (by first | assumption | exact Hp.le_trans hR1 hR3) rfl
                    case hp =>
                      have heo : entOf (.mk ky ny sy ly) = none := if_neg (fun h => by simp_all [Nd.kind, Nd.kids])
                      rw [entsOf_none _ _ _ hy heo] at hmo
                      rw [hyes2, hmo]; exact ⟨rfl, _, rfl, FrX.nil⟩
                    case hS => (repeat (first | exact Sub.refl _ | (apply Sub.pick; focus (repeat (first | exact Find.head _ | apply Find.tail))) | apply Sub.drop | exact Sub.tailApp _ _))
                  · try simp only [decide_eq_true_eq, decide_eq_false_iff_not, Bool.not_eq_true', Bool.not_eq_false', Bool.true_eq_false, Bool.false_eq_true] at hg113
                    refine rj_val (wn1 rfl rfl rfl rfl) rfl rfl (y_fieldAddr (k := 3) Try.underlying72 rfl (n := 1) (by decide) Try.sizeOf70 rfl) ?_
                    first | refine rj_val (wn1 rfl rfl rfl rfl) rfl rfl (y_load ⟨Try.isAgg70, Try.sizeOf70⟩ rfl (by ((repeat (first | exact Find.head _ | apply Find.tail)); done)) rfl) ?_ | refine rj_val (wn1 rfl rfl rfl rfl) rfl rfl (y_load_slc ⟨Try.isAgg70, Try.sizeOf70⟩ rfl (by ((repeat (first | exact Find.head _ | apply Find.tail)); done)) rfl) ?_
                    refine rj_buildSlice (sz := 1) (wn1 rfl rfl rfl rfl) rfl Try.underlying52 Try.sizeOf3 Try.zeroValue3 rfl rfl rfl (by decide) (by decide) (fun bi => ?_)
                    refine rj_val (wn1 rfl rfl rfl rfl) rfl rfl (y_call Try.call36 rfl (kinds_q ly qy capy hly _ [0, 1] (by decide)) (by (repeat (first | exact Split.nil _ | (apply Split.cons; focus (repeat (first | exact Find.head _ | apply Find.tail))))))) ?_
                    refine rj_val (wn1 rfl rfl rfl rfl) rfl rfl (y_not rfl) ?_
                    refine rj_val (wn0 rfl) rfl rfl (y_pick_f rfl rfl) ?_
                    refine rj_nil ?_
                    refine hK26 _ _ _ ?_
                    refine cj_env (Env.le_cons (t := 2) rfl (Env.le_cons (t := 7) rfl (Env.le_cons (t := 9) rfl (Env.le_cons (t := 104) rfl (Env.le_cons (t := 105) rfl (Env.le_cons (t := 106) rfl (Env.le_cons (t := 119) rfl (Env.le_nil _)))))))) ?_
                    refine cj_cond rfl (fun hc119 => ?_) (fun hc119 => ?_)
                    · try simp only [decide_eq_true_eq, decide_eq_false_iff_not, Bool.not_eq_true', Bool.not_eq_false', Bool.true_eq_false, Bool.false_eq_true] at hc119
                      refine cj_seq (fun K29 hK29 => ?_)
                      refine cj_region ?_
                      refine rj_val (wn0 rfl) rfl rfl (y_build (cells := [_, _, _, _, _, _, _, _, _, _]) [(0, 1), (1, 1), (2, 1), (3, 1), (4, 1), (5, 1), (6, 1), (7, 1), (8, 1), (9, 1)] Try.underlying32 Try.zeroValue32 (fun _ => rfl) rfl rfl) ?_
                      refine rj_stores ⟨Try.isAgg32, Try.sizeOf32⟩ rfl (wn0 rfl) rfl rfl (by (first | (simp [Value.oneCell']; done) | (intro u hu; simp only [List.mem_cons, List.not_mem_nil, or_false] at hu; rcases hu with rfl | rfl | rfl | rfl <;> first | rfl | assumption))) (by ((repeat (first | exact Find.head _ | apply Find.tail)); done)) (by (simp)) rfl ?_
                      refine rj_val (wn0 rfl) rfl rfl (y_assign rfl) ?_
                      refine rj_nil ?_
                      refine hK29 _ _ _ ?_
                      refine cj_env (Env.le_cons (t := 2) rfl (Env.le_cons (t := 3) rfl (Env.le_nil _))) ?_
                      refine cj_ret ?_
                      refine hret _ _ _ ?_
                      apply ej_ret Try.results22 (.cons (rv_cells ⟨Try.isAgg32, Try.sizeOf32⟩ rfl (by ((repeat (first | exact Find.head _ | apply Find.tail)); done)) rfl rfl) (.cons (rv_tmp rfl) .nil)) _ [] (by first | assumption | exact Hp.le_trans hR1 hR3) rfl
                      case hp =>
                        have heo : entOf (.mk ky ny sy ly) = none := if_neg (fun h => by simp_all [Nd.kind, Nd.kids])
                        rw [entsOf_none _ _ _ hy heo] at hmo
                        rw [hyes2, hmo]; exact ⟨rfl, _, rfl, FrX.nil⟩
                      case hS => (repeat (first | exact Sub.refl _ | (apply Sub.pick; focus (repeat (first | exact Find.head _ | apply Find.tail))) | apply Sub.drop | exact Sub.tailApp _ _))
                    · try simp only [decide_eq_true_eq, decide_eq_false_iff_not, Bool.not_eq_true', Bool.not_eq_false', Bool.true_eq_false, Bool.false_eq_true] at hc119
                      refine cj_skip ?_
                      refine hK25 _ _ _ ?_
                      have hky2 : ky = 2 := by simpa using hg113
                      have hlyk : ly.map Nd.kind = [0, 1] := by simpa using hc119
                      obtain ⟨c0, c1, rfl⟩ := two_of hlyk
                      obtain ⟨b3, off3, rfl, hrow3⟩ := hly.row (by simp)
                      have heo : entOf (.mk ky ny sy [c0, c1]) = some ((c0.n : Int), c1.s) := if_pos ⟨hky2, hlyk⟩
                      refine cj_mixg (L := [blk b7 [.int .i64 a0.n, .int .i64 (a1.n - 1), .int .i64 (a2.n - 1), .int .u64 a3.n, .int .u64 a4.n, .int .u64 a5.n, .int .u64 a6.n, .bool (decide ((a7.n : Int) = 1)), v, .string (str a9.s)] 32, blk b9 [.int .i64 ky, .int .u64 ((ny : Nat) : Int), .string (str sy), .slice (some ⟨b3, off3, none⟩) [c0, c1].length capy] 72]) [0, 1, 2, 3, 4, 5, 6, 7, 8, 9, 10, 11, 12] [13] [14, 15, 16] _ (by (repeat (first | exact Sub.refl _ | (apply Sub.pick; focus (repeat (first | exact Find.head _ | apply Find.tail))) | apply Sub.drop | exact Sub.tailApp _ _))) (by kernel_rfl) (by kernel_rfl) (by kernel_rfl) rfl ?_
                      refine fj_val rfl rfl rfl (wn0 rfl) (fun R1 hR1 G => (y_fieldAddr (k := 8) Try.underlying32 rfl (n := 1) (by decide) Try.sizeOf30 rfl)) ?_
                      first | refine fj_val rfl rfl rfl (wn0 rfl) (fun R1 hR1 G => (y_load ⟨Try.isAgg30, Try.sizeOf30⟩ rfl (by ((repeat (first | exact Find.head _ | apply Find.tail)); done)) rfl)) ?_ | refine fj_val rfl rfl rfl (wn0 rfl) (fun R1 hR1 G => (y_load_slc ⟨Try.isAgg30, Try.sizeOf30⟩ rfl (by ((repeat (first | exact Find.head _ | apply Find.tail)); done)) rfl)) ?_
                      refine fj_val rfl rfl rfl (wn0 rfl) (fun R1 hR1 G => (y_fieldAddr (k := 3) Try.underlying72 rfl (n := 1) (by decide) Try.sizeOf70 rfl)) ?_
                      first | refine fj_val rfl rfl rfl (wn0 rfl) (fun R1 hR1 G => (y_load ⟨Try.isAgg70, Try.sizeOf70⟩ rfl (by ((repeat (first | exact Find.head _ | apply Find.tail)); done)) rfl)) ?_ | refine fj_val rfl rfl rfl (wn0 rfl) (fun R1 hR1 G => (y_load_slc ⟨Try.isAgg70, Try.sizeOf70⟩ rfl (by ((repeat (first | exact Find.head _ | apply Find.tail)); done)) rfl)) ?_
                      first | refine fj_val rfl rfl rfl (wn0 rfl) (fun R1 hR1 G => (y_indexAddr Try.underlying70 Try.sizeOf72 rfl rfl (by (first | omega | (dsimp only; omega) | (simp; done) | (simp; omega))))) ?_ | refine fj_val rfl rfl rfl (wn0 rfl) (fun R1 hR1 G => (y_index_slc Try.underlying70 Try.sizeOf72 rfl rfl (by ((repeat (first | exact Find.head _ | apply Find.tail)); done)) (by (first | omega | (dsimp only; omega) | (simp; done) | (simp; omega))))) ?_
                      refine fj_val rfl rfl rfl (wn0 rfl) (fun R1 hR1 G => (y_fieldAddr (k := 1) Try.underlying72 rfl (n := 1) (by decide) Try.sizeOf27 rfl)) ?_
                      refine fj_val rfl rfl rfl (wn0 rfl) (fun R1 hR1 G => (y_load_ro ⟨Try.isAgg27, Try.sizeOf27⟩ rfl (cell_mono hR1 (hrow3 0 c0 rfl).2.1))) ?_
                      refine fj_val rfl rfl rfl (wn0 rfl) (fun R1 hR1 G => (y_fieldAddr (k := 3) Try.underlying72 rfl (n := 1) (by decide) Try.sizeOf70 rfl)) ?_
                      first | refine fj_val rfl rfl rfl (wn0 rfl) (fun R1 hR1 G => (y_load ⟨Try.isAgg70, Try.sizeOf70⟩ rfl (by ((repeat (first | exact Find.head _ | apply Find.tail)); done)) rfl)) ?_ | refine fj_val rfl rfl rfl (wn0 rfl) (fun R1 hR1 G => (y_load_slc ⟨Try.isAgg70, Try.sizeOf70⟩ rfl (by ((repeat (first | exact Find.head _ | apply Find.tail)); done)) rfl)) ?_
                      first | refine fj_val rfl rfl rfl (wn0 rfl) (fun R1 hR1 G => (y_indexAddr Try.underlying70 Try.sizeOf72 rfl rfl (by (first | omega | (dsimp only; omega) | (simp; done) | (simp; omega))))) ?_ | refine fj_val rfl rfl rfl (wn0 rfl) (fun R1 hR1 G => (y_index_slc Try.underlying70 Try.sizeOf72 rfl rfl (by ((repeat (first | exact Find.head _ | apply Find.tail)); done)) (by (first | omega | (dsimp only; omega) | (simp; done) | (simp; omega))))) ?_
                      refine fj_val rfl rfl rfl (wn0 rfl) (fun R1 hR1 G => (y_fieldAddr (k := 2) Try.underlying72 rfl (n := 1) (by decide) Try.sizeOf9 rfl)) ?_
                      refine fj_val rfl rfl rfl (wn0 rfl) (fun R1 hR1 G => (y_load_ro ⟨Try.isAgg9, Try.sizeOf9⟩ rfl (cell_mono hR1 (hrow3 1 c1 rfl).2.2.1))) ?_
                      refine fj_val rfl rfl rfl (wn0 rfl) (fun R1 hR1 G => (y_build (cells := [_, _]) [(0, 1), (1, 1)] Try.underlying60 Try.zeroValue60 (fun _ => rfl) rfl rfl)) ?_
                      refine fj_nil ?_
                      refine xj_rj rfl ?_
                      try simp only [List.cons_append, List.nil_append, List.append_nil]
                      refine rj_buildSlice (sz := 2) (wn0 rfl) rfl Try.underlying30 Try.sizeOf60 Try.zeroValue60 rfl rfl rfl (by decide) (by decide) (fun bz => ?_)
                      refine rj_xk (by (first | exact Hp.le_refl _ | assumption | exact Hp.le_trans ‹_› ‹_›)) (by (repeat (first | exact Sub.refl _ | (apply Sub.pick; focus (repeat (first | exact Find.head _ | apply Find.tail))) | apply Sub.drop | exact Sub.tailApp _ _))) ?_
                      refine xj_nil ?_
                      try simp only [List.cons_append, List.nil_append, List.append_nil]
                      refine rj_append (sz := 2) (by_ := 24) ⟨Try.underlying30, _, _, rfl, rfl, rfl, rfl, rfl⟩ (wn0 rfl) rfl rfl rfl (by ((repeat (first | exact Find.head _ | apply Find.tail)); done)) (src_slc (xs := [.int .u64 (c0.n : Int), .string (str c1.s)]) Try.underlying30 (by ((repeat (first | exact Find.head _ | apply Find.tail)); done)) (by (first | (simp [Value.oneCell']; done) | (intro u hu; simp only [List.mem_cons, List.not_mem_nil, or_false] at hu; rcases hu with rfl | rfl | rfl | rfl <;> first | rfl | assumption)))) rfl (by (first | omega | (dsimp only; omega) | (simp; done) | (simp; omega))) (by simp only [maxLen]; omega) (fun v135 ho135 hh135 => ?_)
                      rw [flatt_snoc, show es.length + 1 = (es ++ [((c0.n : Int), c1.s)]).length by simp]
                      refine rj_val (wn0 rfl) rfl rfl (y_fieldAddr (k := 8) Try.underlying32 rfl (n := 1) (by decide) Try.sizeOf30 rfl) ?_
                      refine rj_store ⟨Try.isAgg30, Try.sizeOf30⟩ (wn0 rfl) rfl rfl (by (first | rfl | assumption | (apply cutV_one; assumption))) (by ((repeat (first | exact Find.head _ | apply Find.tail)); done)) rfl rfl ?_
                      refine rj_nil ?_
                      refine hK23 _ _ _ ?_
                      refine cj_env (Env.le_cons (t := 2) rfl (Env.le_cons (t := 7) rfl (Env.le_cons (t := 104) rfl (Env.le_cons (t := 105) rfl (Env.le_cons (t := 106) rfl (Env.le_nil _)))))) ?_
                      refine cj_region ?_
                      first | refine rj_val (wn0 rfl) rfl rfl (y_add64 rfl rfl (by (first | omega | (dsimp only; omega) | (simp; done) | (simp; omega)))) ?_ | refine rj_val (wn0 rfl) rfl rfl (y_add rfl rfl) ?_
                      refine rj_val (wn0 rfl) rfl rfl (y_move rfl) ?_
                      refine rj_nil ?_
                      refine ej_on (q' := roundK _ _ _ _ _ _ _) rfl ?_
                      refine ej_round ((i + 1, v135, es ++ [((c0.n : Int), c1.s)], css ++ [[.int .u64 (c0.n : Int), .string (str c1.s)]])) (⟨by dsimp only; omega, by dsimp only; rw [List.take_add_one, hy]; exact entsOf_snoc _ _ _ _ hen heo, hk.snoc (y := ((c0.n : Int), c1.s)) (cy := [.int .u64 (c0.n : Int), .string (str c1.s)]) rfl, by assumption, by simp; omega⟩) (by dsimp only; omega) (Env.le_cons rfl (Env.le_cons rfl (Env.le_cons rfl (Env.le_cons rfl (Env.le_cons rfl (Env.le_nil _)))))) rfl (by (repeat (first | exact Sub.refl _ | (apply Sub.pick; focus (repeat (first | exact Find.head _ | apply Find.tail))) | apply Sub.drop | exact Sub.tailApp _ _)))
                · try simp only [decide_eq_true_eq, decide_eq_false_iff_not, Bool.not_eq_true', Bool.not_eq_false', Bool.true_eq_false, Bool.false_eq_true] at hc107
                  refine cj_exit ?_
                  refine hK18 _ _ _ ?_
                  refine cj_env (Env.le_cons (t := 2) rfl (Env.le_cons (t := 7) rfl (Env.le_nil _))) ?_
                  refine cj_seq (fun K30 hK30 => ?_)
                  refine cj_region ?_
                  refine rj_freeze (e := 60) (sz := 2) (n := es.length) (v := v) (xs := css.flatten) (by ((repeat (first | exact Find.head _ | apply Find.tail)); done)) (fun R3 hR3 hfr hxl => ?_)
                  have hfx := FrozenS.frx hfr (hk.mono hR3)
                  rw [List.take_of_length_le (by (try simp at hc107); omega)] at hen
                  rw [hen] at hmo
                  refine rj_val (wn0 rfl) rfl rfl ((y_loads_blk (vs := [.int .i64 a0.n, .int .i64 (a1.n - 1), .int .i64 (a2.n - 1), .int .u64 a3.n, .int .u64 a4.n, .int .u64 a5.n, .int .u64 a6.n, .bool (decide ((a7.n : Int) = 1)), v, .string (str a9.s)]) ⟨Try.isAgg32, Try.sizeOf32⟩ rfl (by ((repeat (first | exact Find.head _ | apply Find.tail)); done)) rfl rfl)) ?_
                  refine rj_stores ⟨Try.isAgg32, Try.sizeOf32⟩ rfl (wn0 rfl) rfl rfl (msgE.one (R := R3) (x := ⟨a0.n, a1.n - 1, a2.n - 1, a3.n, a4.n, a5.n, a6.n, decide ((a7.n : Int) = 1), es, a9.s⟩) ⟨v, rfl, hfx⟩) (by ((repeat (first | exact Find.head _ | apply Find.tail)); done)) (by exact Nat.le_refl 10) rfl ?_
                  refine rj_val (wn0 rfl) rfl rfl (y_assign rfl) ?_
                  refine rj_nil ?_
                  refine hK30 _ _ _ ?_
                  refine cj_ret ?_
                  refine hret _ _ _ ?_
                  apply ej_ret Try.results22 (.cons (rv_cells ⟨Try.isAgg32, Try.sizeOf32⟩ rfl (by ((repeat (first | exact Find.head _ | apply Find.tail)); done)) rfl rfl) (.cons (rv_tmp rfl) .nil)) _ [] (by first | assumption | exact Hp.le_trans hR1 hR3) rfl
                  case hp => rw [hyes2, hmo]; exact ⟨rfl, v, rfl, hfx⟩
                  case hS => (repeat (first | exact Sub.refl _ | (apply Sub.pick; focus (repeat (first | exact Find.head _ | apply Find.tail))) | apply Sub.drop | exact Sub.tailApp _ _))
end V
end Go.Proofs.Ythdmbdbncbdmiaa
