/- A message's bytes: the program's and the document's, walked. -/
import Derived.Test.YthdmbdbncbdmiaaT10d
import Derived.Test.YthdmbdbncbdmiaaT3i
import Derived.Test.YthdmbdbncbdmiaaT3q
set_option linter.unusedSimpArgs false
set_option linter.unusedVariables false
set_option maxRecDepth 100000
namespace Go.Proofs.Ythdmbdbncbdmiaa
open Go.RowKit
namespace V
set_option maxHeartbeats 4000000
/-! ### a message as a node -/
def numN (n : Int) : Nd := .mk 0 n.toNat [] []
def txtN (s : List UInt8) : Nd := .mk 1 0 s []
def entN (e : Ent) : Nd := .mk 2 0 [] [numN e.1, txtN e.2]
def okN (b : Bool) : Int := if b then 1 else 0
def msgKids (m : Msg) : List Nd := [numN m.kind, numN (m.frm + 1), numN (m.to + 1), numN m.term, numN m.index, numN m.logTerm, numN m.commit, numN (okN m.ok), .mk 2 0 [] (m.es.map entN), txtN m.state]
def msgN (m : Msg) : Nd := .mk 2 0 [] (msgKids m)
def hasBytes (m : Msg) : Bool := decide (0 ≤ m.kind ∧ -1 ≤ m.frm ∧ -1 ≤ m.to)
noncomputable def bytesM (m : Msg) : List UInt8 := if hasBytes m then (writeM (msgN m)).1 else []
/-- what bytes are made of without trouble -/
def Fits (m : Msg) : Prop := m.Bd ∧ m.es.length ≤ 1000000 ∧ (∀ e ∈ m.es, e.2.length ≤ big) ∧ m.state.length ≤ big
theorem numN_ok {n : Int} (h : u64B n) : OkN (numN n) := .mk (by unfold u64B at h; omega) (fun _ h => by simp at h)
theorem txtN_ok (s : List UInt8) : OkN (txtN s) := .mk (by omega) (fun _ h => by simp at h)
theorem entN_ok {e : Ent} (h : u64B e.1) : OkN (entN e) := .mk (by omega) (fun x hx => by simp at hx; rcases hx with rfl | rfl; exact numN_ok h; exact txtN_ok _)
theorem okN_bd (b : Bool) : u64B (okN b) := by unfold okN u64B; cases b <;> simp
theorem msgN_ok {m : Msg} (h : m.Bd) (hb : hasBytes m = true) : OkN (msgN m) := by
  have hb' : 0 ≤ m.kind ∧ -1 ≤ m.frm ∧ -1 ≤ m.to := by simpa [hasBytes] using hb
  have h1 := h.kind; have h2 := h.frm; have h3 := h.to
  unfold i64B at h1 h2 h3
  refine .mk (by omega) (fun x hx => ?_)
  simp only [msgKids, List.mem_cons, List.not_mem_nil, or_false] at hx
  rcases hx with rfl | rfl | rfl | rfl | rfl | rfl | rfl | rfl | rfl | rfl
  · exact numN_ok ⟨by omega, by omega⟩
  · exact numN_ok ⟨by omega, by omega⟩
  · exact numN_ok ⟨by omega, by omega⟩
  · exact numN_ok h.term
  · exact numN_ok h.index
  · exact numN_ok h.logTerm
  · exact numN_ok h.commit
  · exact numN_ok (okN_bd _)
  · refine .mk (by omega) (fun y hy => ?_)
    obtain ⟨e, he, rfl⟩ := List.mem_map.1 hy
    exact entN_ok (h.es e he).1
  · exact txtN_ok _
theorem num_rep (R : Hp) (n : Nat) : RepN R (.mk 0 n [] []) [.int .i64 0, .int .u64 (n : Int), .string (str []), .slice none 0 0] := RepL.node (by simp [big]) (RepL.nil R)
theorem txt_rep (R : Hp) {s : List UInt8} (h : s.length ≤ big) : RepN R (.mk 1 0 s []) [.int .i64 1, .int .u64 ((0 : Nat) : Int), .string (str s), .slice none 0 0] := RepL.node h (RepL.nil R)
theorem Kids.nil (R : Hp) : Kids R [] [] := ⟨rfl, fun i x cs h _ => by simp at h⟩
theorem Kids.cons {R : Hp} {x : Nd} {c : List Value} {ks : List Nd} {css : List (List Value)} (h : RepN R x c) (k : Kids R ks css) : Kids R (x :: ks) (c :: css) := by
  refine ⟨by simp [k.1], fun i y cs h1 h2 => ?_⟩
  cases i with
  | zero => simp at h1 h2; subst h1 h2; exact h
  | succ i => exact k.2 i y cs (by simpa using h1) (by simpa using h2)
/-! ### the program's -/
theorem clone0_q {R : Hp} : QTri Try.prog 38 [.slice none 0 0] R [] (.slice none 0 0) := by
  refine Tri.q ?_
  refine tri_of Try.func38 rfl Try.ntmps38 rfl (fun σ F Q hret hend hpan => ?_)
  try simp only [List.cons_append, List.nil_append]
  refine cj_env (Env.le_cons (t := 0) rfl (Env.le_nil _)) ?_
  refine cj_seq (fun K1 hK1 => ?_)
  refine cj_region ?_
  refine rj_val (wn0 rfl) rfl rfl (y_assign rfl) ?_
  refine rj_nil ?_
  refine hK1 _ _ _ ?_
  refine cj_seq (fun K2 hK2 => ?_)
  refine cj_seq (fun K3 hK3 => ?_)
  refine cj_region ?_
  refine rj_val (wn0 rfl) rfl rfl (y_move rfl) ?_
  refine rj_val (wn0 rfl) rfl rfl (y_sleql Try.underlying70 rfl rfl) ?_
  refine rj_nil ?_
  refine hK3 _ _ _ ?_
  refine cj_cond_t rfl ?_
  refine cj_seq (fun K4 hK4 => ?_)
  refine cj_region ?_
  refine rj_val (wn0 rfl) rfl rfl (y_assign rfl) ?_
  refine rj_nil ?_
  refine hK4 _ _ _ ?_
  refine cj_env (Env.le_cons (t := 2) rfl (Env.le_nil _)) ?_
  refine cj_ret ?_
  refine hret _ _ _ ?_
  apply ej_ret Try.results38 (.cons (rv_tmp rfl) .nil) _ [] (by (first | exact Hp.le_refl _ | assumption | exact Hp.le_trans ‹_› ‹_›)) rfl
  case hp => exact ⟨rfl, rfl, rfl⟩
  case hS => (repeat (first | exact Sub.refl _ | (apply Sub.pick; focus (repeat (first | exact Find.head _ | apply Find.tail))) | apply Sub.drop | exact Sub.tailApp _ _))
theorem mkL0_q {R : Hp} : QTri Try.prog 27 [.slice none 0 0] R [] (.agg ⟨[.int .i64 2, .int .u64 0, .string (str []), .slice none 0 0]⟩) := by
  refine Tri.q ?_
  refine tri_of Try.func27 rfl Try.ntmps27 rfl (fun σ F Q hret hend hpan => ?_)
  try simp only [List.cons_append, List.nil_append]
  refine cj_env (Env.le_cons (t := 0) rfl (Env.le_nil _)) ?_
  refine cj_seq (fun K1 hK1 => ?_)
  refine cj_region ?_
  refine rj_alloc (wn0 rfl) rfl Try.zeroValue72 rfl (fun b2 => ?_)
  refine rj_nil ?_
  refine hK1 _ _ _ ?_
  refine cj_seq (fun K2 hK2 => ?_)
  refine cj_region ?_
  refine rj_val (wn0 rfl) rfl rfl (y_move rfl) ?_
  refine rj_val (wn0 rfl) rfl rfl (y_call Try.call38 rfl (clone0_q) (by (repeat (first | exact Split.nil _ | (apply Split.cons; focus (repeat (first | exact Find.head _ | apply Find.tail))))))) ?_
  refine rj_val (wn0 rfl) rfl rfl (y_build (cells := [_, _, _, _]) [(0, 1), (1, 1), (2, 1), (3, 1)] Try.underlying72 Try.zeroValue72 (fun _ => rfl) rfl rfl) ?_
  refine rj_stores ⟨Try.isAgg72, Try.sizeOf72⟩ rfl (wn0 rfl) rfl rfl (by (first | (simp [Value.oneCell']; done) | (intro u hu; simp only [List.mem_cons, List.not_mem_nil, or_false] at hu; rcases hu with rfl | rfl | rfl | rfl <;> first | rfl | assumption))) (by ((repeat (first | exact Find.head _ | apply Find.tail)); done)) (by (simp)) rfl ?_
  refine rj_nil ?_
  refine hK2 _ _ _ ?_
  refine cj_env (Env.le_cons (t := 2) rfl (Env.le_nil _)) ?_
  refine cj_ret ?_
  refine hret _ _ _ ?_
  apply ej_ret Try.results27 (.cons (rv_cells ⟨Try.isAgg72, Try.sizeOf72⟩ rfl (by ((repeat (first | exact Find.head _ | apply Find.tail)); done)) rfl rfl) .nil) _ [] (by (first | exact Hp.le_refl _ | assumption | exact Hp.le_trans ‹_› ‹_›)) rfl
  case hp => exact ⟨rfl, rfl, rfl⟩
  case hS => (repeat (first | exact Sub.refl _ | (apply Sub.pick; focus (repeat (first | exact Find.head _ | apply Find.tail))) | apply Sub.drop | exact Sub.tailApp _ _))
theorem u64_of_i64 {n : Int} (h : 0 ≤ n ∧ n ≤ 9223372036854775807) : IntKind.u64.wrap n = ((n.toNat : Nat) : Int) := by rw [wrap_u64_in ⟨h.1, by omega⟩]; omega
theorem u64_of_succ {n : Int} (h : -1 ≤ n ∧ n ≤ 9223372036854775807) : IntKind.u64.wrap (IntKind.i64.wrap (n + 1)) = (((n + 1).toNat : Nat) : Int) := by
  by_cases h1 : n = 9223372036854775807
  · subst h1; rfl
  · rw [wrap_i64_in ⟨by omega, by omega⟩, wrap_u64_in ⟨by omega, by omega⟩]; omega
/-- the ten kids -/
def tenC (m : Msg) (ce : List Value) : List (List Value) :=
  [[.int .i64 0, .int .u64 ((m.kind.toNat : Nat) : Int), .string (str []), .slice none 0 0], [.int .i64 0, .int .u64 (((m.frm + 1).toNat : Nat) : Int), .string (str []), .slice none 0 0], [.int .i64 0, .int .u64 (((m.to + 1).toNat : Nat) : Int), .string (str []), .slice none 0 0],
   [.int .i64 0, .int .u64 ((m.term.toNat : Nat) : Int), .string (str []), .slice none 0 0], [.int .i64 0, .int .u64 ((m.index.toNat : Nat) : Int), .string (str []), .slice none 0 0], [.int .i64 0, .int .u64 ((m.logTerm.toNat : Nat) : Int), .string (str []), .slice none 0 0],
   [.int .i64 0, .int .u64 ((m.commit.toNat : Nat) : Int), .string (str []), .slice none 0 0], [.int .i64 0, .int .u64 (((okN m.ok).toNat : Nat) : Int), .string (str []), .slice none 0 0], ce, [.int .i64 1, .int .u64 ((0 : Nat) : Int), .string (str m.state), .slice none 0 0]]
theorem ten_kids {R : Hp} {m : Msg} {ce : List Value} (h : RepN R (.mk 2 0 [] (m.es.map entN)) ce) (hs : m.state.length ≤ big) : Kids R (msgKids m) (tenC m ce) :=
  .cons (num_rep R _) (.cons (num_rep R _) (.cons (num_rep R _) (.cons (num_rep R _) (.cons (num_rep R _) (.cons (num_rep R _) (.cons (num_rep R _) (.cons (num_rep R _) (.cons h (.cons (txt_rep R hs) (.nil R))))))))))
theorem bytes_q {R : Hp} (m : Msg) (ve : Value) (hve : FrX entE R m.es ve) (hf : Fits m) : QTri Try.prog 20 [.agg ⟨msgC m ve⟩] R [] (.string (str (bytesM m))) := by
  refine Tri.q2 ?_
  obtain ⟨q, cap, rfl, hcap, hcm⟩ := hve.shape
  obtain ⟨hbd, hes, hcmd, hst⟩ := hf
  have hfrm := hbd.frm; have hto := hbd.to; have hkd := hbd.kind; have htm := hbd.term; have hix := hbd.index; have hlt := hbd.logTerm; have hcm2 := hbd.commit
  unfold i64B at hfrm hto hkd
  unfold u64B at htm hix hlt hcm2
  unfold msgC
  refine tri_of Try.func20 rfl Try.ntmps20 rfl (fun σ F Q hret hend hpan => ?_)
  try simp only [List.cons_append, List.nil_append]
  refine cj_env (Env.le_cons (t := 0) rfl (Env.le_nil _)) ?_
  refine cj_seq (fun K1 hK1 => ?_)
  refine cj_region ?_
  refine rj_box (wn0 rfl) rfl rfl rfl (fun b1 => ?_)
  refine rj_val (wn0 rfl) rfl rfl (y_assign rfl) ?_
  refine rj_nil ?_
  refine hK1 _ _ _ ?_
  refine cj_seq (fun K2 hK2 => ?_)
  refine cj_seq (fun K3 hK3 => ?_)
  refine cj_region ?_
  refine rj_val (wn0 rfl) rfl rfl (y_fieldAddr (k := 0) Try.underlying32 rfl (n := 1) (by decide) Try.sizeOf3 rfl) ?_
  first | refine rj_val (wn0 rfl) rfl rfl (y_load ⟨Try.isAgg3, Try.sizeOf3⟩ rfl (by ((repeat (first | exact Find.head _ | apply Find.tail)); done)) rfl) ?_ | refine rj_val (wn0 rfl) rfl rfl (y_load_slc ⟨Try.isAgg3, Try.sizeOf3⟩ rfl (by ((repeat (first | exact Find.head _ | apply Find.tail)); done)) rfl) ?_
  refine rj_val (wn0 rfl) rfl rfl (y_lss rfl rfl) ?_
  refine rj_val (wn0 rfl) rfl rfl (y_move rfl) ?_
  refine rj_part 12 rfl (fun hg12 => ?_) (fun hg12 => ?_)
  · try simp only [decide_eq_true_eq, decide_eq_false_iff_not, Bool.not_eq_true', Bool.not_eq_false', Bool.true_eq_false, Bool.false_eq_true] at hg12
    refine rj_skip (wn2 rfl rfl rfl rfl rfl) rfl rfl ?_
    refine rj_skip (wn2 rfl rfl rfl rfl rfl) rfl rfl ?_
    refine rj_skip (wn2 rfl rfl rfl rfl rfl) rfl rfl ?_
    refine rj_val (wn0 rfl) rfl rfl (y_pick_t rfl rfl) ?_
    refine rj_val (wn0 rfl) rfl rfl (y_move rfl) ?_
    refine rj_skip (wn2 rfl rfl rfl rfl rfl) rfl rfl ?_
    refine rj_skip (wn2 rfl rfl rfl rfl rfl) rfl rfl ?_
    refine rj_skip (wn2 rfl rfl rfl rfl rfl) rfl rfl ?_
    refine rj_val (wn0 rfl) rfl rfl (y_pick_t rfl rfl) ?_
    refine rj_nil ?_
    refine hK3 _ _ _ ?_
    refine cj_env (Env.le_cons (t := 1) rfl (Env.le_cons (t := 21) rfl (Env.le_nil _))) ?_
    refine cj_cond_t rfl ?_
    refine cj_seq (fun K4 hK4 => ?_)
    refine cj_region ?_
    refine rj_val (wn0 rfl) rfl rfl (y_assign rfl) ?_
    refine rj_nil ?_
    refine hK4 _ _ _ ?_
    refine cj_ret ?_
    refine hret _ _ _ ?_
    apply ej_ret Try.results20 (.cons (rv_tmp rfl) .nil) _ [] (by first | exact Hp.le_refl _ | exact Hp.le_trans hR1 (Hp.le_trans hR3 hR4)) rfl
    case hp => refine ⟨?_, rfl⟩; rw [bytesM, if_neg (by unfold hasBytes; simp at *; omega)]; rfl
    case hS => (repeat (first | exact Sub.refl _ | (apply Sub.pick; focus (repeat (first | exact Find.head _ | apply Find.tail))) | apply Sub.drop | exact Sub.tailApp _ _))
  · try simp only [decide_eq_true_eq, decide_eq_false_iff_not, Bool.not_eq_true', Bool.not_eq_false', Bool.true_eq_false, Bool.false_eq_true] at hg12
    refine rj_val (wn1 rfl rfl rfl rfl) rfl rfl (y_fieldAddr (k := 1) Try.underlying32 rfl (n := 1) (by decide) Try.sizeOf3 rfl) ?_
    first | refine rj_val (wn1 rfl rfl rfl rfl) rfl rfl (y_load ⟨Try.isAgg3, Try.sizeOf3⟩ rfl (by ((repeat (first | exact Find.head _ | apply Find.tail)); done)) rfl) ?_ | refine rj_val (wn1 rfl rfl rfl rfl) rfl rfl (y_load_slc ⟨Try.isAgg3, Try.sizeOf3⟩ rfl (by ((repeat (first | exact Find.head _ | apply Find.tail)); done)) rfl) ?_
    refine rj_val (wn1 rfl rfl rfl rfl) rfl rfl (y_lss rfl rfl) ?_
    refine rj_val (wn0 rfl) rfl rfl (y_pick_f rfl rfl) ?_
    refine rj_val (wn0 rfl) rfl rfl (y_move rfl) ?_
    refine rj_part 17 rfl (fun hg17 => ?_) (fun hg17 => ?_)
    · try simp only [decide_eq_true_eq, decide_eq_false_iff_not, Bool.not_eq_true', Bool.not_eq_false', Bool.true_eq_false, Bool.false_eq_true] at hg17
      refine rj_skip (wn2 rfl rfl rfl rfl rfl) rfl rfl ?_
      refine rj_skip (wn2 rfl rfl rfl rfl rfl) rfl rfl ?_
      refine rj_skip (wn2 rfl rfl rfl rfl rfl) rfl rfl ?_
      refine rj_val (wn0 rfl) rfl rfl (y_pick_t rfl rfl) ?_
      refine rj_nil ?_
      refine hK3 _ _ _ ?_
      refine cj_env (Env.le_cons (t := 1) rfl (Env.le_cons (t := 21) rfl (Env.le_nil _))) ?_
      refine cj_cond_t rfl ?_
      refine cj_seq (fun K5 hK5 => ?_)
      refine cj_region ?_
      refine rj_val (wn0 rfl) rfl rfl (y_assign rfl) ?_
      refine rj_nil ?_
      refine hK5 _ _ _ ?_
      refine cj_ret ?_
      refine hret _ _ _ ?_
      apply ej_ret Try.results20 (.cons (rv_tmp rfl) .nil) _ [] (by first | exact Hp.le_refl _ | exact Hp.le_trans hR1 (Hp.le_trans hR3 hR4)) rfl
      case hp => refine ⟨?_, rfl⟩; rw [bytesM, if_neg (by unfold hasBytes; simp at *; omega)]; rfl
      case hS => (repeat (first | exact Sub.refl _ | (apply Sub.pick; focus (repeat (first | exact Find.head _ | apply Find.tail))) | apply Sub.drop | exact Sub.tailApp _ _))
    · try simp only [decide_eq_true_eq, decide_eq_false_iff_not, Bool.not_eq_true', Bool.not_eq_false', Bool.true_eq_false, Bool.false_eq_true] at hg17
      refine rj_val (wn1 rfl rfl rfl rfl) rfl rfl (y_fieldAddr (k := 2) Try.underlying32 rfl (n := 1) (by decide) Try.sizeOf3 rfl) ?_
      first | refine rj_val (wn1 rfl rfl rfl rfl) rfl rfl (y_load ⟨Try.isAgg3, Try.sizeOf3⟩ rfl (by ((repeat (first | exact Find.head _ | apply Find.tail)); done)) rfl) ?_ | refine rj_val (wn1 rfl rfl rfl rfl) rfl rfl (y_load_slc ⟨Try.isAgg3, Try.sizeOf3⟩ rfl (by ((repeat (first | exact Find.head _ | apply Find.tail)); done)) rfl) ?_
      refine rj_val (wn1 rfl rfl rfl rfl) rfl rfl (y_lss rfl rfl) ?_
      refine rj_val (wn0 rfl) rfl rfl (y_pick_f rfl rfl) ?_
      refine rj_nil ?_
      refine hK3 _ _ _ ?_
      refine cj_env (Env.le_cons (t := 1) rfl (Env.le_cons (t := 21) rfl (Env.le_nil _))) ?_
      refine cj_cond rfl (fun hc21 => ?_) (fun hc21 => ?_)
      · try simp only [decide_eq_true_eq, decide_eq_false_iff_not, Bool.not_eq_true', Bool.not_eq_false', Bool.true_eq_false, Bool.false_eq_true] at hc21
        refine cj_seq (fun K7 hK7 => ?_)
        refine cj_region ?_
        refine rj_val (wn0 rfl) rfl rfl (y_assign rfl) ?_
        refine rj_nil ?_
        refine hK7 _ _ _ ?_
        refine cj_ret ?_
        refine hret _ _ _ ?_
        apply ej_ret Try.results20 (.cons (rv_tmp rfl) .nil) _ [] (by first | exact Hp.le_refl _ | exact Hp.le_trans hR1 (Hp.le_trans hR3 hR4)) rfl
        case hp => refine ⟨?_, rfl⟩; rw [bytesM, if_neg (by unfold hasBytes; simp at *; omega)]; rfl
        case hS => (repeat (first | exact Sub.refl _ | (apply Sub.pick; focus (repeat (first | exact Find.head _ | apply Find.tail))) | apply Sub.drop | exact Sub.tailApp _ _))
      · try simp only [decide_eq_true_eq, decide_eq_false_iff_not, Bool.not_eq_true', Bool.not_eq_false', Bool.true_eq_false, Bool.false_eq_true] at hc21
        refine cj_skip ?_
        refine hK2 _ _ _ ?_
        refine cj_seq (fun K8 hK8 => ?_)
        refine cj_region ?_
        have hb : hasBytes m = true := by unfold hasBytes; simp at *; omega
        have hb' : 0 ≤ m.kind ∧ -1 ≤ m.frm ∧ -1 ≤ m.to := by simpa [hasBytes] using hb
        refine rj_add (A := slc 72 4 (.slice none 0 0) 0 []) (slc_nil _ _) ?_
        refine rj_val (wn0 rfl) rfl rfl (y_call Try.call27 rfl (mkL0_q) (by (repeat (first | exact Split.nil _ | (apply Split.cons; focus (repeat (first | exact Find.head _ | apply Find.tail))))))) ?_
        refine rj_alloc (wn0 rfl) rfl Try.zeroValue72 rfl (fun b3 => ?_)
        refine rj_stores ⟨Try.isAgg72, Try.sizeOf72⟩ rfl (wn0 rfl) rfl rfl (by (first | (simp [Value.oneCell']; done) | (intro u hu; simp only [List.mem_cons, List.not_mem_nil, or_false] at hu; rcases hu with rfl | rfl | rfl | rfl <;> first | rfl | assumption))) (by ((repeat (first | exact Find.head _ | apply Find.tail)); done)) (by (simp)) rfl ?_
        refine rj_nil ?_
        refine hK8 _ _ _ ?_
        refine cj_seq (fun K9 hK9 => ?_)
        refine cj_seq (fun K10 hK10 => ?_)
        refine cj_region ?_
        refine rj_val (wn0 rfl) rfl rfl (y_fieldAddr (k := 8) Try.underlying32 rfl (n := 1) (by decide) Try.sizeOf30 rfl) ?_
        first | refine rj_val (wn0 rfl) rfl rfl (y_load ⟨Try.isAgg30, Try.sizeOf30⟩ rfl (by ((repeat (first | exact Find.head _ | apply Find.tail)); done)) rfl) ?_ | refine rj_val (wn0 rfl) rfl rfl (y_load_slc ⟨Try.isAgg30, Try.sizeOf30⟩ rfl (by ((repeat (first | exact Find.head _ | apply Find.tail)); done)) rfl) ?_
        first | refine rj_val (wn0 rfl) rfl rfl (y_len_sl Try.underlying30 rfl) ?_ | refine rj_val (wn0 rfl) rfl rfl (y_len_slc Try.underlying30 rfl (by ((repeat (first | exact Find.head _ | apply Find.tail)); done))) ?_
        refine rj_val (wn0 rfl) rfl rfl (y_move rfl) ?_
        refine rj_nil ?_
        refine hK10 _ _ _ ?_
        refine cj_env (Env.le_cons (t := 1) rfl (Env.le_cons (t := 3) rfl (Env.le_cons (t := 24) rfl (Env.le_cons (t := 25) rfl (Env.le_cons (t := 26) rfl (Env.le_nil _)))))) ?_
        refine cj_block ?_
        refine cj_env (E' := (fun (x : Nat × Value × List (List Value) × Hp) => [(1, .pointer (some ⟨b1, 0, none⟩)), (3, .pointer (some ⟨b3, 0, none⟩)), (24, .slice q m.es.length cap), (25, .int .i64 (m.es.length : Int)), (26, .int .i64 (x.1 : Int))]) (0, .slice none 0 0, [], R)) (Env.le_cons rfl (Env.le_cons rfl (Env.le_cons rfl (Env.le_cons rfl (Env.le_cons rfl (Env.le_nil _)))))) ?_
        refine cj_sub (M := (fun (x : Nat × Value × List (List Value) × Hp) => blk b1 [.int .i64 m.kind, .int .i64 m.frm, .int .i64 m.to, .int .u64 m.term, .int .u64 m.index, .int .u64 m.logTerm, .int .u64 m.commit, .bool m.ok, .slice q m.es.length cap, .string (str m.state)] 32 :: blk b3 [.int .i64 2, .int .u64 0, .string (str []), x.2.1] 72 :: slc 72 4 x.2.1 x.1 x.2.2.1.flatten :: F) (0, .slice none 0 0, [], R)) (by (repeat (first | exact Sub.refl _ | (apply Sub.pick; focus (repeat (first | exact Find.head _ | apply Find.tail))) | apply Sub.drop | exact Sub.tailApp _ _))) ?_
        refine cj_loop (fun (x : Nat × Value × List (List Value) × Hp) => [(1, .pointer (some ⟨b1, 0, none⟩)), (3, .pointer (some ⟨b3, 0, none⟩)), (24, .slice q m.es.length cap), (25, .int .i64 (m.es.length : Int)), (26, .int .i64 (x.1 : Int))]) (fun (x : Nat × Value × List (List Value) × Hp) => x.2.2.2) (fun (x : Nat × Value × List (List Value) × Hp) => blk b1 [.int .i64 m.kind, .int .i64 m.frm, .int .i64 m.to, .int .u64 m.term, .int .u64 m.index, .int .u64 m.logTerm, .int .u64 m.commit, .bool m.ok, .slice q m.es.length cap, .string (str m.state)] 32 :: blk b3 [.int .i64 2, .int .u64 0, .string (str []), x.2.1] 72 :: slc 72 4 x.2.1 x.1 x.2.2.1.flatten :: F) (fun (x : Nat × Value × List (List Value) × Hp) => x.1 ≤ m.es.length ∧ R.le x.2.2.2 ∧ Kids x.2.2.2 ((m.es.take x.1).map entN) x.2.2.1 ∧ x.2.1.oneCell' = true) (fun (x : Nat × Value × List (List Value) × Hp) => m.es.length - x.1) (0, .slice none 0 0, [], R) (⟨by simp, Hp.le_refl R, by simpa using Kids.nil R, rfl⟩) ?_
        rintro ⟨i, v, css, R1⟩ ⟨hi, hR1, hk, hvo⟩
        try dsimp only
        dsimp only at hi hR1 hk hvo
        refine cj_seq (fun K11 hK11 => ?_)
        refine cj_region ?_
        refine rj_val (wn0 rfl) rfl rfl (y_lss rfl rfl) ?_
        refine rj_nil ?_
        refine hK11 _ _ _ ?_
        refine cj_seq (fun K12 hK12 => ?_)
        refine cj_cond rfl (fun hc27 => ?_) (fun hc27 => ?_)
        · try simp only [decide_eq_true_eq, decide_eq_false_iff_not, Bool.not_eq_true', Bool.not_eq_false', Bool.true_eq_false, Bool.false_eq_true] at hc27
          refine cj_skip ?_
          refine hK12 _ _ _ ?_
          refine cj_seq (fun K14 hK14 => ?_)
          refine cj_block ?_
          refine cj_seq (fun K15 hK15 => ?_)
          refine cj_region ?_
          obtain ⟨e, he⟩ : ∃ e, m.es[i]? = some e := ⟨m.es[i]'(by omega), by simp⟩
          obtain ⟨b, off, cap', cs, hee, rfl, hcl, hcell⟩ := (hve.mono hR1).at he
          obtain ⟨rfl, rfl⟩ : q = some ⟨b, off, none⟩ ∧ cap = cap' := by cases hee; exact ⟨rfl, rfl⟩
          have hmem := List.mem_of_getElem? he
          obtain ⟨et, ec⟩ := e
          have het := (hbd.es _ hmem).1
          have hec := hcmd _ hmem
          unfold u64B at het
          dsimp only at het hec
          obtain ⟨et, rfl⟩ := Int.eq_ofNat_of_zero_le het.1
          first | refine rj_val (wn0 rfl) rfl rfl (y_indexAddr Try.underlying30 Try.sizeOf60 rfl rfl (by (first | omega | (dsimp only; omega) | (simp; done) | (simp; omega)))) ?_ | refine rj_val (wn0 rfl) rfl rfl (y_index_slc Try.underlying30 Try.sizeOf60 rfl rfl (by ((repeat (first | exact Find.head _ | apply Find.tail)); done)) (by (first | omega | (dsimp only; omega) | (simp; done) | (simp; omega)))) ?_
          refine rj_val (wn0 rfl) rfl rfl ((y_loads_ro ⟨Try.isAgg60, Try.sizeOf60⟩ (vs := [.int .u64 (et : Int), .string (str ec)]) rfl rfl (fun j u hj => hcell j u hj))) ?_
          refine rj_alloc (wn0 rfl) rfl Try.zeroValue60 rfl (fun b5 => ?_)
          refine rj_stores ⟨Try.isAgg60, Try.sizeOf60⟩ rfl (wn0 rfl) rfl rfl (by (first | (simp [Value.oneCell']; done) | (intro u hu; simp only [List.mem_cons, List.not_mem_nil, or_false] at hu; rcases hu with rfl | rfl | rfl | rfl <;> first | rfl | assumption))) (by ((repeat (first | exact Find.head _ | apply Find.tail)); done)) (by (simp)) rfl ?_
          refine rj_nil ?_
          refine hK15 _ _ _ ?_
          refine cj_env (Env.le_cons (t := 1) rfl (Env.le_cons (t := 3) rfl (Env.le_cons (t := 5) rfl (Env.le_cons (t := 24) rfl (Env.le_cons (t := 25) rfl (Env.le_cons (t := 26) rfl (Env.le_nil _))))))) ?_
          refine cj_mixg (L := [blk b3 [.int .i64 2, .int .u64 0, .string (str []), v] 72, blk b5 [.int .u64 (et : Int), .string (str ec)] 60]) [0, 1, 2, 3, 4, 5, 6, 7] [8, 9, 10] [11, 12, 13] _ (by (repeat (first | exact Sub.refl _ | (apply Sub.pick; focus (repeat (first | exact Find.head _ | apply Find.tail))) | apply Sub.drop | exact Sub.tailApp _ _))) (by kernel_rfl) (by kernel_rfl) (by kernel_rfl) rfl ?_
          refine fj_val rfl rfl rfl (wn0 rfl) (fun R1 hR1 G => (y_fieldAddr (k := 3) Try.underlying72 rfl (n := 1) (by decide) Try.sizeOf70 rfl)) ?_
          first | refine fj_val rfl rfl rfl (wn0 rfl) (fun R1 hR1 G => (y_load ⟨Try.isAgg70, Try.sizeOf70⟩ rfl (by ((repeat (first | exact Find.head _ | apply Find.tail)); done)) rfl)) ?_ | refine fj_val rfl rfl rfl (wn0 rfl) (fun R1 hR1 G => (y_load_slc ⟨Try.isAgg70, Try.sizeOf70⟩ rfl (by ((repeat (first | exact Find.head _ | apply Find.tail)); done)) rfl)) ?_
          refine fj_val rfl rfl rfl (wn0 rfl) (fun R1 hR1 G => (y_fieldAddr (k := 0) Try.underlying60 rfl (n := 1) (by decide) Try.sizeOf27 rfl)) ?_
          first | refine fj_val rfl rfl rfl (wn0 rfl) (fun R1 hR1 G => (y_load ⟨Try.isAgg27, Try.sizeOf27⟩ rfl (by ((repeat (first | exact Find.head _ | apply Find.tail)); done)) rfl)) ?_ | refine fj_val rfl rfl rfl (wn0 rfl) (fun R1 hR1 G => (y_load_slc ⟨Try.isAgg27, Try.sizeOf27⟩ rfl (by ((repeat (first | exact Find.head _ | apply Find.tail)); done)) rfl)) ?_
          refine fj_val rfl rfl rfl (wn0 rfl) (fun R1 hR1 G => (y_call Try.call28 rfl (numN_q _) (by (repeat (first | exact Split.nil _ | (apply Split.cons; focus (repeat (first | exact Find.head _ | apply Find.tail)))))))) ?_
          refine fj_val rfl rfl rfl (wn0 rfl) (fun R1 hR1 G => (y_fieldAddr (k := 1) Try.underlying60 rfl (n := 1) (by decide) Try.sizeOf9 rfl)) ?_
          first | refine fj_val rfl rfl rfl (wn0 rfl) (fun R1 hR1 G => (y_load ⟨Try.isAgg9, Try.sizeOf9⟩ rfl (by ((repeat (first | exact Find.head _ | apply Find.tail)); done)) rfl)) ?_ | refine fj_val rfl rfl rfl (wn0 rfl) (fun R1 hR1 G => (y_load_slc ⟨Try.isAgg9, Try.sizeOf9⟩ rfl (by ((repeat (first | exact Find.head _ | apply Find.tail)); done)) rfl)) ?_
          refine fj_val rfl rfl rfl (wn0 rfl) (fun R1 hR1 G => (y_call Try.call29 rfl (numS_q _) (by (repeat (first | exact Split.nil _ | (apply Split.cons; focus (repeat (first | exact Find.head _ | apply Find.tail)))))))) ?_
          refine fj_nil ?_
          refine xj_rj rfl ?_
          try simp only [List.cons_append, List.nil_append, List.append_nil]
          refine rj_buildSlice (sz := 4) (wn0 rfl) rfl Try.underlying70 Try.sizeOf72 Try.zeroValue72 rfl rfl rfl (by decide) (by decide) (fun bz => ?_)
          refine rj_xk (by (first | exact Hp.le_refl _ | assumption | exact Hp.le_trans ‹_› ‹_›)) (by (repeat (first | exact Sub.refl _ | (apply Sub.pick; focus (repeat (first | exact Find.head _ | apply Find.tail))) | apply Sub.drop | exact Sub.tailApp _ _))) ?_
          refine xj_rj rfl ?_
          try simp only [List.cons_append, List.nil_append, List.append_nil]
          refine rj_call (wn0 rfl) rfl Try.call27 rfl (mkL_t _ [.mk 0 et [] [], .mk 1 0 ec []] [[.int .i64 0, .int .u64 ((et : Nat) : Int), .string (str []), .slice none 0 0], [.int .i64 1, .int .u64 ((0 : Nat) : Int), .string (str ec), .slice none 0 0]] (.cons (num_rep R1 _) (.cons (txt_rep R1 hec) (.nil R1))) (by simp)) (by (repeat (first | exact Split.nil _ | (apply Split.cons; focus (repeat (first | exact Find.head _ | apply Find.tail)))))) (fun _ _ _ _ h => h.elim) ?_
          rintro r R2 L' hR2 ⟨⟨cy, rfl, hy⟩, rfl⟩
          have hkn : ∃ q2 cap2, cy = [.int .i64 2, .int .u64 ((0 : Nat) : Int), .string (str []), .slice q2 2 cap2] := by obtain ⟨k0, n0, st0, l0, q0, cap0, he0, rfl, _⟩ := hy.inv; cases he0; exact ⟨q0, cap0, rfl⟩
          obtain ⟨q2, cap2, rfl⟩ := hkn
          have hkn : Kids R2 ((m.es.take (i + 1)).map entN) (css ++ [[.int .i64 2, .int .u64 ((0 : Nat) : Int), .string (str []), .slice q2 2 cap2]]) := by rw [List.take_add_one, he, List.map_append]; exact (hk.mono hR2).snoc hy
          try simp only [List.cons_append, List.nil_append]
          refine rj_xk (by (first | exact Hp.le_refl _ | assumption | exact Hp.le_trans ‹_› ‹_›)) (by (repeat (first | exact Sub.refl _ | (apply Sub.pick; focus (repeat (first | exact Find.head _ | apply Find.tail))) | apply Sub.drop | exact Sub.tailApp _ _))) ?_
          refine xj_rj rfl ?_
          try simp only [List.cons_append, List.nil_append, List.append_nil]
          refine rj_buildSlice (sz := 4) (wn0 rfl) rfl Try.underlying70 Try.sizeOf72 Try.zeroValue72 rfl rfl rfl (by decide) (by decide) (fun bw => ?_)
          refine rj_xk (by (first | exact Hp.le_refl _ | assumption | exact Hp.le_trans ‹_› ‹_›)) (by (repeat (first | exact Sub.refl _ | (apply Sub.pick; focus (repeat (first | exact Find.head _ | apply Find.tail))) | apply Sub.drop | exact Sub.tailApp _ _))) ?_
          refine xj_nil ?_
          try simp only [List.cons_append, List.nil_append, List.append_nil]
          refine rj_append (sz := 4) (by_ := 56) ⟨Try.underlying70, _, _, rfl, rfl, rfl, rfl, rfl⟩ (wn0 rfl) rfl rfl rfl (by ((repeat (first | exact Find.head _ | apply Find.tail)); done)) (src_slc (xs := [.int .i64 2, .int .u64 ((0 : Nat) : Int), .string (str []), .slice q2 2 cap2]) Try.underlying70 (by ((repeat (first | exact Find.head _ | apply Find.tail)); done)) (by (first | (simp [Value.oneCell']; done) | (intro u hu; simp only [List.mem_cons, List.not_mem_nil, or_false] at hu; rcases hu with rfl | rfl | rfl | rfl <;> first | rfl | assumption)))) rfl (by (first | omega | (dsimp only; omega) | (simp; done) | (simp; omega))) (by simp only [maxLen]; omega) (fun v41 ho41 hh41 => ?_)
          rw [flat_snoc]
          refine rj_val (wn0 rfl) rfl rfl (y_fieldAddr (k := 3) Try.underlying72 rfl (n := 1) (by decide) Try.sizeOf70 rfl) ?_
          refine rj_store ⟨Try.isAgg70, Try.sizeOf70⟩ (wn0 rfl) rfl rfl (by (first | rfl | assumption | (apply cutV_one; assumption))) (by ((repeat (first | exact Find.head _ | apply Find.tail)); done)) rfl rfl ?_
          refine rj_nil ?_
          refine hK14 _ _ _ ?_
          refine cj_env (Env.le_cons (t := 1) rfl (Env.le_cons (t := 3) rfl (Env.le_cons (t := 24) rfl (Env.le_cons (t := 25) rfl (Env.le_cons (t := 26) rfl (Env.le_nil _)))))) ?_
          refine cj_region ?_
          first | refine rj_val (wn0 rfl) rfl rfl (y_add64 rfl rfl (by (first | omega | (dsimp only; omega) | (simp; done) | (simp; omega)))) ?_ | refine rj_val (wn0 rfl) rfl rfl (y_add rfl rfl) ?_
          refine rj_val (wn0 rfl) rfl rfl (y_move rfl) ?_
          refine rj_nil ?_
          refine ej_on (q' := roundK _ _ _ _ _ _ _) rfl ?_
          refine ej_round ((i + 1, v41, css ++ [[.int .i64 2, .int .u64 ((0 : Nat) : Int), .string (str []), .slice q2 2 cap2]], R2)) (⟨by dsimp only; omega, Hp.le_trans hR1 hR2, hkn, by assumption⟩) (by dsimp only; omega) (Env.le_cons rfl (Env.le_cons rfl (Env.le_cons rfl (Env.le_cons rfl (Env.le_cons rfl (Env.le_nil _)))))) rfl (by (repeat (first | exact Sub.refl _ | (apply Sub.pick; focus (repeat (first | exact Find.head _ | apply Find.tail))) | apply Sub.drop | exact Sub.tailApp _ _)))
        · try simp only [decide_eq_true_eq, decide_eq_false_iff_not, Bool.not_eq_true', Bool.not_eq_false', Bool.true_eq_false, Bool.false_eq_true] at hc27
          refine cj_exit ?_
          refine hK9 _ _ _ ?_
          refine cj_env (Env.le_cons (t := 1) rfl (Env.le_cons (t := 3) rfl (Env.le_nil _))) ?_
          refine cj_seq (fun K16 hK16 => ?_)
          refine cj_region ?_
          refine rj_val (wn0 rfl) rfl rfl (y_assign rfl) ?_
          refine rj_nil ?_
          refine hK16 _ _ _ ?_
          refine cj_seq (fun K17 hK17 => ?_)
          have hJ12 : ∀ (x : Unit), True → EJ ⟨Try.prog, 85, σ⟩ K17 [(1, .pointer (some ⟨b1, 0, none⟩)), (3, .pointer (some ⟨b3, 0, none⟩)), (6, .int .u64 (((okN m.ok).toNat : Nat) : Int))] R1 (blk b1 [.int .i64 m.kind, .int .i64 m.frm, .int .i64 m.to, .int .u64 m.term, .int .u64 m.index, .int .u64 m.logTerm, .int .u64 m.commit, .bool m.ok, .slice q m.es.length cap, .string (str m.state)] 32 :: blk b3 [.int .i64 2, .int .u64 0, .string (str []), v] 72 :: slc 72 4 v i css.flatten :: F) := by
            rintro ⟨⟩ hI12
            try dsimp only
            have hil : i = m.es.length := by (try simp at hc27); omega
            subst hil
            refine hK17 _ _ _ ?_
            refine cj_seq (fun K18 hK18 => ?_)
            refine cj_freeze (e := 72) (sz := 4) (n := m.es.length) (v := v) (xs := css.flatten) (by ((repeat (first | exact Find.head _ | apply Find.tail)); done)) (fun R3 hR3 hfr hxl => ?_)
            have hkl : ((m.es.take m.es.length).map entN).length = m.es.length := by simp
            obtain ⟨q3, cap3, rfl, hrl⟩ := (hk.mono hR3).repL (by rw [hkl]; exact hfr) (by rw [hkl]; unfold big; omega)
            rw [List.take_of_length_le (Nat.le_refl _)] at hrl
            rw [hkl]
            have hen : RepN R3 (.mk 2 0 [] (m.es.map entN)) [.int .i64 2, .int .u64 ((0 : Nat) : Int), .string (str []), .slice q3 m.es.length cap3] := by have hh := RepL.node (k := 2) (n := 0) (s := []) (by simp [big]) hrl; rw [List.length_map] at hh; exact hh
            have hten := ten_kids hen hst
            refine cj_mixt (L := [blk b1 [.int .i64 m.kind, .int .i64 m.frm, .int .i64 m.to, .int .u64 m.term, .int .u64 m.index, .int .u64 m.logTerm, .int .u64 m.commit, .bool m.ok, .slice q m.es.length cap, .string (str m.state)] 32, blk b3 [.int .i64 2, .int .u64 0, .string (str []), .slice q3 m.es.length cap3] 72]) [0, 1, 2, 3, 4, 5, 6, 7, 8, 9, 10, 11, 12, 13, 14, 15, 16, 17, 18, 19, 20, 21, 22, 23, 24, 25, 26, 27, 28, 29, 30, 31] [] [32, 33, 34, 35, 36, 37, 38, 39] _ (by (repeat (first | exact Sub.refl _ | (apply Sub.pick; focus (repeat (first | exact Find.head _ | apply Find.tail))) | apply Sub.drop | exact Sub.tailApp _ _))) (by kernel_rfl) (by kernel_rfl) ?_
            refine fj_val rfl rfl rfl (wn0 rfl) (fun R1 hR1 G => (y_fieldAddr (k := 0) Try.underlying32 rfl (n := 1) (by decide) Try.sizeOf3 rfl)) ?_
            first | refine fj_val rfl rfl rfl (wn0 rfl) (fun R1 hR1 G => (y_load ⟨Try.isAgg3, Try.sizeOf3⟩ rfl (by ((repeat (first | exact Find.head _ | apply Find.tail)); done)) rfl)) ?_ | refine fj_val rfl rfl rfl (wn0 rfl) (fun R1 hR1 G => (y_load_slc ⟨Try.isAgg3, Try.sizeOf3⟩ rfl (by ((repeat (first | exact Find.head _ | apply Find.tail)); done)) rfl)) ?_
            refine fj_val rfl rfl rfl (wn0 rfl) (fun R1 hR1 G => (Yld.to (y_conv Try.underlying3 Try.underlying27 rfl) (congrArg (Value.int .u64) (u64_of_i64 ⟨hb'.1, hkd.2⟩)))) ?_
            refine fj_val rfl rfl rfl (wn0 rfl) (fun R1 hR1 G => (y_call Try.call28 rfl (numN_q _) (by (repeat (first | exact Split.nil _ | (apply Split.cons; focus (repeat (first | exact Find.head _ | apply Find.tail)))))))) ?_
            refine fj_val rfl rfl rfl (wn0 rfl) (fun R1 hR1 G => (y_fieldAddr (k := 1) Try.underlying32 rfl (n := 1) (by decide) Try.sizeOf3 rfl)) ?_
            first | refine fj_val rfl rfl rfl (wn0 rfl) (fun R1 hR1 G => (y_load ⟨Try.isAgg3, Try.sizeOf3⟩ rfl (by ((repeat (first | exact Find.head _ | apply Find.tail)); done)) rfl)) ?_ | refine fj_val rfl rfl rfl (wn0 rfl) (fun R1 hR1 G => (y_load_slc ⟨Try.isAgg3, Try.sizeOf3⟩ rfl (by ((repeat (first | exact Find.head _ | apply Find.tail)); done)) rfl)) ?_
            refine fj_val rfl rfl rfl (wn0 rfl) (fun R1 hR1 G => (y_add rfl rfl)) ?_
            refine fj_val rfl rfl rfl (wn0 rfl) (fun R1 hR1 G => (Yld.to (y_conv Try.underlying3 Try.underlying27 rfl) (congrArg (Value.int .u64) (u64_of_succ ⟨hb'.2.1, hfrm.2⟩)))) ?_
            refine fj_val rfl rfl rfl (wn0 rfl) (fun R1 hR1 G => (y_call Try.call28 rfl (numN_q _) (by (repeat (first | exact Split.nil _ | (apply Split.cons; focus (repeat (first | exact Find.head _ | apply Find.tail)))))))) ?_
            refine fj_val rfl rfl rfl (wn0 rfl) (fun R1 hR1 G => (y_fieldAddr (k := 2) Try.underlying32 rfl (n := 1) (by decide) Try.sizeOf3 rfl)) ?_
            first | refine fj_val rfl rfl rfl (wn0 rfl) (fun R1 hR1 G => (y_load ⟨Try.isAgg3, Try.sizeOf3⟩ rfl (by ((repeat (first | exact Find.head _ | apply Find.tail)); done)) rfl)) ?_ | refine fj_val rfl rfl rfl (wn0 rfl) (fun R1 hR1 G => (y_load_slc ⟨Try.isAgg3, Try.sizeOf3⟩ rfl (by ((repeat (first | exact Find.head _ | apply Find.tail)); done)) rfl)) ?_
            refine fj_val rfl rfl rfl (wn0 rfl) (fun R1 hR1 G => (y_add rfl rfl)) ?_
            refine fj_val rfl rfl rfl (wn0 rfl) (fun R1 hR1 G => (Yld.to (y_conv Try.underlying3 Try.underlying27 rfl) (congrArg (Value.int .u64) (u64_of_succ ⟨hb'.2.2, hto.2⟩)))) ?_
            refine fj_val rfl rfl rfl (wn0 rfl) (fun R1 hR1 G => (y_call Try.call28 rfl (numN_q _) (by (repeat (first | exact Split.nil _ | (apply Split.cons; focus (repeat (first | exact Find.head _ | apply Find.tail)))))))) ?_
            refine fj_val rfl rfl rfl (wn0 rfl) (fun R1 hR1 G => (y_fieldAddr (k := 3) Try.underlying32 rfl (n := 1) (by decide) Try.sizeOf27 rfl)) ?_
            refine fj_val rfl rfl rfl (wn0 rfl) (fun R1 hR1 G => (Yld.to (y_load ⟨Try.isAgg27, Try.sizeOf27⟩ rfl (by ((repeat (first | exact Find.head _ | apply Find.tail)); done)) rfl) (show _ = Value.int .u64 ((m.term.toNat : Nat) : Int) by congr 1; omega))) ?_
            refine fj_val rfl rfl rfl (wn0 rfl) (fun R1 hR1 G => (y_call Try.call28 rfl (numN_q _) (by (repeat (first | exact Split.nil _ | (apply Split.cons; focus (repeat (first | exact Find.head _ | apply Find.tail)))))))) ?_
            refine fj_val rfl rfl rfl (wn0 rfl) (fun R1 hR1 G => (y_fieldAddr (k := 4) Try.underlying32 rfl (n := 1) (by decide) Try.sizeOf27 rfl)) ?_
            refine fj_val rfl rfl rfl (wn0 rfl) (fun R1 hR1 G => (Yld.to (y_load ⟨Try.isAgg27, Try.sizeOf27⟩ rfl (by ((repeat (first | exact Find.head _ | apply Find.tail)); done)) rfl) (show _ = Value.int .u64 ((m.index.toNat : Nat) : Int) by congr 1; omega))) ?_
            refine fj_val rfl rfl rfl (wn0 rfl) (fun R1 hR1 G => (y_call Try.call28 rfl (numN_q _) (by (repeat (first | exact Split.nil _ | (apply Split.cons; focus (repeat (first | exact Find.head _ | apply Find.tail)))))))) ?_
            refine fj_val rfl rfl rfl (wn0 rfl) (fun R1 hR1 G => (y_fieldAddr (k := 5) Try.underlying32 rfl (n := 1) (by decide) Try.sizeOf27 rfl)) ?_
            refine fj_val rfl rfl rfl (wn0 rfl) (fun R1 hR1 G => (Yld.to (y_load ⟨Try.isAgg27, Try.sizeOf27⟩ rfl (by ((repeat (first | exact Find.head _ | apply Find.tail)); done)) rfl) (show _ = Value.int .u64 ((m.logTerm.toNat : Nat) : Int) by congr 1; omega))) ?_
            refine fj_val rfl rfl rfl (wn0 rfl) (fun R1 hR1 G => (y_call Try.call28 rfl (numN_q _) (by (repeat (first | exact Split.nil _ | (apply Split.cons; focus (repeat (first | exact Find.head _ | apply Find.tail)))))))) ?_
            refine fj_val rfl rfl rfl (wn0 rfl) (fun R1 hR1 G => (y_fieldAddr (k := 6) Try.underlying32 rfl (n := 1) (by decide) Try.sizeOf27 rfl)) ?_
            refine fj_val rfl rfl rfl (wn0 rfl) (fun R1 hR1 G => (Yld.to (y_load ⟨Try.isAgg27, Try.sizeOf27⟩ rfl (by ((repeat (first | exact Find.head _ | apply Find.tail)); done)) rfl) (show _ = Value.int .u64 ((m.commit.toNat : Nat) : Int) by congr 1; omega))) ?_
            refine fj_val rfl rfl rfl (wn0 rfl) (fun R1 hR1 G => (y_call Try.call28 rfl (numN_q _) (by (repeat (first | exact Split.nil _ | (apply Split.cons; focus (repeat (first | exact Find.head _ | apply Find.tail)))))))) ?_
            refine fj_val rfl rfl rfl (wn0 rfl) (fun R1 hR1 G => (y_move rfl)) ?_
            refine fj_val rfl rfl rfl (wn0 rfl) (fun R1 hR1 G => (y_call Try.call28 rfl (numN_q _) (by (repeat (first | exact Split.nil _ | (apply Split.cons; focus (repeat (first | exact Find.head _ | apply Find.tail)))))))) ?_
            first | refine fj_val rfl rfl rfl (wn0 rfl) (fun R1 hR1 G => (y_loads_blk ⟨Try.isAgg72, Try.sizeOf72⟩ rfl (by ((repeat (first | exact Find.head _ | apply Find.tail)); done)) rfl rfl)) ?_ | refine fj_val rfl rfl rfl (wn0 rfl) (fun R1 hR1 G => (y_loads_slc ⟨Try.isAgg72, Try.sizeOf72⟩ rfl (by ((repeat (first | exact Find.head _ | apply Find.tail)); done)) rfl rfl (by (first | omega | (dsimp only; omega) | (simp; done) | (simp; omega))))) ?_
            refine fj_val rfl rfl rfl (wn0 rfl) (fun R1 hR1 G => (y_fieldAddr (k := 9) Try.underlying32 rfl (n := 1) (by decide) Try.sizeOf9 rfl)) ?_
            first | refine fj_val rfl rfl rfl (wn0 rfl) (fun R1 hR1 G => (y_load ⟨Try.isAgg9, Try.sizeOf9⟩ rfl (by ((repeat (first | exact Find.head _ | apply Find.tail)); done)) rfl)) ?_ | refine fj_val rfl rfl rfl (wn0 rfl) (fun R1 hR1 G => (y_load_slc ⟨Try.isAgg9, Try.sizeOf9⟩ rfl (by ((repeat (first | exact Find.head _ | apply Find.tail)); done)) rfl)) ?_
            refine fj_val rfl rfl rfl (wn0 rfl) (fun R1 hR1 G => (y_call Try.call29 rfl (numS_q _) (by (repeat (first | exact Split.nil _ | (apply Split.cons; focus (repeat (first | exact Find.head _ | apply Find.tail)))))))) ?_
            refine fj_nil ?_
            refine xj_nil ?_
            try simp only [List.cons_append, List.nil_append, List.append_nil]
            refine tj_all (rs := [32]) (by kernel_rfl) (by decide) ⟨⟨_, rfl, ?_⟩, trivial⟩
            refine rj_buildSlice (sz := 4) (wn0 rfl) rfl Try.underlying70 Try.sizeOf72 Try.zeroValue72 rfl rfl rfl (by decide) (by decide) (fun bt => ?_)
            refine rj_tj ?_
            refine tj_all (rs := [33]) (by kernel_rfl) (by decide) ⟨⟨_, rfl, ?_⟩, trivial⟩
            refine rj_call (wn0 rfl) rfl Try.call27 rfl (mkL_t _ (msgKids m) (tenC m [.int .i64 2, .int .u64 ((0 : Nat) : Int), .string (str []), .slice q3 m.es.length cap3]) hten (by simp [msgKids])) (by (repeat (first | exact Split.nil _ | (apply Split.cons; focus (repeat (first | exact Find.head _ | apply Find.tail)))))) (fun _ _ _ _ h => h.elim) ?_
            rintro r R4 L' hR4 ⟨⟨cy, rfl, hy⟩, rfl⟩
            try simp only [List.cons_append, List.nil_append]
            refine rj_tj ?_
            refine tj_all (rs := [34]) (by kernel_rfl) (by decide) ⟨⟨_, rfl, ?_⟩, trivial⟩
            refine rj_val (wn0 rfl) rfl rfl (y_call Try.call30 rfl (write_t (msgN m) _ hy (msgN_ok hbd hb)) (by (repeat (first | exact Split.nil _ | (apply Split.cons; focus (repeat (first | exact Find.head _ | apply Find.tail))))))) ?_
            refine rj_tj ?_
            refine tj_all (rs := [35]) (by kernel_rfl) (by decide) ⟨⟨_, rfl, ?_⟩, trivial⟩
            refine rj_val (wn0 rfl) rfl rfl (y_move rfl) ?_
            refine rj_tj ?_
            refine tj_take (i := 36) rfl rfl rfl (by kernel_rfl) (by kernel_rfl) (by kernel_rfl) (wn0 rfl) rfl (fun σ => (y_extract rfl rfl)) ?_
            refine tj_take (i := 37) rfl rfl rfl (by kernel_rfl) (by kernel_rfl) (by kernel_rfl) (wn0 rfl) rfl (fun σ => (y_extract rfl rfl)) ?_
            refine tj_all (rs := [38]) (by kernel_rfl) (by decide) ⟨⟨_, rfl, ?_⟩, trivial⟩
            refine rj_val (wn0 rfl) rfl rfl (y_assign rfl) ?_
            refine rj_tj ?_
            refine tj_all (rs := [39]) (by kernel_rfl) (by decide) ⟨⟨_, rfl, ?_⟩, trivial⟩
            refine rj_val (wn0 rfl) rfl rfl (y_assign rfl) ?_
            refine rj_tj ?_
            refine tj_done (by kernel_rfl) ?_
            refine hK18 _ _ _ ?_
            refine cj_env (Env.le_cons (t := 7) rfl (Env.le_nil _)) ?_
            refine cj_seq (fun K19 hK19 => ?_)
            refine cj_region ?_
            refine rj_val (wn0 rfl) rfl rfl (y_move rfl) ?_
            refine rj_val (wn0 rfl) rfl rfl (y_assign rfl) ?_
            refine rj_nil ?_
            refine hK19 _ _ _ ?_
            refine cj_ret ?_
            refine hret _ _ _ ?_
            apply ej_ret Try.results20 (.cons (rv_tmp rfl) .nil) _ [] (by first | exact Hp.le_refl _ | exact Hp.le_trans hR1 (Hp.le_trans hR3 hR4)) rfl
            case hp => refine ⟨?_, rfl⟩; rw [bytesM, if_pos hb]; rfl
            case hS => (repeat (first | exact Sub.refl _ | (apply Sub.pick; focus (repeat (first | exact Find.head _ | apply Find.tail))) | apply Sub.drop | exact Sub.tailApp _ _))
          refine cj_seq (fun K20 hK20 => ?_)
          refine cj_region ?_
          refine rj_val (wn0 rfl) rfl rfl (y_fieldAddr (k := 7) Try.underlying32 rfl (n := 1) (by decide) Try.sizeOf4 rfl) ?_
          first | refine rj_val (wn0 rfl) rfl rfl (y_load ⟨Try.isAgg4, Try.sizeOf4⟩ rfl (by ((repeat (first | exact Find.head _ | apply Find.tail)); done)) rfl) ?_ | refine rj_val (wn0 rfl) rfl rfl (y_load_slc ⟨Try.isAgg4, Try.sizeOf4⟩ rfl (by ((repeat (first | exact Find.head _ | apply Find.tail)); done)) rfl) ?_
          refine rj_nil ?_
          refine hK20 _ _ _ ?_
          refine cj_cond rfl (fun hc45 => ?_) (fun hc45 => ?_)
          · try simp only [decide_eq_true_eq, decide_eq_false_iff_not, Bool.not_eq_true', Bool.not_eq_false', Bool.true_eq_false, Bool.false_eq_true] at hc45
            refine cj_region ?_
            refine rj_val (wn0 rfl) rfl rfl (y_assign rfl) ?_
            refine rj_nil ?_
            refine ej_join hJ12 (()) (trivial) (Env.le_cons rfl (Env.le_cons rfl (Env.le_cons (Eq.trans rfl (congrArg some (by first | rfl | (rw [hc45]; rfl)))) (Env.le_nil _)))) rfl (by (repeat (first | exact Sub.refl _ | (apply Sub.pick; focus (repeat (first | exact Find.head _ | apply Find.tail))) | apply Sub.drop | exact Sub.tailApp _ _)))
          · try simp only [decide_eq_true_eq, decide_eq_false_iff_not, Bool.not_eq_true', Bool.not_eq_false', Bool.true_eq_false, Bool.false_eq_true] at hc45
            refine cj_skip ?_
            refine ej_join hJ12 (()) (trivial) (Env.le_cons rfl (Env.le_cons rfl (Env.le_cons (Eq.trans rfl (congrArg some (by first | rfl | (rw [hc45]; rfl)))) (Env.le_nil _)))) rfl (by (repeat (first | exact Sub.refl _ | (apply Sub.pick; focus (repeat (first | exact Find.head _ | apply Find.tail))) | apply Sub.drop | exact Sub.tailApp _ _)))
end V
end Go.Proofs.Ythdmbdbncbdmiaa
