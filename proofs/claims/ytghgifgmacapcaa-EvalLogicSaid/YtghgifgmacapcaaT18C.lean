/- The law EvalReckons, walked; expressions of two values. -/
import Derived.Test.YtghgifgmacapcaaT18w
set_option linter.unusedSimpArgs false
set_option linter.unusedVariables false
set_option maxRecDepth 100000
namespace Go.Proofs.Ytghgifgmacapcaa
open Go.RowKit
namespace V
set_option maxHeartbeats 4000000
def lit (v : Vl) : Ex := .mk .val v [] []
theorem lit_wf {v : Vl} (h : sndV v) : WfX (lit v) := .leaf rfl h.1 h.2
theorem lit_rep {R : Hp} (v : Vl) : RepX R (lit v) (exC Op.val.str v [] (.slice none 0 0)) := .leaf _ _ _
theorem kinds_lit (m : Bool) (x y : Vl) : kindsX [] m [lit x, lit y] = ([x.kind, y.kind], 0) := by simp [kindsX, kindX, lit, fam]
theorem ofV_two {op : Op} {x y : Vl} (h2 : arity op = 2) (hk : (kstep [] false op Vl.zero [] ([x.kind, y.kind], 0)).2 = 0) : ofV [] [] (.mk op Vl.zero [] [lit x, lit y]) = vstep op [x, y] := by
  have h5 : ¬ fam op = 5 := by cases op <;> first | decide | cases h2
  have hX : kindX [] false (.mk op Vl.zero [] [lit x, lit y]) = kstep [] false op Vl.zero [] ([x.kind, y.kind], 0) := by rw [kindX_step, kinds_lit]
  have hg : grp (.mk op Vl.zero [] [lit x, lit y]) = false := by
    have hl : ∀ v, grp (lit v) = false := fun v => by simp [grp, grpL, lit, fam]
    rw [grp, decide_eq_false h5]; simp [grpL, hl]
  have hE : (kindE [] false (.mk op Vl.zero [] [lit x, lit y])).2 = 0 := by
    unfold kindE
    dsimp only
    rw [hg, if_neg (by simp), hX]; exact hk
  unfold ofV
  rw [if_pos ⟨hE, rfl⟩, evX, if_neg (by rintro rfl; cases h2), if_neg (by rintro rfl; cases h2), if_neg (by rintro rfl; cases h2), if_neg h5]
  have e : ∀ z : Vl, evX vstep gstep [] [[]] (lit z) = .ok z := fun z => by rw [lit, evX, if_pos rfl]
  simp only [evL, e]
def twoV (op : Op) (a b : Int) : Int × Int := match reckV op a b with
  | .ok n => (n, 0)
  | .error e => (0, e)
def rOp (op : Op) : Bool := match op with
  | .add | .sub | .mul | .div | .rem => true
  | _ => false
theorem ofV_reck {op : Op} (h : rOp op = true) (a b : Int) : ofV [] [] (.mk op Vl.zero [] [lit ⟨1, a, []⟩, lit ⟨1, b, []⟩]) = numV (reckV op a b) := by
  rw [ofV_two (by cases op <;> first | rfl | cases h) (by cases op <;> first | rfl | cases h)]
  cases op <;> first | rfl | cases h
theorem pair_two (op : Op) (a b : Int) : ∃ s k, pairV (numV (reckV op a b)) = tupOf [.agg ⟨valC ⟨k, (twoV op a b).1, s⟩⟩, .int .i64 (twoV op a b).2] := by
  unfold twoV
  cases reckV op a b with
  | ok n => exact ⟨[], 1, rfl⟩
  | error e => exact ⟨[], 0, rfl⟩
theorem two_q {R : Hp} (op : Op) (h : rOp op = true) (a b : Int) (ha : inI a) (hb : inI b) : QTri Try.prog 31 [.string (str op.str), .int .i64 a, .int .i64 b] R [] (tupOf [.int .i64 (twoV op a b).1, .int .i64 (twoV op a b).2]) := by
  obtain ⟨s, k, hp⟩ := pair_two op a b
  refine Tri.q2 ?_
  refine tri_of Try.func31 rfl Try.ntmps31 rfl (fun σ F Q hret hend hpan => ?_)
  try simp only [List.cons_append, List.nil_append]
  refine cj_env (eL 0 rfl (eL 1 rfl (eL 2 rfl eN))) ?_
  refine cj_seq (fun K1 hK1 => ?_)
  refine cj_region ?_
  refine rv0 rfl rfl rfl (y_assign rfl) ?_
  refine rv0 rfl rfl rfl (y_assign rfl) ?_
  refine rj_nil ?_
  refine hK1 _ _ _ ?_
  refine cj_seq (fun K2 hK2 => ?_)
  refine cj_region ?_
  refine rv0 rfl rfl rfl (y_move rfl) ?_
  refine rv0 rfl rfl rfl (y_move rfl) ?_
  refine rv0 rfl rfl rfl (y_build (cells := [_, _, _]) [(0, 1), (1, 1), (2, 1)] Try.underlying26 Try.zeroValue26 (fun _ => rfl) rfl rfl) ?_
  refine rv0 rfl rfl rfl (y_build (cells := [_, _, _, _, _, _]) [(0, 1), (1, 3), (4, 1), (5, 1)] Try.underlying29 Try.zeroValue29 (fun _ => rfl) rfl rfl) ?_
  refine rv0 rfl rfl rfl (y_move rfl) ?_
  refine rv0 rfl rfl rfl (y_build (cells := [_, _, _]) [(0, 1), (1, 1), (2, 1)] Try.underlying26 Try.zeroValue26 (fun _ => rfl) rfl rfl) ?_
  refine rv0 rfl rfl rfl (y_build (cells := [_, _, _, _, _, _]) [(0, 1), (1, 3), (4, 1), (5, 1)] Try.underlying29 Try.zeroValue29 (fun _ => rfl) rfl rfl) ?_
  refine rj_buildSlice (sz := 6) (wn0 rfl) rfl Try.underlying27 Try.sizeOf29 Try.zeroValue29 rfl rfl rfl (by decide) (by decide) (fun bk => ?_)
  refine rj_freeze (e := 29) (sz := 6) (n := 2) (xs := exC Op.val.str ⟨1, a, []⟩ [] (.slice none 0 0) ++ exC Op.val.str ⟨1, b, []⟩ [] (.slice none 0 0)) (by (repeat (first|exact zH _|apply zT));done) (fun R1 hR1 hfr1 hxl1 => ?_)
  have hx : RepX R1 (.mk op Vl.zero [] [lit ⟨1, a, []⟩, lit ⟨1, b, []⟩]) (exC op.str Vl.zero [] (.slice (some ⟨bk, 0, none⟩) 2 2)) := RepX.of (kidsFr2 hfr1 (lit_rep _) (lit_rep _))
  have hw : WfX (.mk op Vl.zero [] [lit ⟨1, a, []⟩, lit ⟨1, b, []⟩]) := .two (by cases op <;> first | rfl | cases h) (lit_wf (.num ha)) (lit_wf (.num hb))
  refine rv0 rfl rfl rfl (y_build (cells := [_, _, _, _, _, _]) [(0, 1), (1, 3), (4, 1), (5, 1)] Try.underlying29 Try.zeroValue29 (fun _ => rfl) rfl rfl) ?_
  refine rv0 rfl rfl rfl (y_call Try.call19 rfl ((Of_q _ (exC op.str Vl.zero [] (.slice (some ⟨bk, 0, none⟩) 2 2)) [] (.slice none 0 0) [] (.slice none 0 0) hw hx FrX.nil (fun c hc => by simp at hc) FrX.nil (fun v hv => by simp at hv)).eq ((congrArg pairV (ofV_reck h a b)).trans hp)) (by (repeat (first|exact zN _|(apply zS;focus (repeat (first|exact zH _|apply zT))))))) ?_
  refine rv0 rfl rfl rfl (y_move rfl) ?_
  refine rv0 rfl rfl rfl (y_extract rfl rfl) ?_
  refine rv0 rfl rfl rfl (y_extract rfl rfl) ?_
  refine rj_alloc (wn0 rfl) rfl Try.zeroValue26 rfl (fun b8 => ?_)
  refine rj_stores_all (vs := valC ⟨k, (twoV op a b).1, s⟩) ⟨Try.isAgg26, Try.sizeOf26⟩ rfl (wn0 rfl) rfl rfl (valE.one (R := R) (x := ⟨k, (twoV op a b).1, s⟩) rfl) (by (repeat (first|exact zH _|apply zT));done) rfl ?_
  refine rv0 rfl rfl rfl (y_assign rfl) ?_
  refine rj_nil ?_
  refine hK2 _ _ _ ?_
  refine cj_env (eL 8 rfl (eL 9 rfl eN)) ?_
  refine cj_seq (fun K3 hK3 => ?_)
  refine cj_region ?_
  refine rv0 rfl rfl rfl (y_fieldAddr (k := 1) Try.underlying26 rfl (n := 1) (by decide) Try.sizeOf2 rfl) ?_
  refine rv0 rfl rfl rfl ((y_load ⟨Try.isAgg2, Try.sizeOf2⟩ rfl (by (repeat (first|exact zH _|apply zT));done) rfl)) ?_
  refine rv0 rfl rfl rfl (y_move rfl) ?_
  refine rv0 rfl rfl rfl (y_assign rfl) ?_
  refine rv0 rfl rfl rfl (y_assign rfl) ?_
  refine rj_nil ?_
  refine hK3 _ _ _ ?_
  refine cj_env (eL 6 rfl (eL 7 rfl eN)) ?_
  refine cj_ret ?_
  refine hret _ _ _ ?_
  apply ej_ret Try.results31 (.cons (rv_tmp rfl) (.cons (rv_tmp rfl) .nil)) _ [] hR1 rfl
  case hp => exact ⟨rfl, rfl⟩
  case hS => (repeat (first|exact zR _|(apply zP;focus (repeat (first|exact zH _|apply zT)))|apply zD|exact zA _ _))
/-! ### what is reckoned, plain -/
theorem wrap_of_mod {a n k : Int} (ha : inI a) (h : n = a + k * 18446744073709551616) : IntKind.i64.wrap n = a := by
  obtain ⟨j, hj, hin⟩ := wrap_mod n
  unfold inI at *
  omega
theorem together {a b : Int} (ha : inI a) : IntKind.i64.wrap (IntKind.i64.wrap (a.tdiv b * b) + a.tmod b) = a := by
  obtain ⟨k, hk, _⟩ := wrap_mod (a.tdiv b * b)
  refine wrap_of_mod ha (k := k) ?_
  have := Int.tmod_add_mul_tdiv a b
  have hc : b * a.tdiv b = a.tdiv b * b := Int.mul_comm _ _
  rw [hc] at this
  omega
theorem tmod_sign {a b : Int} (hr : ¬ a.tmod b = 0) : (a.tmod b < 0) ↔ (a < 0) := by
  rcases Int.lt_or_le a 0 with h | h
  · have h1 : a.tmod b = -((-a).tmod b) := by rw [Int.neg_tmod]; omega
    have h2 : 0 ≤ (-a).tmod b := Int.tmod_nonneg b (by omega)
    constructor
    · intro _; exact h
    · intro _; omega
  · have h2 : 0 ≤ a.tmod b := Int.tmod_nonneg b h
    omega
theorem two_zero {a : Int} : twoV .div a 0 = (0, 27) ∧ twoV .rem a 0 = (0, 27) := ⟨rfl, rfl⟩
theorem two_rem {a b : Int} (h : b ≠ 0) : twoV .rem a b = (a.tmod b, 0) := by unfold twoV; rw [reckV_rem h]
theorem two_div {a b : Int} (ha : inI a) (h : b ≠ 0) : twoV .div a b = (if a = -9223372036854775808 ∧ b = -1 then (0, 26) else (a.tdiv b, 0)) := by
  unfold twoV
  rw [reckV_div (by decide) (by decide) (by decide) (by decide) h]
  unfold num64
  have := quo_in ha h
  by_cases hc : a = -9223372036854775808 ∧ b = -1
  · rw [if_pos hc, if_neg (fun h => this.1 h hc)]
  · rw [if_neg hc, if_pos (this.2 hc)]
theorem two_add {a b : Int} : twoV .add a b = (if inI (a + b) then (a + b, 0) else (0, 26)) := by
  unfold twoV reckV num64
  dsimp only
  by_cases h : inI (a + b)
  · rw [if_pos h, if_pos h]
  · rw [if_neg h, if_neg h]
theorem two_sub {a b : Int} : twoV .sub a b = (if inI (a - b) then (a - b, 0) else (0, 26)) := by
  unfold twoV reckV num64
  dsimp only
  by_cases h : inI (a - b)
  · rw [if_pos h, if_pos h]
  · rw [if_neg h, if_neg h]
theorem two_mul {a b : Int} : twoV .mul a b = (if inI (a * b) then (a * b, 0) else (0, 26)) := by
  unfold twoV reckV num64
  dsimp only
  by_cases h : inI (a * b)
  · rw [if_pos h, if_pos h]
  · rw [if_neg h, if_neg h]
theorem two_in {op : Op} {a b : Int} (hb : inI b) : inI (twoV op a b).1 := by
  unfold twoV
  cases h : reckV op a b with
  | ok n => exact reckV_in hb h
  | error e => exact (by decide : inI 0)
theorem evalReckons_t {R : Hp} (a b : Int) (ha0 : IntKind.i64.min ≤ a ∧ a ≤ IntKind.i64.max) (hb0 : IntKind.i64.min ≤ b ∧ b ≤ IntKind.i64.max) :
    Tri Try.prog 8 [.int .i64 a, .int .i64 b] R [] (fun v _ _ => v = .bool true) := by
  have ha : inI a := b64_of ha0
  have hb : inI b := b64_of hb0
  refine tri_of Try.func8 rfl Try.ntmps8 rfl (fun σ F Q hret hend hpan => ?_)
  try simp only [List.cons_append, List.nil_append]
  refine cj_env (eL 0 rfl (eL 1 rfl eN)) ?_
  refine cj_seq (fun K1 hK1 => ?_)
  refine cj_region ?_
  refine rv0 rfl rfl rfl (y_assign rfl) ?_
  refine rj_nil ?_
  refine hK1 _ _ _ ?_
  refine cj_seq (fun K2 hK2 => ?_)
  refine cj_seq (fun K3 hK3 => ?_)
  refine cj_region ?_
  refine rj_call (wn0 rfl) rfl Try.call10 rfl (awake_t) (by (repeat (first|exact zN _|(apply zS;focus (repeat (first|exact zH _|apply zT)))))) (fun _ _ _ _ h => h.elim) ?_
  rintro v R0 L' hR0 ⟨rfl, rfl⟩
  try simp only [List.cons_append, List.nil_append]
  refine rv0 rfl rfl rfl (y_not rfl) ?_
  refine rj_nil ?_
  refine hK3 _ _ _ ?_
  refine cj_cond_f rfl ?_
  refine cj_skip ?_
  refine hK2 _ _ _ ?_
  refine cj_env (eL 0 rfl (eL 1 rfl eN)) ?_
  refine cj_seq (fun K4 hK4 => ?_)
  refine cj_region ?_
  refine rv0 rfl rfl rfl (y_assign rfl) ?_
  refine rj_nil ?_
  refine hK4 _ _ _ ?_
  refine cj_seq (fun K5 hK5 => ?_)
  refine cj_region ?_
  refine rv0 rfl rfl rfl (y_move rfl) ?_
  refine rv0 rfl rfl rfl (y_move rfl) ?_
  refine rv0 rfl rfl rfl (y_move rfl) ?_
  refine rv0 rfl rfl rfl (y_callv rfl Try.call31 rfl (two_q .div rfl a b ha hb) (by (repeat (first|exact zN _|(apply zS;focus (repeat (first|exact zH _|apply zT))))))) ?_
  refine rv0 rfl rfl rfl (y_move rfl) ?_
  refine rv0 rfl rfl rfl (y_extract rfl rfl) ?_
  refine rv0 rfl rfl rfl (y_extract rfl rfl) ?_
  refine rv0 rfl rfl rfl (y_assign rfl) ?_
  refine rv0 rfl rfl rfl (y_assign rfl) ?_
  refine rj_nil ?_
  refine hK5 _ _ _ ?_
  refine cj_env (eL 0 rfl (eL 1 rfl (eL 5 rfl (eL 6 rfl (eL 7 rfl eN))))) ?_
  refine cj_seq (fun K6 hK6 => ?_)
  refine cj_region ?_
  refine rv0 rfl rfl rfl (y_move rfl) ?_
  refine rv0 rfl rfl rfl (y_move rfl) ?_
  refine rv0 rfl rfl rfl (y_move rfl) ?_
  refine rv0 rfl rfl rfl (y_callv rfl Try.call31 rfl (two_q .rem rfl a b ha hb) (by (repeat (first|exact zN _|(apply zS;focus (repeat (first|exact zH _|apply zT))))))) ?_
  refine rv0 rfl rfl rfl (y_move rfl) ?_
  refine rv0 rfl rfl rfl (y_extract rfl rfl) ?_
  refine rv0 rfl rfl rfl (y_extract rfl rfl) ?_
  refine rv0 rfl rfl rfl (y_assign rfl) ?_
  refine rv0 rfl rfl rfl (y_assign rfl) ?_
  refine rj_nil ?_
  refine hK6 _ _ _ ?_
  refine cj_env (eL 0 rfl (eL 1 rfl (eL 5 rfl (eL 6 rfl (eL 7 rfl (eL 8 rfl (eL 9 rfl eN))))))) ?_
  refine cj_seq (fun K7 hK7 => ?_)
  have hJ14 : ∀ (x : Unit), True → EJ ⟨Try.prog, 151, σ⟩ K7 [(0, .int .i64 a), (1, .int .i64 b), (5, .func (.func 31) ⟨[]⟩ ⟨[]⟩)] R0 (F) := by
   rintro _ hI14
   try dsimp only
   refine hK7 _ _ _ ?_
   refine cj_seq (fun K8 hK8 => ?_)
   refine cj_region ?_
   refine rv0 rfl rfl rfl (y_move rfl) ?_
   refine rv0 rfl rfl rfl (y_move rfl) ?_
   refine rv0 rfl rfl rfl (y_move rfl) ?_
   refine rv0 rfl rfl rfl (y_callv rfl Try.call31 rfl (two_q .add rfl a b ha hb) (by (repeat (first|exact zN _|(apply zS;focus (repeat (first|exact zH _|apply zT))))))) ?_
   refine rv0 rfl rfl rfl (y_move rfl) ?_
   refine rv0 rfl rfl rfl (y_extract rfl rfl) ?_
   refine rv0 rfl rfl rfl (y_extract rfl rfl) ?_
   refine rv0 rfl rfl rfl (y_assign rfl) ?_
   refine rv0 rfl rfl rfl (y_assign rfl) ?_
   refine rj_nil ?_
   refine hK8 _ _ _ ?_
   refine cj_env (eL 0 rfl (eL 1 rfl (eL 5 rfl (eL 10 rfl (eL 11 rfl eN))))) ?_
   refine cj_seq (fun K9 hK9 => ?_)
   refine cj_region ?_
   refine rv0 rfl rfl rfl (y_move rfl) ?_
   refine rv0 rfl rfl rfl (y_move rfl) ?_
   refine rv0 rfl rfl rfl (y_move rfl) ?_
   refine rv0 rfl rfl rfl (y_callv rfl Try.call31 rfl (two_q .sub rfl (twoV .add a b).1 b (two_in hb) hb) (by (repeat (first|exact zN _|(apply zS;focus (repeat (first|exact zH _|apply zT))))))) ?_
   refine rv0 rfl rfl rfl (y_move rfl) ?_
   refine rv0 rfl rfl rfl (y_extract rfl rfl) ?_
   refine rv0 rfl rfl rfl (y_extract rfl rfl) ?_
   refine rv0 rfl rfl rfl (y_assign rfl) ?_
   refine rv0 rfl rfl rfl (y_assign rfl) ?_
   refine rj_nil ?_
   refine hK9 _ _ _ ?_
   refine cj_env (eL 0 rfl (eL 1 rfl (eL 5 rfl (eL 10 rfl (eL 11 rfl (eL 12 rfl (eL 13 rfl eN))))))) ?_
   refine cj_seq (fun K10 hK10 => ?_)
   refine cj_region ?_
   refine rv0 rfl rfl rfl (y_move rfl) ?_
   refine rv0 rfl rfl rfl (y_move rfl) ?_
   refine rv0 rfl rfl rfl (y_move rfl) ?_
   refine rv0 rfl rfl rfl (y_callv rfl Try.call31 rfl (two_q .mul rfl a b ha hb) (by (repeat (first|exact zN _|(apply zS;focus (repeat (first|exact zH _|apply zT))))))) ?_
   refine rv0 rfl rfl rfl (y_move rfl) ?_
   refine rv0 rfl rfl rfl (y_extract rfl rfl) ?_
   refine rv0 rfl rfl rfl (y_extract rfl rfl) ?_
   refine rv0 rfl rfl rfl (y_assign rfl) ?_
   refine rv0 rfl rfl rfl (y_assign rfl) ?_
   refine rj_nil ?_
   refine hK10 _ _ _ ?_
   refine cj_env (eL 0 rfl (eL 1 rfl (eL 5 rfl (eL 10 rfl (eL 11 rfl (eL 12 rfl (eL 13 rfl (eL 14 rfl (eL 15 rfl eN))))))))) ?_
   refine cj_seq (fun K11 hK11 => ?_)
   refine cj_region ?_
   refine rv0 rfl rfl rfl (y_move rfl) ?_
   refine rv0 rfl rfl rfl (y_move rfl) ?_
   refine rv0 rfl rfl rfl (y_move rfl) ?_
   refine rv0 rfl rfl rfl (y_callv rfl Try.call31 rfl (two_q .mul rfl b a hb ha) (by (repeat (first|exact zN _|(apply zS;focus (repeat (first|exact zH _|apply zT))))))) ?_
   refine rv0 rfl rfl rfl (y_move rfl) ?_
   refine rv0 rfl rfl rfl (y_extract rfl rfl) ?_
   refine rv0 rfl rfl rfl (y_extract rfl rfl) ?_
   refine rv0 rfl rfl rfl (y_assign rfl) ?_
   refine rv0 rfl rfl rfl (y_assign rfl) ?_
   refine rj_nil ?_
   refine hK11 _ _ _ ?_
   refine cj_env (eL 0 rfl (eL 10 rfl (eL 11 rfl (eL 12 rfl (eL 13 rfl (eL 14 rfl (eL 15 rfl (eL 16 rfl (eL 17 rfl eN))))))))) ?_
   refine cj_seq (fun K12 hK12 => ?_)
   refine cj_region ?_
   have hadd := two_add (a := a) (b := b)
   have hm := two_mul (a := a) (b := b)
   have hm2 := two_mul (a := b) (b := a)
   rw [Int.mul_comm b a] at hm2
   refine rv0 rfl rfl rfl (y_move rfl) ?_
   refine rv0 rfl rfl rfl (y_neq rfl rfl) ?_
   refine rv0 rfl rfl rfl (y_move rfl) ?_
   refine rj_part 112 rfl (fun hg112 => ?_) (fun hg112 => ?_)
   ·have hni : ¬ inI (a + b) := fun h => by rw [hadd, if_pos h] at hg112; simp at hg112
    refine rj_skip (wn2 rfl rfl rfl rfl rfl) rfl rfl ?_
    refine rj_skip (wn2 rfl rfl rfl rfl rfl) rfl rfl ?_
    refine rj_skip (wn2 rfl rfl rfl rfl rfl) rfl rfl ?_
    refine rj_skip (wn3 rfl rfl rfl rfl) rfl rfl ?_
    refine rj_skip (wn3 rfl rfl rfl rfl) rfl rfl ?_
    refine rj_skip (wn3 rfl rfl rfl rfl) rfl rfl ?_
    refine rj_skip (wn2 rfl rfl rfl rfl rfl) rfl rfl ?_
    refine rv0 rfl rfl rfl (y_pick_t rfl rfl) ?_
    refine rv0 rfl rfl rfl (y_move rfl) ?_
    refine rj_val (wn1 rfl rfl rfl rfl) rfl rfl (y_move rfl) ?_
    refine rj_val (wn1 rfl rfl rfl rfl) rfl rfl (y_eql rfl rfl) ?_
    refine rj_val (wn1 rfl rfl rfl rfl) rfl rfl (y_move rfl) ?_
    refine rj_part 124 rfl (fun hg124 => ?_) (fun hg124 => ?_)
    ·try simp only [dT, dF, nT, nF, tF, fT] at hg124
     refine rj_skip (wn2 rfl rfl rfl rfl rfl) rfl rfl ?_
     refine rj_skip (wn2 rfl rfl rfl rfl rfl) rfl rfl ?_
     refine rj_skip (wn2 rfl rfl rfl rfl rfl) rfl rfl ?_
     refine rj_skip (wn3 rfl rfl rfl rfl) rfl rfl ?_
     refine rj_skip (wn3 rfl rfl rfl rfl) rfl rfl ?_
     refine rj_skip (wn2 rfl rfl rfl rfl rfl) rfl rfl ?_
     refine rj_val (wn1 rfl rfl rfl rfl) rfl rfl (y_pick_t rfl rfl) ?_
     refine rv0 rfl rfl rfl (y_pick_t rfl rfl) ?_
     refine rv0 rfl rfl rfl (y_move rfl) ?_
     refine rj_val (wn1 rfl rfl rfl rfl) rfl rfl (y_move rfl) ?_
     refine rj_val (wn1 rfl rfl rfl rfl) rfl rfl (y_move rfl) ?_
     refine rj_val (wn1 rfl rfl rfl rfl) rfl rfl (y_eql rfl rfl) ?_
     refine rj_eq 136 rfl (v' := .bool true) (by rw [hm, hm2]; simp) ?_
     refine rv0 rfl rfl rfl (y_pick_t rfl rfl) ?_
     refine rv0 rfl rfl rfl (y_move rfl) ?_
     refine rj_val (wn1 rfl rfl rfl rfl) rfl rfl (y_move rfl) ?_
     refine rj_val (wn1 rfl rfl rfl rfl) rfl rfl (y_move rfl) ?_
     refine rj_val (wn1 rfl rfl rfl rfl) rfl rfl (y_eql rfl rfl) ?_
     refine rj_eq 141 rfl (v' := .bool true) (by rw [hm, hm2]; simp) ?_
     refine rv0 rfl rfl rfl (y_pick_t rfl rfl) ?_
     refine rv0 rfl rfl rfl (y_move rfl) ?_
     refine rj_val (wn1 rfl rfl rfl rfl) rfl rfl (y_move rfl) ?_
     refine rj_val (wn1 rfl rfl rfl rfl) rfl rfl (y_eql rfl rfl) ?_
     refine rj_val (wn1 rfl rfl rfl rfl) rfl rfl (y_move rfl) ?_
     refine rj_part 146 rfl (fun hg146 => ?_) (fun hg146 => ?_)
     ·try simp only [dT, dF, nT, nF, tF, fT] at hg146
      refine rj_skip (wn2 rfl rfl rfl rfl rfl) rfl rfl ?_
      refine rj_skip (wn2 rfl rfl rfl rfl rfl) rfl rfl ?_
      refine rj_val (wn1 rfl rfl rfl rfl) rfl rfl (y_pick_t rfl rfl) ?_
      refine rv0 rfl rfl rfl (y_pick_t rfl rfl) ?_
      refine rv0 rfl rfl rfl (y_assign rfl) ?_
      refine rj_nil ?_
      refine hK12 _ _ _ ?_
      refine cj_env (eL 4 rfl eN) ?_
      refine cj_ret ?_
      refine hret _ _ _ ?_
      apply ej_ret Try.results8 (.cons (rv_tmp rfl) .nil) _ [] (by first | exact hR0 | exact Hp.le_trans hR0 ‹_›) rfl
      case hp => rfl
      case hS => (repeat (first|exact zR _|(apply zP;focus (repeat (first|exact zH _|apply zT)))|apply zD|exact zA _ _))
     ·have hni3 : ¬ inI (a * b) := fun h => by rw [hm, if_pos h] at hg146; simp at hg146
      rw [if_neg hni3] at hm
      refine rj_val (wn1 rfl rfl rfl rfl) rfl rfl (y_move rfl) ?_
      refine rj_val (wn1 rfl rfl rfl rfl) rfl rfl (y_eql rfl rfl) ?_
      refine rj_eq 148 rfl (v' := .bool true) (by rw [hm]; rfl) ?_
      refine rj_val (wn1 rfl rfl rfl rfl) rfl rfl (y_pick_f rfl rfl) ?_
      refine rv0 rfl rfl rfl (y_pick_t rfl rfl) ?_
      refine rv0 rfl rfl rfl (y_assign rfl) ?_
      refine rj_nil ?_
      refine hK12 _ _ _ ?_
      refine cj_env (eL 4 rfl eN) ?_
      refine cj_ret ?_
      refine hret _ _ _ ?_
      apply ej_ret Try.results8 (.cons (rv_tmp rfl) .nil) _ [] (by first | exact hR0 | exact Hp.le_trans hR0 ‹_›) rfl
      case hp => rfl
      case hS => (repeat (first|exact zR _|(apply zP;focus (repeat (first|exact zH _|apply zT)))|apply zD|exact zA _ _))
    ·have hni2 : ¬ inI (a + b) := fun h => by rw [two_add, if_pos h] at hg124; simp at hg124
     have hadd2 := two_add (a := a) (b := b)
     rw [if_neg hni2] at hadd2
     refine rj_val (wn1 rfl rfl rfl rfl) rfl rfl (y_move rfl) ?_
     refine rj_val (wn1 rfl rfl rfl rfl) rfl rfl (y_eql rfl rfl) ?_
     refine rj_eq 126 rfl (v' := .bool true) (by rw [hadd2]; rfl) ?_
     refine rj_val (wn1 rfl rfl rfl rfl) rfl rfl (y_move rfl) ?_
     refine rj_val (wn1 rfl rfl rfl rfl) rfl rfl (y_move rfl) ?_
     refine rj_val (wn1 rfl rfl rfl rfl) rfl rfl (y_eql rfl rfl) ?_
     refine rj_eq 129 rfl (v' := .bool true) (by rw [hadd2]; rfl) ?_
     refine rj_val (wn1 rfl rfl rfl rfl) rfl rfl (y_pick_t rfl rfl) ?_
     refine rj_val (wn1 rfl rfl rfl rfl) rfl rfl (y_pick_f rfl rfl) ?_
     refine rv0 rfl rfl rfl (y_pick_t rfl rfl) ?_
     refine rv0 rfl rfl rfl (y_move rfl) ?_
     refine rj_val (wn1 rfl rfl rfl rfl) rfl rfl (y_move rfl) ?_
     refine rj_val (wn1 rfl rfl rfl rfl) rfl rfl (y_move rfl) ?_
     refine rj_val (wn1 rfl rfl rfl rfl) rfl rfl (y_eql rfl rfl) ?_
     refine rj_eq 136 rfl (v' := .bool true) (by rw [hm, hm2]; simp) ?_
     refine rv0 rfl rfl rfl (y_pick_t rfl rfl) ?_
     refine rv0 rfl rfl rfl (y_move rfl) ?_
     refine rj_val (wn1 rfl rfl rfl rfl) rfl rfl (y_move rfl) ?_
     refine rj_val (wn1 rfl rfl rfl rfl) rfl rfl (y_move rfl) ?_
     refine rj_val (wn1 rfl rfl rfl rfl) rfl rfl (y_eql rfl rfl) ?_
     refine rj_eq 141 rfl (v' := .bool true) (by rw [hm, hm2]; simp) ?_
     refine rv0 rfl rfl rfl (y_pick_t rfl rfl) ?_
     refine rv0 rfl rfl rfl (y_move rfl) ?_
     refine rj_val (wn1 rfl rfl rfl rfl) rfl rfl (y_move rfl) ?_
     refine rj_val (wn1 rfl rfl rfl rfl) rfl rfl (y_eql rfl rfl) ?_
     refine rj_val (wn1 rfl rfl rfl rfl) rfl rfl (y_move rfl) ?_
     refine rj_part 146 rfl (fun hg146 => ?_) (fun hg146 => ?_)
     ·try simp only [dT, dF, nT, nF, tF, fT] at hg146
      refine rj_skip (wn2 rfl rfl rfl rfl rfl) rfl rfl ?_
      refine rj_skip (wn2 rfl rfl rfl rfl rfl) rfl rfl ?_
      refine rj_val (wn1 rfl rfl rfl rfl) rfl rfl (y_pick_t rfl rfl) ?_
      refine rv0 rfl rfl rfl (y_pick_t rfl rfl) ?_
      refine rv0 rfl rfl rfl (y_assign rfl) ?_
      refine rj_nil ?_
      refine hK12 _ _ _ ?_
      refine cj_env (eL 4 rfl eN) ?_
      refine cj_ret ?_
      refine hret _ _ _ ?_
      apply ej_ret Try.results8 (.cons (rv_tmp rfl) .nil) _ [] (by first | exact hR0 | exact Hp.le_trans hR0 ‹_›) rfl
      case hp => rfl
      case hS => (repeat (first|exact zR _|(apply zP;focus (repeat (first|exact zH _|apply zT)))|apply zD|exact zA _ _))
     ·have hni3 : ¬ inI (a * b) := fun h => by rw [hm, if_pos h] at hg146; simp at hg146
      rw [if_neg hni3] at hm
      refine rj_val (wn1 rfl rfl rfl rfl) rfl rfl (y_move rfl) ?_
      refine rj_val (wn1 rfl rfl rfl rfl) rfl rfl (y_eql rfl rfl) ?_
      refine rj_eq 148 rfl (v' := .bool true) (by rw [hm]; rfl) ?_
      refine rj_val (wn1 rfl rfl rfl rfl) rfl rfl (y_pick_f rfl rfl) ?_
      refine rv0 rfl rfl rfl (y_pick_t rfl rfl) ?_
      refine rv0 rfl rfl rfl (y_assign rfl) ?_
      refine rj_nil ?_
      refine hK12 _ _ _ ?_
      refine cj_env (eL 4 rfl eN) ?_
      refine cj_ret ?_
      refine hret _ _ _ ?_
      apply ej_ret Try.results8 (.cons (rv_tmp rfl) .nil) _ [] (by first | exact hR0 | exact Hp.le_trans hR0 ‹_›) rfl
      case hp => rfl
      case hS => (repeat (first|exact zR _|(apply zP;focus (repeat (first|exact zH _|apply zT)))|apply zD|exact zA _ _))
   ·have hi : inI (a + b) := Classical.byContradiction (fun h => by rw [hadd, if_neg h] at hg112; simp at hg112)
    rw [if_pos hi] at hadd
    have hsub : twoV .sub (twoV .add a b).1 b = (a, 0) := by rw [hadd, two_sub]; simp only; rw [if_pos (by rw [Int.add_sub_cancel]; exact ha), Int.add_sub_cancel]
    refine rj_val (wn1 rfl rfl rfl rfl) rfl rfl (y_move rfl) ?_
    refine rj_val (wn1 rfl rfl rfl rfl) rfl rfl (y_eql rfl rfl) ?_
    refine rj_eq 114 rfl (v' := .bool true) (by rw [hsub]; rfl) ?_
    refine rj_val (wn1 rfl rfl rfl rfl) rfl rfl (y_move rfl) ?_
    refine rj_val (wn1 rfl rfl rfl rfl) rfl rfl (y_move rfl) ?_
    refine rj_val (wn1 rfl rfl rfl rfl) rfl rfl (y_move rfl) ?_
    refine rj_val (wn1 rfl rfl rfl rfl) rfl rfl (y_eql rfl rfl) ?_
    refine rj_eq 118 rfl (v' := .bool true) (by rw [hsub]; simp) ?_
    refine rj_val (wn1 rfl rfl rfl rfl) rfl rfl (y_pick_t rfl rfl) ?_
    refine rv0 rfl rfl rfl (y_pick_f rfl rfl) ?_
    refine rv0 rfl rfl rfl (y_move rfl) ?_
    refine rj_val (wn1 rfl rfl rfl rfl) rfl rfl (y_move rfl) ?_
    refine rj_val (wn1 rfl rfl rfl rfl) rfl rfl (y_eql rfl rfl) ?_
    refine rj_val (wn1 rfl rfl rfl rfl) rfl rfl (y_move rfl) ?_
    refine rj_part 124 rfl (fun hg124 => ?_) (fun hg124 => ?_)
    ·try simp only [dT, dF, nT, nF, tF, fT] at hg124
     refine rj_skip (wn2 rfl rfl rfl rfl rfl) rfl rfl ?_
     refine rj_skip (wn2 rfl rfl rfl rfl rfl) rfl rfl ?_
     refine rj_skip (wn2 rfl rfl rfl rfl rfl) rfl rfl ?_
     refine rj_skip (wn3 rfl rfl rfl rfl) rfl rfl ?_
     refine rj_skip (wn3 rfl rfl rfl rfl) rfl rfl ?_
     refine rj_skip (wn2 rfl rfl rfl rfl rfl) rfl rfl ?_
     refine rj_val (wn1 rfl rfl rfl rfl) rfl rfl (y_pick_t rfl rfl) ?_
     refine rv0 rfl rfl rfl (y_pick_t rfl rfl) ?_
     refine rv0 rfl rfl rfl (y_move rfl) ?_
     refine rj_val (wn1 rfl rfl rfl rfl) rfl rfl (y_move rfl) ?_
     refine rj_val (wn1 rfl rfl rfl rfl) rfl rfl (y_move rfl) ?_
     refine rj_val (wn1 rfl rfl rfl rfl) rfl rfl (y_eql rfl rfl) ?_
     refine rj_eq 136 rfl (v' := .bool true) (by rw [hm, hm2]; simp) ?_
     refine rv0 rfl rfl rfl (y_pick_t rfl rfl) ?_
     refine rv0 rfl rfl rfl (y_move rfl) ?_
     refine rj_val (wn1 rfl rfl rfl rfl) rfl rfl (y_move rfl) ?_
     refine rj_val (wn1 rfl rfl rfl rfl) rfl rfl (y_move rfl) ?_
     refine rj_val (wn1 rfl rfl rfl rfl) rfl rfl (y_eql rfl rfl) ?_
     refine rj_eq 141 rfl (v' := .bool true) (by rw [hm, hm2]; simp) ?_
     refine rv0 rfl rfl rfl (y_pick_t rfl rfl) ?_
     refine rv0 rfl rfl rfl (y_move rfl) ?_
     refine rj_val (wn1 rfl rfl rfl rfl) rfl rfl (y_move rfl) ?_
     refine rj_val (wn1 rfl rfl rfl rfl) rfl rfl (y_eql rfl rfl) ?_
     refine rj_val (wn1 rfl rfl rfl rfl) rfl rfl (y_move rfl) ?_
     refine rj_part 146 rfl (fun hg146 => ?_) (fun hg146 => ?_)
     ·try simp only [dT, dF, nT, nF, tF, fT] at hg146
      refine rj_skip (wn2 rfl rfl rfl rfl rfl) rfl rfl ?_
      refine rj_skip (wn2 rfl rfl rfl rfl rfl) rfl rfl ?_
      refine rj_val (wn1 rfl rfl rfl rfl) rfl rfl (y_pick_t rfl rfl) ?_
      refine rv0 rfl rfl rfl (y_pick_t rfl rfl) ?_
      refine rv0 rfl rfl rfl (y_assign rfl) ?_
      refine rj_nil ?_
      refine hK12 _ _ _ ?_
      refine cj_env (eL 4 rfl eN) ?_
      refine cj_ret ?_
      refine hret _ _ _ ?_
      apply ej_ret Try.results8 (.cons (rv_tmp rfl) .nil) _ [] (by first | exact hR0 | exact Hp.le_trans hR0 ‹_›) rfl
      case hp => rfl
      case hS => (repeat (first|exact zR _|(apply zP;focus (repeat (first|exact zH _|apply zT)))|apply zD|exact zA _ _))
     ·have hni3 : ¬ inI (a * b) := fun h => by rw [hm, if_pos h] at hg146; simp at hg146
      rw [if_neg hni3] at hm
      refine rj_val (wn1 rfl rfl rfl rfl) rfl rfl (y_move rfl) ?_
      refine rj_val (wn1 rfl rfl rfl rfl) rfl rfl (y_eql rfl rfl) ?_
      refine rj_eq 148 rfl (v' := .bool true) (by rw [hm]; rfl) ?_
      refine rj_val (wn1 rfl rfl rfl rfl) rfl rfl (y_pick_f rfl rfl) ?_
      refine rv0 rfl rfl rfl (y_pick_t rfl rfl) ?_
      refine rv0 rfl rfl rfl (y_assign rfl) ?_
      refine rj_nil ?_
      refine hK12 _ _ _ ?_
      refine cj_env (eL 4 rfl eN) ?_
      refine cj_ret ?_
      refine hret _ _ _ ?_
      apply ej_ret Try.results8 (.cons (rv_tmp rfl) .nil) _ [] (by first | exact hR0 | exact Hp.le_trans hR0 ‹_›) rfl
      case hp => rfl
      case hS => (repeat (first|exact zR _|(apply zP;focus (repeat (first|exact zH _|apply zT)))|apply zD|exact zA _ _))
    ·have hni2 : ¬ inI (a + b) := fun h => by rw [two_add, if_pos h] at hg124; simp at hg124
     have hadd2 := two_add (a := a) (b := b)
     rw [if_neg hni2] at hadd2
     refine rj_val (wn1 rfl rfl rfl rfl) rfl rfl (y_move rfl) ?_
     refine rj_val (wn1 rfl rfl rfl rfl) rfl rfl (y_eql rfl rfl) ?_
     refine rj_eq 126 rfl (v' := .bool true) (by rw [hadd2]; rfl) ?_
     refine rj_val (wn1 rfl rfl rfl rfl) rfl rfl (y_move rfl) ?_
     refine rj_val (wn1 rfl rfl rfl rfl) rfl rfl (y_move rfl) ?_
     refine rj_val (wn1 rfl rfl rfl rfl) rfl rfl (y_eql rfl rfl) ?_
     refine rj_eq 129 rfl (v' := .bool true) (by rw [hadd2]; rfl) ?_
     refine rj_val (wn1 rfl rfl rfl rfl) rfl rfl (y_pick_t rfl rfl) ?_
     refine rj_val (wn1 rfl rfl rfl rfl) rfl rfl (y_pick_f rfl rfl) ?_
     refine rv0 rfl rfl rfl (y_pick_t rfl rfl) ?_
     refine rv0 rfl rfl rfl (y_move rfl) ?_
     refine rj_val (wn1 rfl rfl rfl rfl) rfl rfl (y_move rfl) ?_
     refine rj_val (wn1 rfl rfl rfl rfl) rfl rfl (y_move rfl) ?_
     refine rj_val (wn1 rfl rfl rfl rfl) rfl rfl (y_eql rfl rfl) ?_
     refine rj_eq 136 rfl (v' := .bool true) (by rw [hm, hm2]; simp) ?_
     refine rv0 rfl rfl rfl (y_pick_t rfl rfl) ?_
     refine rv0 rfl rfl rfl (y_move rfl) ?_
     refine rj_val (wn1 rfl rfl rfl rfl) rfl rfl (y_move rfl) ?_
     refine rj_val (wn1 rfl rfl rfl rfl) rfl rfl (y_move rfl) ?_
     refine rj_val (wn1 rfl rfl rfl rfl) rfl rfl (y_eql rfl rfl) ?_
     refine rj_eq 141 rfl (v' := .bool true) (by rw [hm, hm2]; simp) ?_
     refine rv0 rfl rfl rfl (y_pick_t rfl rfl) ?_
     refine rv0 rfl rfl rfl (y_move rfl) ?_
     refine rj_val (wn1 rfl rfl rfl rfl) rfl rfl (y_move rfl) ?_
     refine rj_val (wn1 rfl rfl rfl rfl) rfl rfl (y_eql rfl rfl) ?_
     refine rj_val (wn1 rfl rfl rfl rfl) rfl rfl (y_move rfl) ?_
     refine rj_part 146 rfl (fun hg146 => ?_) (fun hg146 => ?_)
     ·try simp only [dT, dF, nT, nF, tF, fT] at hg146
      refine rj_skip (wn2 rfl rfl rfl rfl rfl) rfl rfl ?_
      refine rj_skip (wn2 rfl rfl rfl rfl rfl) rfl rfl ?_
      refine rj_val (wn1 rfl rfl rfl rfl) rfl rfl (y_pick_t rfl rfl) ?_
      refine rv0 rfl rfl rfl (y_pick_t rfl rfl) ?_
      refine rv0 rfl rfl rfl (y_assign rfl) ?_
      refine rj_nil ?_
      refine hK12 _ _ _ ?_
      refine cj_env (eL 4 rfl eN) ?_
      refine cj_ret ?_
      refine hret _ _ _ ?_
      apply ej_ret Try.results8 (.cons (rv_tmp rfl) .nil) _ [] (by first | exact hR0 | exact Hp.le_trans hR0 ‹_›) rfl
      case hp => rfl
      case hS => (repeat (first|exact zR _|(apply zP;focus (repeat (first|exact zH _|apply zT)))|apply zD|exact zA _ _))
     ·have hni3 : ¬ inI (a * b) := fun h => by rw [hm, if_pos h] at hg146; simp at hg146
      rw [if_neg hni3] at hm
      refine rj_val (wn1 rfl rfl rfl rfl) rfl rfl (y_move rfl) ?_
      refine rj_val (wn1 rfl rfl rfl rfl) rfl rfl (y_eql rfl rfl) ?_
      refine rj_eq 148 rfl (v' := .bool true) (by rw [hm]; rfl) ?_
      refine rj_val (wn1 rfl rfl rfl rfl) rfl rfl (y_pick_f rfl rfl) ?_
      refine rv0 rfl rfl rfl (y_pick_t rfl rfl) ?_
      refine rv0 rfl rfl rfl (y_assign rfl) ?_
      refine rj_nil ?_
      refine hK12 _ _ _ ?_
      refine cj_env (eL 4 rfl eN) ?_
      refine cj_ret ?_
      refine hret _ _ _ ?_
      apply ej_ret Try.results8 (.cons (rv_tmp rfl) .nil) _ [] (by first | exact hR0 | exact Hp.le_trans hR0 ‹_›) rfl
      case hp => rfl
      case hS => (repeat (first|exact zR _|(apply zP;focus (repeat (first|exact zH _|apply zT)))|apply zD|exact zA _ _))
  refine cj_block ?_
  refine cj_seq (fun K13 hK13 => ?_)
  refine cj_region ?_
  refine rv0 rfl rfl rfl (y_move rfl) ?_
  refine rv0 rfl rfl rfl (y_eql rfl rfl) ?_
  refine rv0 rfl rfl rfl (y_assign rfl) ?_
  refine rj_nil ?_
  refine hK13 _ _ _ ?_
  refine cj_cond rfl (fun hc48 => ?_) (fun hc48 => ?_)
  ·obtain rfl : b = 0 := by simpa using hc48
   refine cj_seq (fun K15 hK15 => ?_)
   refine cj_region ?_
   refine rv0 rfl rfl rfl (y_move rfl) ?_
   refine rv0 rfl rfl rfl (y_neq rfl rfl) ?_
   refine rj_eq 52 rfl (v' := .bool false) (by rw [two_zero.1]; rfl) ?_
   refine rv0 rfl rfl rfl (y_move rfl) ?_
   refine rj_val (wn1 rfl rfl rfl rfl) rfl rfl (y_move rfl) ?_
   refine rj_val (wn1 rfl rfl rfl rfl) rfl rfl (y_neq rfl rfl) ?_
   refine rj_eq 55 rfl (v' := .bool false) (by rw [two_zero.2]; rfl) ?_
   refine rv0 rfl rfl rfl (y_pick_f rfl rfl) ?_
   refine rj_nil ?_
   refine hK15 _ _ _ ?_
   refine cj_env (eL 0 rfl (eL 1 rfl (eL 5 rfl (eL 56 rfl eN)))) ?_
   refine cj_cond_f rfl ?_
   refine cj_skip ?_
   refine ej_join hJ14 (()) (trivial) (eC rfl (eC rfl (eC rfl eN))) rfl (by (repeat (first|exact zR _|(apply zP;focus (repeat (first|exact zH _|apply zT)))|apply zD|exact zA _ _)))
  ·have hn : b ≠ 0 := by simpa using hc48
   have hr := two_rem (a := a) hn
   have hd := two_div ha hn
   refine cj_seq (fun K16 hK16 => ?_)
   refine cj_region ?_
   refine rv0 rfl rfl rfl (y_move rfl) ?_
   refine rv0 rfl rfl rfl (y_eql rfl rfl) ?_
   refine rv0 rfl rfl rfl (y_assign rfl) ?_
   refine rj_nil ?_
   refine hK16 _ _ _ ?_
   refine cj_env (eL 0 rfl (eL 1 rfl (eL 5 rfl (eL 6 rfl (eL 7 rfl (eL 8 rfl (eL 9 rfl (eL 57 rfl eN)))))))) ?_
   refine cj_cond rfl (fun hc57 => ?_) (fun hc57 => ?_)
   ·have hc : ¬ (a = -9223372036854775808 ∧ b = -1) := fun h => by rw [hd, if_pos h] at hc57; simp at hc57
    rw [if_neg hc] at hd
    refine cj_seq (fun K18 hK18 => ?_)
    refine cj_region ?_
    refine rv0 rfl rfl rfl (y_move rfl) ?_
    refine rv0 rfl rfl rfl (y_neq rfl rfl) ?_
    refine rj_eq 61 rfl (v' := .bool false) (by rw [hr]; rfl) ?_
    refine rv0 rfl rfl rfl (y_move rfl) ?_
    refine rj_val (wn1 rfl rfl rfl rfl) rfl rfl (y_move rfl) ?_
    refine rj_val (wn1 rfl rfl rfl rfl) rfl rfl (y_move rfl) ?_
    refine rj_val (wn1 rfl rfl rfl rfl) rfl rfl ((y_mul rfl rfl)) ?_
    refine rj_val (wn1 rfl rfl rfl rfl) rfl rfl (y_move rfl) ?_
    refine rj_val (wn1 rfl rfl rfl rfl) rfl rfl ((y_add rfl rfl)) ?_
    refine rj_val (wn1 rfl rfl rfl rfl) rfl rfl (y_move rfl) ?_
    refine rj_val (wn1 rfl rfl rfl rfl) rfl rfl (y_neq rfl rfl) ?_
    refine rj_eq 69 rfl (v' := .bool false) (by rw [hr, hd]; simp only [together ha]; simp) ?_
    refine rv0 rfl rfl rfl (y_pick_f rfl rfl) ?_
    refine rv0 rfl rfl rfl (y_move rfl) ?_
    refine rj_val (wn1 rfl rfl rfl rfl) rfl rfl (y_move rfl) ?_
    refine rj_val (wn1 rfl rfl rfl rfl) rfl rfl (y_neq rfl rfl) ?_
    refine rj_val (wn1 rfl rfl rfl rfl) rfl rfl (y_move rfl) ?_
    refine rj_part 74 rfl (fun hg74 => ?_) (fun hg74 => ?_)
    ·have hne : ¬ a.tmod b = 0 := by rw [hr] at hg74; simpa using hg74
     have hsg := tmod_sign hne
     refine rj_val (wn1 rfl rfl rfl rfl) rfl rfl (y_move rfl) ?_
     refine rj_val (wn1 rfl rfl rfl rfl) rfl rfl (y_lss rfl rfl) ?_
     refine rj_val (wn1 rfl rfl rfl rfl) rfl rfl (y_move rfl) ?_
     refine rj_val (wn1 rfl rfl rfl rfl) rfl rfl (y_lss rfl rfl) ?_
     refine rj_val (wn1 rfl rfl rfl rfl) rfl rfl (y_bneq Try.underlying4 rfl rfl) ?_
     refine rj_eq 79 rfl (v' := .bool false) (by rw [hr]; simp [hsg]) ?_
     refine rj_val (wn1 rfl rfl rfl rfl) rfl rfl (y_pick_t rfl rfl) ?_
     refine rv0 rfl rfl rfl (y_pick_f rfl rfl) ?_
     refine rj_nil ?_
     refine hK18 _ _ _ ?_
     refine cj_env (eL 0 rfl (eL 1 rfl (eL 5 rfl (eL 81 rfl eN)))) ?_
     refine cj_cond_f rfl ?_
     refine cj_skip ?_
     refine ej_join hJ14 (()) (trivial) (eC rfl (eC rfl (eC rfl eN))) rfl (by (repeat (first|exact zR _|(apply zP;focus (repeat (first|exact zH _|apply zT)))|apply zD|exact zA _ _)))
    ·try simp only [dT, dF, nT, nF, tF, fT] at hg74
     refine rj_skip (wn2 rfl rfl rfl rfl rfl) rfl rfl ?_
     refine rj_skip (wn2 rfl rfl rfl rfl rfl) rfl rfl ?_
     refine rj_skip (wn2 rfl rfl rfl rfl rfl) rfl rfl ?_
     refine rj_skip (wn2 rfl rfl rfl rfl rfl) rfl rfl ?_
     refine rj_skip (wn2 rfl rfl rfl rfl rfl) rfl rfl ?_
     refine rj_val (wn1 rfl rfl rfl rfl) rfl rfl (y_pick_f rfl rfl) ?_
     refine rv0 rfl rfl rfl (y_pick_f rfl rfl) ?_
     refine rj_nil ?_
     refine hK18 _ _ _ ?_
     refine cj_env (eL 0 rfl (eL 1 rfl (eL 5 rfl (eL 81 rfl eN)))) ?_
     refine cj_cond_f rfl ?_
     refine cj_skip ?_
     refine ej_join hJ14 (()) (trivial) (eC rfl (eC rfl (eC rfl eN))) rfl (by (repeat (first|exact zR _|(apply zP;focus (repeat (first|exact zH _|apply zT)))|apply zD|exact zA _ _)))
   ·obtain ⟨hc1, hc2⟩ : a = -9223372036854775808 ∧ b = -1 := Classical.byContradiction (fun h => by rw [hd, if_neg h] at hc57; simp at hc57)
    rw [if_pos ⟨hc1, hc2⟩] at hd
    have hm0 : a.tmod b = 0 := by rw [hc1, hc2]; decide
    refine cj_seq (fun K19 hK19 => ?_)
    refine cj_region ?_
    refine rv0 rfl rfl rfl (y_move rfl) ?_
    refine rv0 rfl rfl rfl (y_neq rfl rfl) ?_
    refine rj_eq 35 rfl (v' := .bool false) (by rw [hd]; rfl) ?_
    refine rv0 rfl rfl rfl (y_move rfl) ?_
    refine rj_val (wn1 rfl rfl rfl rfl) rfl rfl (y_move rfl) ?_
    refine rj_val (wn1 rfl rfl rfl rfl) rfl rfl (y_neq rfl rfl) ?_
    refine rj_eq 38 rfl (v' := .bool false) (by rw [hr]; rfl) ?_
    refine rv0 rfl rfl rfl (y_pick_f rfl rfl) ?_
    refine rv0 rfl rfl rfl (y_move rfl) ?_
    refine rj_val (wn1 rfl rfl rfl rfl) rfl rfl (y_move rfl) ?_
    refine rj_val (wn1 rfl rfl rfl rfl) rfl rfl (y_neq rfl rfl) ?_
    refine rj_eq 42 rfl (v' := .bool false) (by rw [hr, hm0]; rfl) ?_
    refine rv0 rfl rfl rfl (y_pick_f rfl rfl) ?_
    refine rv0 rfl rfl rfl (y_move rfl) ?_
    refine rj_val (wn1 rfl rfl rfl rfl) rfl rfl (y_move rfl) ?_
    refine rj_val (wn1 rfl rfl rfl rfl) rfl rfl (y_neq rfl rfl) ?_
    refine rj_eq 46 rfl (v' := .bool false) (by rw [hc2]; rfl) ?_
    refine rv0 rfl rfl rfl (y_pick_f rfl rfl) ?_
    refine rj_nil ?_
    refine hK19 _ _ _ ?_
    refine cj_env (eL 0 rfl (eL 1 rfl (eL 5 rfl (eL 47 rfl eN)))) ?_
    refine cj_cond_f rfl ?_
    refine cj_skip ?_
    refine ej_join hJ14 (()) (trivial) (eC rfl (eC rfl (eC rfl eN))) rfl (by (repeat (first|exact zR _|(apply zP;focus (repeat (first|exact zH _|apply zT)))|apply zD|exact zA _ _)))
end V
end Go.Proofs.Ytghgifgmacapcaa
