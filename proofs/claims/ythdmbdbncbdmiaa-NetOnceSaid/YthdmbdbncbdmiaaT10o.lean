/- The law NetOnce walked. -/
import Derived.Test.YthdmbdbncbdmiaaT10r
import Derived.Test.YthdmbdbncbdmiaaV16
set_option linter.unusedSimpArgs false
set_option linter.unusedVariables false
set_option maxRecDepth 100000
namespace Go.Proofs.Ythdmbdbncbdmiaa
open Go.RowKit
namespace V
set_option maxHeartbeats 4000000
def mkO (k : Nat) : Msg := ⟨0, 0, 0, k, 0, 0, 0, false, [], []⟩
def msO (i : Nat) : List Msg := (List.range i).map mkO
def cnt (st : List One1) (k : Int) : Nat := (st.filter fun x => decide (x.2.term = k)).length
noncomputable def wf (n : Nat) (st : List One1) : Int → Option Value := fun k => if 0 ≤ k ∧ k < n then some (.int .i64 (cnt st k)) else none
def Trm (n : Nat) (st : List One1) : Prop := ∀ x ∈ st, 0 ≤ x.2.term ∧ x.2.term < n
theorem msO_succ (i : Nat) : msO (i + 1) = msO i ++ [mkO i] := by simp [msO, List.range_succ]
theorem msO_len (i : Nat) : (msO i).length = i := by simp [msO]
theorem cnt_app (a b : List One1) (k : Int) : cnt (a ++ b) k = cnt a k + cnt b k := by simp [cnt]
theorem cnt_one (x : One1) (k : Int) : cnt [x] k = if x.2.term = k then 1 else 0 := by
  unfold cnt
  by_cases h : x.2.term = k <;> simp [h]
theorem cnt_le (st : List One1) (k : Int) : cnt st k ≤ st.length := List.length_filter_le _ _
theorem cnt_erase {st : List One1} {i : Nat} {x : One1} (h : st[i]? = some x) (k : Int) : cnt st k = cnt (st.eraseIdx i) k + if x.2.term = k then 1 else 0 := by
  have hi := (List.getElem?_eq_some_iff.1 h).1
  have e : st = st.take i ++ (x :: st.drop (i + 1)) := by
    have h2 := List.take_append_drop i st
    rw [List.drop_eq_getElem_cons hi] at h2
    have : st[i] = x := by rw [List.getElem?_eq_getElem hi] at h; simpa using h
    rw [this] at h2; exact h2.symm
  rw [List.eraseIdx_eq_take_drop_succ, cnt_app, ← cnt_one x k]
  conv => lhs; rw [e]
  rw [cnt_app, show x :: st.drop (i + 1) = [x] ++ st.drop (i + 1) from rfl, cnt_app]
  omega
theorem wf_upd {n : Nat} {st st' : List One1} {t : Int} (ht : 0 ≤ t ∧ t < n) (h : ∀ k, k ≠ t → cnt st' k = cnt st k) {z : Int} (hz : z = cnt st' t) : fset (wf n st) t (.int .i64 z) = wf n st' := by
  funext k
  unfold fset wf
  by_cases hk : k = t
  · subst hk; rw [if_pos rfl, if_pos ht, hz]
  · rw [if_neg hk, h k hk]
theorem wf_get {n : Nat} {st : List One1} {t : Int} (ht : 0 ≤ t ∧ t < n) : wf n st t = some (.int .i64 (cnt st t)) := if_pos ht
theorem Trm.app {n : Nat} {a b : List One1} (h : Trm n a) (k : Trm n b) : Trm n (a ++ b) := fun x hx => by
  rcases List.mem_append.1 hx with hx | hx
  · exact h x hx
  · exact k x hx
theorem Trm.erase {n : Nat} {a : List One1} (h : Trm n a) (i : Nat) : Trm n (a.eraseIdx i) := fun x hx => h x (List.mem_of_mem_eraseIdx hx)
theorem Trm.mono {n m : Nat} {a : List One1} (h : Trm n a) (hm : n ≤ m) : Trm m a := fun x hx => by have := h x hx; omega
/-- the first messages -/
def stO (i : Nat) : List One1 := numb 0 (msO i)
theorem stO_succ (i : Nat) : stO (i + 1) = stO i ++ numb i [mkO i] := by unfold stO; rw [msO_succ, numb_app, msO_len]; simp
theorem stO_trm : ∀ i, Trm i (stO i)
  | 0 => fun x hx => by simp [stO, msO, numb] at hx
  | i + 1 => by
    rw [stO_succ]
    refine Trm.app ((stO_trm i).mono (by omega)) (fun x hx => ?_)
    simp [numb] at hx; subst hx; simp [mkO]; omega
theorem stO_len (i : Nat) : (stO i).length = i := by unfold stO; rw [numb_len, msO_len]
theorem stO_small : ∀ i, smallS (stO i)
  | 0 => fun x hx => by simp [stO, msO, numb] at hx
  | i + 1 => fun x hx => by
    rw [stO_succ] at hx
    rcases List.mem_append.1 hx with hx | hx
    · exact stO_small i x hx
    · simp [numb] at hx; subst hx; simp [smallM, mkO]
theorem cnt_none {n : Nat} {st : List One1} (h : Trm n st) {k : Int} (hk : (n : Int) ≤ k) : cnt st k = 0 := by
  unfold cnt
  rw [List.length_eq_zero_iff, List.filter_eq_nil_iff]
  intro x hx
  have := h x hx
  simp; omega
theorem wf_first (i : Nat) : fset (wf i (stO i)) (i : Int) (.int .i64 1) = wf (i + 1) (stO (i + 1)) ∧ wf i (stO i) (i : Int) = none := by
  constructor
  · funext k
    unfold fset wf
    have h1 : cnt (stO (i + 1)) k = cnt (stO i) k + if (i : Int) = k then 1 else 0 := by
      rw [stO_succ, cnt_app]; congr 1; show cnt [_] k = _; rw [cnt_one]; rfl
    by_cases hk : k = i
    · subst hk
      rw [if_pos rfl, if_pos (by omega), h1, cnt_none (stO_trm i) (Int.le_refl _)]
      simp
    · have hz : (if (i : Int) = k then 1 else 0) = 0 := if_neg (fun h => hk h.symm)
      rw [if_neg hk, h1, hz]
      by_cases h2 : 0 ≤ k ∧ k < i
      · rw [if_pos h2, if_pos (by omega)]; simp
      · rw [if_neg h2, if_neg (by push_cast; omega)]
  · unfold wf; rw [if_neg (by omega)]
abbrev PairT := Int × Int
def pairE : Elt PairT where
  P := fun _ x cs => cs = [.int .u8 x.1, .int .u8 x.2] ∧ (0 ≤ x.1 ∧ x.1 ≤ 255) ∧ 0 ≤ x.2 ∧ x.2 ≤ 255
  sz := 2
  mono := fun _ h => h
  len := fun h => by rw [h.1]; rfl
  one := fun h u hu => by rw [h.1] at hu; simp at hu; rcases hu with rfl | rfl <;> rfl
theorem u8_bd {n : Int} (h : IntKind.u8.min ≤ n ∧ n ≤ IntKind.u8.max) : 0 ≤ n ∧ n ≤ 255 := h
theorem pair_in {R : Hp} {c : List Value} {y : List Int} (hl : c.length = 2) (h : arrR 2 1 (intR .u8) R c y) : pairE.P R (y.getD 0 0, y.getD 1 0) c := by
  obtain ⟨_, hy, hz⟩ := h
  obtain ⟨a, b, rfl⟩ := two hl
  match y, hy with
  | [p, q], _ =>
    have h0 := hz 0 (by simp)
    have h1 := hz 1 (by simp)
    obtain ⟨e0, b0⟩ := h0
    obtain ⟨e1, b1⟩ := h1
    simp at e0 e1
    exact ⟨by rw [e0, e1]; rfl, u8_bd b0, u8_bd b1⟩
theorem once_t {R : Hp} (n : Int) (hn : IntKind.u8.min ≤ n ∧ n ≤ IntKind.u8.max) (v1 : Value) (ys : List (List Int)) (h : slcR 2 (arrR 2 1 (intR .u8)) R [v1] ys) :
    Tri Try.prog 6 [.int .u8 n, v1] R [] (fun v _ _ => v = .bool true) := by
  obtain ⟨acts, hacts⟩ : ∃ acts, FrX pairE R acts v1 := ⟨_, slcR_frx (T := pairE) (fun y => (y.getD 0 0, y.getD 1 0)) (fun c y hc h => pair_in hc h) h⟩
  clear h
  obtain ⟨q, cap, rfl, hcap, hcm⟩ := hacts.shape
  obtain ⟨N, rfl⟩ := Int.eq_ofNat_of_zero_le (u8_bd hn).1
  have hn255 := (u8_bd hn).2
  refine tri_of Try.func6 rfl Try.ntmps6 rfl (fun σ F Q hret hend hpan => ?_)
  try simp only [List.cons_append, List.nil_append]
  refine cj_env (Env.le_cons (t := 0) rfl (Env.le_cons (t := 1) rfl (Env.le_nil _))) ?_
  refine cj_seq (fun K1 hK1 => ?_)
  refine cj_region ?_
  refine rj_val (wn0 rfl) rfl rfl (y_assign rfl) ?_
  refine rj_nil ?_
  refine hK1 _ _ _ ?_
  refine cj_seq (fun K2 hK2 => ?_)
  refine cj_seq (fun K3 hK3 => ?_)
  refine cj_region ?_
  refine rj_call (wn0 rfl) rfl Try.call7 rfl (awake_t) (by (repeat (first | exact Split.nil _ | (apply Split.cons; focus (repeat (first | exact Find.head _ | apply Find.tail)))))) (fun _ _ _ _ h => h.elim) ?_
  rintro v R0 L' hR0 ⟨rfl, rfl⟩
  try simp only [List.cons_append, List.nil_append]
  refine rj_val (wn0 rfl) rfl rfl (y_not rfl) ?_
  refine rj_nil ?_
  refine hK3 _ _ _ ?_
  refine cj_cond_f rfl ?_
  refine cj_skip ?_
  refine hK2 _ _ _ ?_
  refine cj_env (Env.le_cons (t := 0) rfl (Env.le_cons (t := 1) rfl (Env.le_nil _))) ?_
  refine cj_seq (fun K4 hK4 => ?_)
  refine cj_seq (fun K5 hK5 => ?_)
  refine cj_region ?_
  refine rj_val (wn0 rfl) rfl rfl (y_move rfl) ?_
  refine rj_val (wn0 rfl) rfl rfl (y_gtr rfl rfl) ?_
  refine rj_val (wn0 rfl) rfl rfl (y_move rfl) ?_
  refine rj_part 21 rfl (fun hg21 => ?_) (fun hg21 => ?_)
  · try simp only [decide_eq_true_eq, decide_eq_false_iff_not, Bool.not_eq_true', Bool.not_eq_false', Bool.true_eq_false, Bool.false_eq_true] at hg21
    refine rj_skip (wn2 rfl rfl rfl rfl rfl) rfl rfl ?_
    refine rj_skip (wn2 rfl rfl rfl rfl rfl) rfl rfl ?_
    refine rj_skip (wn2 rfl rfl rfl rfl rfl) rfl rfl ?_
    refine rj_val (wn0 rfl) rfl rfl (y_pick_t rfl rfl) ?_
    refine rj_nil ?_
    refine hK5 _ _ _ ?_
    refine cj_env (Env.le_cons (t := 0) rfl (Env.le_cons (t := 1) rfl (Env.le_cons (t := 25) rfl (Env.le_nil _)))) ?_
    refine cj_cond_t rfl ?_
    refine cj_seq (fun K6 hK6 => ?_)
    refine cj_region ?_
    refine rj_val (wn0 rfl) rfl rfl (y_assign rfl) ?_
    refine rj_nil ?_
    refine hK6 _ _ _ ?_
    refine cj_env (Env.le_cons (t := 4) rfl (Env.le_nil _)) ?_
    refine cj_ret ?_
    refine hret _ _ _ ?_
    apply ej_ret Try.results6 (.cons (rv_tmp rfl) .nil) _ [] (by first | exact hR0 | exact hR6) rfl
    case hp => rfl
    case hS => (repeat (first | exact Sub.refl _ | (apply Sub.pick; focus (repeat (first | exact Find.head _ | apply Find.tail))) | apply Sub.drop | exact Sub.tailApp _ _))
  · try simp only [decide_eq_true_eq, decide_eq_false_iff_not, Bool.not_eq_true', Bool.not_eq_false', Bool.true_eq_false, Bool.false_eq_true] at hg21
    refine rj_val (wn1 rfl rfl rfl rfl) rfl rfl (y_move rfl) ?_
    first | refine rj_val (wn1 rfl rfl rfl rfl) rfl rfl (y_len_sl Try.underlying55 rfl) ?_ | refine rj_val (wn1 rfl rfl rfl rfl) rfl rfl (y_len_slc Try.underlying55 rfl (by ((repeat (first | exact Find.head _ | apply Find.tail)); done))) ?_
    refine rj_val (wn1 rfl rfl rfl rfl) rfl rfl (y_gtr rfl rfl) ?_
    refine rj_val (wn0 rfl) rfl rfl (y_pick_f rfl rfl) ?_
    refine rj_nil ?_
    refine hK5 _ _ _ ?_
    refine cj_env (Env.le_cons (t := 0) rfl (Env.le_cons (t := 1) rfl (Env.le_cons (t := 25) rfl (Env.le_nil _)))) ?_
    refine cj_cond rfl (fun hc25 => ?_) (fun hc25 => ?_)
    · try simp only [decide_eq_true_eq, decide_eq_false_iff_not, Bool.not_eq_true', Bool.not_eq_false', Bool.true_eq_false, Bool.false_eq_true] at hc25
      refine cj_seq (fun K8 hK8 => ?_)
      refine cj_region ?_
      refine rj_val (wn0 rfl) rfl rfl (y_assign rfl) ?_
      refine rj_nil ?_
      refine hK8 _ _ _ ?_
      refine cj_env (Env.le_cons (t := 4) rfl (Env.le_nil _)) ?_
      refine cj_ret ?_
      refine hret _ _ _ ?_
      apply ej_ret Try.results6 (.cons (rv_tmp rfl) .nil) _ [] (by first | exact hR0 | exact hR6) rfl
      case hp => rfl
      case hS => (repeat (first | exact Sub.refl _ | (apply Sub.pick; focus (repeat (first | exact Find.head _ | apply Find.tail))) | apply Sub.drop | exact Sub.tailApp _ _))
    · try simp only [decide_eq_true_eq, decide_eq_false_iff_not, Bool.not_eq_true', Bool.not_eq_false', Bool.true_eq_false, Bool.false_eq_true] at hc25
      refine cj_skip ?_
      refine hK4 _ _ _ ?_
      refine cj_seq (fun K9 hK9 => ?_)
      refine cj_region ?_
      refine rj_call (wn0 rfl) rfl Try.call8 rfl (netNew_t) (by (repeat (first | exact Split.nil _ | (apply Split.cons; focus (repeat (first | exact Find.head _ | apply Find.tail)))))) (fun _ _ _ _ h => h.elim) ?_
      rintro r R1 L' hR1 ⟨rfl, bn, rfl, rfl⟩
      try simp only [List.cons_append, List.nil_append]
      refine rj_val (wn0 rfl) rfl rfl (y_assign rfl) ?_
      refine rj_nil ?_
      refine hK9 _ _ _ ?_
      refine cj_seq (fun K10 hK10 => ?_)
      refine cj_region ?_
      refine rj_makeMap (ik := .u64) (wn0 rfl) rfl (fun bm => ?_)
      refine rj_turn (A := mapF bm .u64 (fun _ => none) 0) (B := mapF bm .u64 (wf 0 (stO 0)) 0) (by ((repeat (first | exact Find.head _ | apply Find.tail)); done)) (fun h hh => by rw [show wf 0 (stO 0) = fun _ => none from funext (fun k => if_neg (by omega))]; exact hh) ?_
      refine rj_val (wn0 rfl) rfl rfl (y_assign rfl) ?_
      refine rj_nil ?_
      refine hK10 _ _ _ ?_
      refine cj_env (Env.le_cons (t := 0) rfl (Env.le_cons (t := 1) rfl (Env.le_cons (t := 5) rfl (Env.le_cons (t := 6) rfl (Env.le_nil _))))) ?_
      refine cj_seq (fun K11 hK11 => ?_)
      refine cj_seq (fun K12 hK12 => ?_)
      refine cj_region ?_
      refine rj_val (wn0 rfl) rfl rfl (y_move rfl) ?_
      refine rj_val (wn0 rfl) rfl rfl (y_move rfl) ?_
      refine rj_nil ?_
      refine hK12 _ _ _ ?_
      refine cj_block ?_
      have hN20 : N ≤ 20 := by (try simp at hg21 hc25); omega
      have hA30 : acts.length ≤ 30 := by (try simp at hg21 hc25); omega
      refine cj_env (E' := (fun (x : Nat × Value × List (List Value) × Hp) => [(1, .slice q acts.length cap), (5, .pointer (some ⟨bn, 0, none⟩)), (6, .map (some bm)), (28, .int .u8 (N : Int)), (29, .int .u8 (x.1 : Int))]) (0, .slice none 0 0, [], R0)) (Env.le_cons rfl (Env.le_cons rfl (Env.le_cons rfl (Env.le_cons rfl (Env.le_cons rfl (Env.le_nil _)))))) ?_
      refine cj_sub (M := (fun (x : Nat × Value × List (List Value) × Hp) => netB bn x.2.1 (x.1 : Int) :: netS x.2.1 (stO x.1) x.2.2.1 :: mapF bm .u64 (wf x.1 (stO x.1)) x.1 :: F) (0, .slice none 0 0, [], R0)) (by (repeat (first | exact Sub.refl _ | (apply Sub.pick; focus (repeat (first | exact Find.head _ | apply Find.tail))) | apply Sub.drop | exact Sub.tailApp _ _))) ?_
      refine cj_loop (fun (x : Nat × Value × List (List Value) × Hp) => [(1, .slice q acts.length cap), (5, .pointer (some ⟨bn, 0, none⟩)), (6, .map (some bm)), (28, .int .u8 (N : Int)), (29, .int .u8 (x.1 : Int))]) (fun (x : Nat × Value × List (List Value) × Hp) => x.2.2.2) (fun (x : Nat × Value × List (List Value) × Hp) => netB bn x.2.1 (x.1 : Int) :: netS x.2.1 (stO x.1) x.2.2.1 :: mapF bm .u64 (wf x.1 (stO x.1)) x.1 :: F) (fun (x : Nat × Value × List (List Value) × Hp) => x.1 ≤ N ∧ R.le x.2.2.2 ∧ Els oneE x.2.2.2 (stO x.1) x.2.2.1) (fun (x : Nat × Value × List (List Value) × Hp) => N - x.1) (0, .slice none 0 0, [], R0) (⟨by simp, hR0, Els.nil⟩) ?_
      rintro ⟨i, v, css, R2⟩ ⟨hi, hR2, hk⟩
      try dsimp only
      dsimp only at hi hR2 hk
      have hstl := stO_len i
      refine cj_seq (fun K13 hK13 => ?_)
      refine cj_region ?_
      refine rj_val (wn0 rfl) rfl rfl (y_lss rfl rfl) ?_
      refine rj_nil ?_
      refine hK13 _ _ _ ?_
      refine cj_seq (fun K14 hK14 => ?_)
      refine cj_cond rfl (fun hc30 => ?_) (fun hc30 => ?_)
      · try simp only [decide_eq_true_eq, decide_eq_false_iff_not, Bool.not_eq_true', Bool.not_eq_false', Bool.true_eq_false, Bool.false_eq_true] at hc30
        refine cj_skip ?_
        refine hK14 _ _ _ ?_
        refine cj_seq (fun K16 hK16 => ?_)
        refine cj_block ?_
        refine cj_seq (fun K17 hK17 => ?_)
        refine cj_region ?_
        refine rj_val (wn0 rfl) rfl rfl (y_move rfl) ?_
        refine rj_val (wn0 rfl) rfl rfl (y_assign rfl) ?_
        refine rj_nil ?_
        refine hK17 _ _ _ ?_
        refine cj_seq (fun K18 hK18 => ?_)
        refine cj_region ?_
        refine rj_val (wn0 rfl) rfl rfl (y_move rfl) ?_
        refine rj_val (wn0 rfl) rfl rfl (y_move rfl) ?_
        first | refine rj_val (wn0 rfl) rfl rfl (y_conv_in Try.underlying5 Try.underlying27 rfl (by (simp only [IntKind.min, IntKind.max, IntKind.signed, IntKind.bits, Bool.false_eq_true, ite_false, ite_true]; omega))) ?_ | refine rj_val (wn0 rfl) rfl rfl (y_conv Try.underlying5 Try.underlying27 rfl) ?_
        refine rj_val (wn0 rfl) rfl rfl (y_build (cells := [_, _, _, _, _, _, _, _, _, _]) [(0, 1), (1, 1), (2, 1), (3, 1), (4, 1), (5, 1), (6, 1), (7, 1), (8, 1), (9, 1)] Try.underlying32 Try.zeroValue32 (fun _ => rfl) rfl rfl) ?_
        refine rj_buildSlice (sz := 10) (wn0 rfl) rfl Try.underlying64 Try.sizeOf32 Try.zeroValue32 rfl rfl rfl (by decide) (by decide) (fun bz => ?_)
        refine rj_freeze (e := 32) (sz := 10) (n := 1) (v := .slice (some ⟨bz, 0, none⟩) 1 1) (xs := msgC (mkO i) (.slice none 0 0)) (by ((repeat (first | exact Find.head _ | apply Find.tail)); done)) (fun R3 hR3 hfr3 hxl3 => ?_)
        have hfm : FrX msgE R3 [mkO i] (.slice (some ⟨bz, 0, none⟩) 1 1) := FrozenS.frx (l := [mkO i]) (css := [msgC (mkO i) (.slice none 0 0)]) (by simpa using hfr3) (Els.single (T := msgE) ⟨_, rfl, FrX.nil⟩)
        refine rj_call (wn0 rfl) rfl Try.call11 rfl (netPut_t bn v (i : Int) (stO i) css (hk.mono hR3) _ [mkO i] hfm (fun m hm => by simp at hm; subst hm; simp [smallM, mkO]) (by simp; omega) (by rw [stO_len]; simp; omega)) (by (repeat (first | exact Split.nil _ | (apply Split.cons; focus (repeat (first | exact Find.head _ | apply Find.tail)))))) (fun _ _ _ _ h => h.elim) ?_
        rintro r R4 L' hR4 ⟨v4, css4, hk4, rfl⟩
        rw [← stO_succ] at hk4 ⊢
        rw [show (i : Int) + (([mkO i].length : Nat) : Int) = ((i + 1 : Nat) : Int) by simp]
        try simp only [List.cons_append, List.nil_append]
        refine rj_nil ?_
        refine hK18 _ _ _ ?_
        refine cj_env (Env.le_cons (t := 1) rfl (Env.le_cons (t := 5) rfl (Env.le_cons (t := 6) rfl (Env.le_cons (t := 7) rfl (Env.le_cons (t := 28) rfl (Env.le_cons (t := 29) rfl (Env.le_nil _))))))) ?_
        refine cj_region ?_
        refine rj_val (wn0 rfl) rfl rfl (y_move rfl) ?_
        refine rj_val (wn0 rfl) rfl rfl (y_move rfl) ?_
        first | refine rj_val (wn0 rfl) rfl rfl (y_conv_in Try.underlying5 Try.underlying27 rfl (by (simp only [IntKind.min, IntKind.max, IntKind.signed, IntKind.bits, Bool.false_eq_true, ite_false, ite_true]; omega))) ?_ | refine rj_val (wn0 rfl) rfl rfl (y_conv Try.underlying5 Try.underlying27 rfl) ?_
        refine rj_mapUpdate Try.underlying56 Try.underlying27 (wn0 rfl) rfl rfl rfl (by ((repeat (first | exact Find.head _ | apply Find.tail)); done)) ?_
        rw [(wf_first i).1, (wf_first i).2]
        rw [show (if (none : Option Value).isSome = true then i else i + 1) = i + 1 from rfl]
        refine rj_nil ?_
        refine hK16 _ _ _ ?_
        refine cj_env (Env.le_cons (t := 1) rfl (Env.le_cons (t := 5) rfl (Env.le_cons (t := 6) rfl (Env.le_cons (t := 28) rfl (Env.le_cons (t := 29) rfl (Env.le_nil _)))))) ?_
        refine cj_region ?_
        refine rj_val (wn0 rfl) rfl rfl (y_add rfl rfl) ?_
        refine rj_eq 41 rfl (v' := .int .u8 ((i + 1 : Nat) : Int)) (by congr 1; rw [wrap_in (by simp only [IntKind.min, IntKind.max, IntKind.signed, IntKind.bits, Bool.false_eq_true, ite_false]; omega)]; omega) ?_
        refine rj_val (wn0 rfl) rfl rfl (y_move rfl) ?_
        refine rj_nil ?_
        refine ej_on (q' := roundK _ _ _ _ _ _ _) rfl ?_
        refine ej_round ((i + 1, v4, css4, R4)) (⟨by dsimp only; omega, Hp.le_trans hR2 (Hp.le_trans hR3 hR4), hk4⟩) (by dsimp only; omega) (Env.le_cons rfl (Env.le_cons rfl (Env.le_cons rfl (Env.le_cons rfl (Env.le_cons rfl (Env.le_nil _)))))) rfl (by (repeat (first | exact Sub.refl _ | (apply Sub.pick; focus (repeat (first | exact Find.head _ | apply Find.tail))) | apply Sub.drop | exact Sub.tailApp _ _)))
      · try simp only [decide_eq_true_eq, decide_eq_false_iff_not, Bool.not_eq_true', Bool.not_eq_false', Bool.true_eq_false, Bool.false_eq_true] at hc30
        refine cj_exit ?_
        refine hK11 _ _ _ ?_
        refine cj_env (Env.le_cons (t := 1) rfl (Env.le_cons (t := 5) rfl (Env.le_cons (t := 6) rfl (Env.le_nil _)))) ?_
        refine cj_seq (fun K19 hK19 => ?_)
        refine cj_seq (fun K20 hK20 => ?_)
        refine cj_region ?_
        refine rj_val (wn0 rfl) rfl rfl (y_move rfl) ?_
        first | refine rj_val (wn0 rfl) rfl rfl (y_len_sl Try.underlying55 rfl) ?_ | refine rj_val (wn0 rfl) rfl rfl (y_len_slc Try.underlying55 rfl (by ((repeat (first | exact Find.head _ | apply Find.tail)); done))) ?_
        refine rj_val (wn0 rfl) rfl rfl (y_move rfl) ?_
        refine rj_nil ?_
        refine hK20 _ _ _ ?_
        refine cj_block ?_
        refine cj_env (E' := (fun (x : Nat × Value × List One1 × Int × List (List Value) × Hp) => [(5, .pointer (some ⟨bn, 0, none⟩)), (6, .map (some bm)), (42, .slice q acts.length cap), (43, .int .i64 (acts.length : Int)), (44, .int .i64 (x.1 : Int))]) (0, v, stO i, i, css, R2)) (Env.le_cons rfl (Env.le_cons rfl (Env.le_cons rfl (Env.le_cons rfl (Env.le_cons rfl (Env.le_nil _)))))) ?_
        refine cj_sub (M := (fun (x : Nat × Value × List One1 × Int × List (List Value) × Hp) => netB bn x.2.1 x.2.2.2.1 :: netS x.2.1 x.2.2.1 x.2.2.2.2.1 :: mapF bm .u64 (wf i x.2.2.1) i :: F) (0, v, stO i, i, css, R2)) (by (repeat (first | exact Sub.refl _ | (apply Sub.pick; focus (repeat (first | exact Find.head _ | apply Find.tail))) | apply Sub.drop | exact Sub.tailApp _ _))) ?_
        refine cj_loop (fun (x : Nat × Value × List One1 × Int × List (List Value) × Hp) => [(5, .pointer (some ⟨bn, 0, none⟩)), (6, .map (some bm)), (42, .slice q acts.length cap), (43, .int .i64 (acts.length : Int)), (44, .int .i64 (x.1 : Int))]) (fun (x : Nat × Value × List One1 × Int × List (List Value) × Hp) => x.2.2.2.2.2) (fun (x : Nat × Value × List One1 × Int × List (List Value) × Hp) => netB bn x.2.1 x.2.2.2.1 :: netS x.2.1 x.2.2.1 x.2.2.2.2.1 :: mapF bm .u64 (wf i x.2.2.1) i :: F) (fun (x : Nat × Value × List One1 × Int × List (List Value) × Hp) => x.1 ≤ acts.length ∧ R.le x.2.2.2.2.2 ∧ Els oneE x.2.2.2.2.2 x.2.2.1 x.2.2.2.2.1 ∧ Trm i x.2.2.1 ∧ smallS x.2.2.1 ∧ x.2.2.1.length ≤ 20 + x.1 ∧ 0 ≤ x.2.2.2.1 ∧ x.2.2.2.1 ≤ 20 + x.1) (fun (x : Nat × Value × List One1 × Int × List (List Value) × Hp) => acts.length - x.1) (0, v, stO i, i, css, R2) (⟨by simp, hR2, hk, stO_trm i, stO_small i, by dsimp only; omega, by simp, by dsimp only; omega⟩) ?_
        rintro ⟨j, v5, st, last, css5, R5⟩ ⟨hj, hR5, hk5, htr, hsm, hsl, hl0, hl1⟩
        try dsimp only
        dsimp only at hj hR5 hk5 htr hsm hsl hl0 hl1
        refine cj_seq (fun K21 hK21 => ?_)
        refine cj_region ?_
        refine rj_val (wn0 rfl) rfl rfl (y_lss rfl rfl) ?_
        refine rj_nil ?_
        refine hK21 _ _ _ ?_
        refine cj_seq (fun K22 hK22 => ?_)
        refine cj_cond rfl (fun hc45 => ?_) (fun hc45 => ?_)
        · try simp only [decide_eq_true_eq, decide_eq_false_iff_not, Bool.not_eq_true', Bool.not_eq_false', Bool.true_eq_false, Bool.false_eq_true] at hc45
          refine cj_skip ?_
          refine hK22 _ _ _ ?_
          refine cj_seq (fun K24 hK24 => ?_)
          refine cj_block ?_
          refine cj_seq (fun K25 hK25 => ?_)
          refine cj_region ?_
          obtain ⟨⟨a0, a1⟩, hx⟩ : ∃ x, acts[j]? = some x := ⟨acts[j]'(by omega), by simp⟩
          obtain ⟨b, off, cap', cs, hee, ⟨rfl, hb0, hb1⟩, hcl, hcell⟩ := (hacts.mono hR5).at hx
          obtain ⟨rfl, rfl⟩ : q = some ⟨b, off, none⟩ ∧ cap = cap' := by cases hee; exact ⟨rfl, rfl⟩
          dsimp only at hb0 hb1
          first | refine rj_val (wn0 rfl) rfl rfl (y_indexAddr Try.underlying55 Try.sizeOf57 rfl rfl (by (first | omega | (dsimp only; omega) | (simp; done) | (simp; omega)))) ?_ | refine rj_val (wn0 rfl) rfl rfl (y_index_slc Try.underlying55 Try.sizeOf57 rfl rfl (by ((repeat (first | exact Find.head _ | apply Find.tail)); done)) (by (first | omega | (dsimp only; omega) | (simp; done) | (simp; omega)))) ?_
          refine rj_val (wn0 rfl) rfl rfl ((y_loads_ro ⟨Try.isAgg57, Try.sizeOf57⟩ (vs := [.int .u8 a0, .int .u8 a1]) rfl rfl (fun j u hj => hcell j u hj))) ?_
          refine rj_alloc (wn0 rfl) rfl Try.zeroValue57 rfl (fun b9 => ?_)
          refine rj_stores ⟨Try.isAgg57, Try.sizeOf57⟩ rfl (wn0 rfl) rfl rfl (by (first | (simp [Value.oneCell']; done) | (intro u hu; simp only [List.mem_cons, List.not_mem_nil, or_false] at hu; rcases hu with rfl | rfl | rfl | rfl <;> first | rfl | assumption))) (by ((repeat (first | exact Find.head _ | apply Find.tail)); done)) (by (simp)) rfl ?_
          refine rj_nil ?_
          refine hK25 _ _ _ ?_
          refine cj_env (Env.le_cons (t := 5) rfl (Env.le_cons (t := 6) rfl (Env.le_cons (t := 9) rfl (Env.le_cons (t := 42) rfl (Env.le_cons (t := 43) rfl (Env.le_cons (t := 44) rfl (Env.le_nil _))))))) ?_
          refine cj_seq (fun K26 hK26 => ?_)
          refine cj_region ?_
          refine rj_val (wn0 rfl) rfl rfl (y_move rfl) ?_
          refine rj_val (wn0 rfl) rfl rfl (y_indexAddr_arr Try.underlying57 Try.sizeOf5 rfl rfl (by (first | omega | (dsimp only; omega) | (simp; done) | (simp; omega)))) ?_
          first | refine rj_val (wn0 rfl) rfl rfl (y_load ⟨Try.isAgg5, Try.sizeOf5⟩ rfl (by ((repeat (first | exact Find.head _ | apply Find.tail)); done)) rfl) ?_ | refine rj_val (wn0 rfl) rfl rfl (y_load_slc ⟨Try.isAgg5, Try.sizeOf5⟩ rfl (by ((repeat (first | exact Find.head _ | apply Find.tail)); done)) rfl) ?_
          first | refine rj_val (wn0 rfl) rfl rfl (y_conv_in Try.underlying5 Try.underlying3 rfl (by (simp only [IntKind.min, IntKind.max, IntKind.signed, IntKind.bits, Bool.false_eq_true, ite_false, ite_true]; omega))) ?_ | refine rj_val (wn0 rfl) rfl rfl (y_conv Try.underlying5 Try.underlying3 rfl) ?_
          refine rj_call (wn0 rfl) rfl Try.call18 rfl (netAt_t bn v5 last st css5 hk5 hsm a1) (by (repeat (first | exact Split.nil _ | (apply Split.cons; focus (repeat (first | exact Find.head _ | apply Find.tail)))))) (fun _ _ _ _ h => h.elim) ?_
          rintro r R6 L' hR6 ⟨rfl, ve, rfl, hve⟩
          obtain ⟨m1, hm1e⟩ : ∃ m1, m1 = (atM st a1).2 := ⟨_, rfl⟩
          rw [← hm1e] at hve ⊢
          try simp only [List.cons_append, List.nil_append]
          refine rj_val (wn0 rfl) rfl rfl (y_move rfl) ?_
          refine rj_val (wn0 rfl) rfl rfl (y_extract rfl rfl) ?_
          refine rj_val (wn0 rfl) rfl rfl (y_extract rfl rfl) ?_
          refine rj_val (wn0 rfl) rfl rfl (y_extract rfl rfl) ?_
          refine rj_alloc (wn0 rfl) rfl Try.zeroValue32 rfl (fun b10 => ?_)
          refine rj_stores ⟨Try.isAgg32, Try.sizeOf32⟩ rfl (wn0 rfl) rfl rfl (msgE.one (R := R6) (x := m1) ⟨_, rfl, hve⟩) (by ((repeat (first | exact Find.head _ | apply Find.tail)); done)) (by exact Nat.le_refl 10) rfl ?_
          refine rj_val (wn0 rfl) rfl rfl (y_assign rfl) ?_
          refine rj_val (wn0 rfl) rfl rfl (y_assign rfl) ?_
          refine rj_nil ?_
          refine hK26 _ _ _ ?_
          refine cj_env (Env.le_cons (t := 5) rfl (Env.le_cons (t := 6) rfl (Env.le_cons (t := 9) rfl (Env.le_cons (t := 10) rfl (Env.le_cons (t := 12) rfl (Env.le_cons (t := 42) rfl (Env.le_cons (t := 43) rfl (Env.le_cons (t := 44) rfl (Env.le_nil _))))))))) ?_
          refine cj_seq (fun K27 hK27 => ?_)
          refine cj_seq (fun K28 hK28 => ?_)
          refine cj_region ?_
          refine rj_val (wn0 rfl) rfl rfl (y_move rfl) ?_
          refine rj_val (wn0 rfl) rfl rfl (y_not rfl) ?_
          refine rj_nil ?_
          refine hK28 _ _ _ ?_
          refine cj_cond rfl (fun hc58 => ?_) (fun hc58 => ?_)
          · try simp only [decide_eq_true_eq, decide_eq_false_iff_not, Bool.not_eq_true', Bool.not_eq_false', Bool.true_eq_false, Bool.false_eq_true] at hc58
            refine cj_exit ?_
            refine hK24 _ _ _ ?_
            refine cj_env (Env.le_cons (t := 5) rfl (Env.le_cons (t := 6) rfl (Env.le_cons (t := 42) rfl (Env.le_cons (t := 43) rfl (Env.le_cons (t := 44) rfl (Env.le_nil _)))))) ?_
            refine cj_region ?_
            first | refine rj_val (wn0 rfl) rfl rfl (y_add64 rfl rfl (by (first | omega | (dsimp only; omega) | (simp; done) | (simp; omega)))) ?_ | refine rj_val (wn0 rfl) rfl rfl (y_add rfl rfl) ?_
            refine rj_val (wn0 rfl) rfl rfl (y_move rfl) ?_
            refine rj_nil ?_
            refine ej_on (q' := roundK _ _ _ _ _ _ _) rfl ?_
            refine ej_round ((j + 1, v5, st, last, css5, R6)) (⟨by dsimp only; omega, Hp.le_trans hR5 hR6, hk5.mono hR6, htr, hsm, by dsimp only; omega, hl0, by dsimp only; omega⟩) (by dsimp only; omega) (Env.le_cons rfl (Env.le_cons rfl (Env.le_cons rfl (Env.le_cons rfl (Env.le_cons rfl (Env.le_nil _)))))) rfl (by (repeat (first | exact Sub.refl _ | (apply Sub.pick; focus (repeat (first | exact Find.head _ | apply Find.tail))) | apply Sub.drop | exact Sub.tailApp _ _)))
          · try simp only [decide_eq_true_eq, decide_eq_false_iff_not, Bool.not_eq_true', Bool.not_eq_false', Bool.true_eq_false, Bool.false_eq_true] at hc58
            refine cj_skip ?_
            refine hK27 _ _ _ ?_
            refine cj_env (Env.le_cons (t := 5) rfl (Env.le_cons (t := 6) rfl (Env.le_cons (t := 9) rfl (Env.le_cons (t := 10) rfl (Env.le_cons (t := 42) rfl (Env.le_cons (t := 43) rfl (Env.le_cons (t := 44) rfl (Env.le_nil _)))))))) ?_
            refine cj_seq (fun K30 hK30 => ?_)
            refine cj_region ?_
            have hbt : hasB st a1 = true := by simpa using hc58
            obtain ⟨k1, x1, hk1e, hxk, hak⟩ := hasB_some hbt
            have hm1 : 0 ≤ m1.term ∧ m1.term < i := by rw [hm1e, hak]; exact htr x1 (List.mem_of_getElem? hxk)
            have hx1 : x1.2 = m1 := by rw [hm1e, hak]
            have hce := cnt_erase hxk
            have hcl2 := cnt_le st m1.term
            have hdl : dropL st a1 = st.eraseIdx k1 := by unfold dropL; rw [if_pos hbt, hk1e]; rfl
            have hwg := wf_get (st := st) hm1
            rw [hx1] at hce
            refine rj_val (wn0 rfl) rfl rfl (y_indexAddr_arr Try.underlying57 Try.sizeOf5 rfl rfl (by (first | omega | (dsimp only; omega) | (simp; done) | (simp; omega)))) ?_
            first | refine rj_val (wn0 rfl) rfl rfl (y_load ⟨Try.isAgg5, Try.sizeOf5⟩ rfl (by ((repeat (first | exact Find.head _ | apply Find.tail)); done)) rfl) ?_ | refine rj_val (wn0 rfl) rfl rfl (y_load_slc ⟨Try.isAgg5, Try.sizeOf5⟩ rfl (by ((repeat (first | exact Find.head _ | apply Find.tail)); done)) rfl) ?_
            refine rj_val (wn0 rfl) rfl rfl (y_rem rfl rfl (by (first | omega | (dsimp only; omega) | (simp; done) | (simp; omega)))) ?_
            refine rj_nil ?_
            refine hK30 _ _ _ ?_
            refine cj_block ?_
            refine cj_seq (fun K31 hK31 => ?_)
            refine cj_region ?_
            refine rj_val (wn0 rfl) rfl rfl (y_eql rfl rfl) ?_
            refine rj_val (wn0 rfl) rfl rfl (y_assign rfl) ?_
            refine rj_nil ?_
            refine hK31 _ _ _ ?_
            refine cj_env (Env.le_cons (t := 5) rfl (Env.le_cons (t := 6) rfl (Env.le_cons (t := 9) rfl (Env.le_cons (t := 10) rfl (Env.le_cons (t := 42) rfl (Env.le_cons (t := 43) rfl (Env.le_cons (t := 44) rfl (Env.le_cons (t := 61) rfl (Env.le_cons (t := 72) rfl (Env.le_nil _)))))))))) ?_
            refine cj_cond rfl (fun hc72 => ?_) (fun hc72 => ?_)
            · try simp only [decide_eq_true_eq, decide_eq_false_iff_not, Bool.not_eq_true', Bool.not_eq_false', Bool.true_eq_false, Bool.false_eq_true] at hc72
              refine cj_seq (fun K33 hK33 => ?_)
              refine cj_region ?_
              refine rj_val (wn0 rfl) rfl rfl (y_move rfl) ?_
              refine rj_val (wn0 rfl) rfl rfl (y_indexAddr_arr Try.underlying57 Try.sizeOf5 rfl rfl (by (first | omega | (dsimp only; omega) | (simp; done) | (simp; omega)))) ?_
              first | refine rj_val (wn0 rfl) rfl rfl (y_load ⟨Try.isAgg5, Try.sizeOf5⟩ rfl (by ((repeat (first | exact Find.head _ | apply Find.tail)); done)) rfl) ?_ | refine rj_val (wn0 rfl) rfl rfl (y_load_slc ⟨Try.isAgg5, Try.sizeOf5⟩ rfl (by ((repeat (first | exact Find.head _ | apply Find.tail)); done)) rfl) ?_
              first | refine rj_val (wn0 rfl) rfl rfl (y_conv_in Try.underlying5 Try.underlying3 rfl (by (simp only [IntKind.min, IntKind.max, IntKind.signed, IntKind.bits, Bool.false_eq_true, ite_false, ite_true]; omega))) ?_ | refine rj_val (wn0 rfl) rfl rfl (y_conv Try.underlying5 Try.underlying3 rfl) ?_
              refine rj_call (wn0 rfl) rfl Try.call16 rfl (netTwice_t bn v5 last st css5 (hk5.mono hR6) hsm (by omega) (by omega) a1) (by (repeat (first | exact Split.nil _ | (apply Split.cons; focus (repeat (first | exact Find.head _ | apply Find.tail)))))) (fun _ _ _ _ h => h.elim) ?_
              rintro r R7 L' hR7 ⟨rfl, v7, css7, hk7, rfl⟩
              have e1 : twL st last a1 = st ++ numb last [m1] := by unfold twL; rw [if_pos hbt, hm1e]
              have e2 : twN st last a1 = last + 1 := by unfold twN; rw [if_pos hbt]
              rw [e1] at hk7
              rw [e1, e2]
              have hcu : ∀ k, cnt (st ++ numb last [m1]) k = cnt st k + if m1.term = k then 1 else 0 := fun k => by rw [cnt_app]; congr 1; exact cnt_one _ k
              try simp only [List.cons_append, List.nil_append]
              refine rj_nil ?_
              refine hK33 _ _ _ ?_
              refine cj_env (Env.le_cons (t := 5) rfl (Env.le_cons (t := 6) rfl (Env.le_cons (t := 10) rfl (Env.le_cons (t := 42) rfl (Env.le_cons (t := 43) rfl (Env.le_cons (t := 44) rfl (Env.le_nil _))))))) ?_
              refine cj_region ?_
              refine rj_val (wn0 rfl) rfl rfl (y_move rfl) ?_
              refine rj_val (wn0 rfl) rfl rfl (y_fieldAddr (k := 3) Try.underlying32 rfl (n := 1) (by decide) Try.sizeOf27 rfl) ?_
              first | refine rj_val (wn0 rfl) rfl rfl (y_load ⟨Try.isAgg27, Try.sizeOf27⟩ rfl (by ((repeat (first | exact Find.head _ | apply Find.tail)); done)) rfl) ?_ | refine rj_val (wn0 rfl) rfl rfl (y_load_slc ⟨Try.isAgg27, Try.sizeOf27⟩ rfl (by ((repeat (first | exact Find.head _ | apply Find.tail)); done)) rfl) ?_
              refine rj_val (wn0 rfl) rfl rfl (y_lookup Try.underlying56 Try.underlying27 Try.zeroValue3 rfl rfl (by ((repeat (first | exact Find.head _ | apply Find.tail)); done))) ?_
              refine rj_eq 82 rfl (v' := .int .i64 (cnt st m1.term : Int)) (by rw [if_neg (by decide), hwg]; rfl) ?_
              first | refine rj_val (wn0 rfl) rfl rfl (y_add64 rfl rfl (by (first | omega | (dsimp only; omega) | (simp; done) | (simp; omega)))) ?_ | refine rj_val (wn0 rfl) rfl rfl (y_add rfl rfl) ?_
              refine rj_mapUpdate Try.underlying56 Try.underlying27 (wn0 rfl) rfl rfl rfl (by ((repeat (first | exact Find.head _ | apply Find.tail)); done)) ?_
              rw [wf_upd (st' := st ++ numb last [m1]) hm1 (fun k hk => by rw [hcu, if_neg (fun h => hk h.symm)]; rfl) (by rw [hcu, if_pos rfl]; push_cast; rfl), hwg]
              rw [show (if (some (Value.int .i64 (cnt st m1.term : Int))).isSome = true then i else i + 1) = i from rfl]
              refine rj_nil ?_
              refine hK24 _ _ _ ?_
              refine cj_env (Env.le_cons (t := 5) rfl (Env.le_cons (t := 6) rfl (Env.le_cons (t := 42) rfl (Env.le_cons (t := 43) rfl (Env.le_cons (t := 44) rfl (Env.le_nil _)))))) ?_
              refine cj_region ?_
              first | refine rj_val (wn0 rfl) rfl rfl (y_add64 rfl rfl (by (first | omega | (dsimp only; omega) | (simp; done) | (simp; omega)))) ?_ | refine rj_val (wn0 rfl) rfl rfl (y_add rfl rfl) ?_
              refine rj_val (wn0 rfl) rfl rfl (y_move rfl) ?_
              refine rj_nil ?_
              refine ej_on (q' := roundK _ _ _ _ _ _ _) rfl ?_
              refine ej_round ((j + 1, v7, st ++ numb last [m1], last + 1, css7, R7)) (⟨by dsimp only; omega, Hp.le_trans hR5 (Hp.le_trans hR6 hR7), hk7, htr.app (fun y hy => by simp [numb] at hy; subst hy; exact hm1), (e1 ▸ twL_small hsm), by simp [numb]; omega, by dsimp only; omega, by dsimp only; omega⟩) (by dsimp only; omega) (Env.le_cons rfl (Env.le_cons rfl (Env.le_cons rfl (Env.le_cons rfl (Env.le_cons rfl (Env.le_nil _)))))) rfl (by (repeat (first | exact Sub.refl _ | (apply Sub.pick; focus (repeat (first | exact Find.head _ | apply Find.tail))) | apply Sub.drop | exact Sub.tailApp _ _)))
            · try simp only [decide_eq_true_eq, decide_eq_false_iff_not, Bool.not_eq_true', Bool.not_eq_false', Bool.true_eq_false, Bool.false_eq_true] at hc72
              refine cj_seq (fun K34 hK34 => ?_)
              refine cj_region ?_
              refine rj_val (wn0 rfl) rfl rfl (y_eql rfl rfl) ?_
              refine rj_val (wn0 rfl) rfl rfl (y_assign rfl) ?_
              refine rj_nil ?_
              refine hK34 _ _ _ ?_
              refine cj_env (Env.le_cons (t := 5) rfl (Env.le_cons (t := 6) rfl (Env.le_cons (t := 9) rfl (Env.le_cons (t := 10) rfl (Env.le_cons (t := 42) rfl (Env.le_cons (t := 43) rfl (Env.le_cons (t := 44) rfl (Env.le_cons (t := 84) rfl (Env.le_nil _))))))))) ?_
              refine cj_cond rfl (fun hc84 => ?_) (fun hc84 => ?_)
              · try simp only [decide_eq_true_eq, decide_eq_false_iff_not, Bool.not_eq_true', Bool.not_eq_false', Bool.true_eq_false, Bool.false_eq_true] at hc84
                refine cj_seq (fun K36 hK36 => ?_)
                refine cj_region ?_
                refine rj_val (wn0 rfl) rfl rfl (y_move rfl) ?_
                refine rj_val (wn0 rfl) rfl rfl (y_indexAddr_arr Try.underlying57 Try.sizeOf5 rfl rfl (by (first | omega | (dsimp only; omega) | (simp; done) | (simp; omega)))) ?_
                first | refine rj_val (wn0 rfl) rfl rfl (y_load ⟨Try.isAgg5, Try.sizeOf5⟩ rfl (by ((repeat (first | exact Find.head _ | apply Find.tail)); done)) rfl) ?_ | refine rj_val (wn0 rfl) rfl rfl (y_load_slc ⟨Try.isAgg5, Try.sizeOf5⟩ rfl (by ((repeat (first | exact Find.head _ | apply Find.tail)); done)) rfl) ?_
                first | refine rj_val (wn0 rfl) rfl rfl (y_conv_in Try.underlying5 Try.underlying3 rfl (by (simp only [IntKind.min, IntKind.max, IntKind.signed, IntKind.bits, Bool.false_eq_true, ite_false, ite_true]; omega))) ?_ | refine rj_val (wn0 rfl) rfl rfl (y_conv Try.underlying5 Try.underlying3 rfl) ?_
                refine rj_call (wn0 rfl) rfl Try.call17 rfl (netDrop_t bn v5 last st css5 (hk5.mono hR6) (by omega) a1) (by (repeat (first | exact Split.nil _ | (apply Split.cons; focus (repeat (first | exact Find.head _ | apply Find.tail)))))) (fun _ _ _ _ h => h.elim) ?_
                rintro r R7 L' hR7 ⟨rfl, rfl, v7, css7, hk7, rfl⟩
                have e1 := hdl
                rw [hdl] at hk7 ⊢
                try simp only [List.cons_append, List.nil_append]
                refine rj_nil ?_
                refine hK36 _ _ _ ?_
                refine cj_env (Env.le_cons (t := 5) rfl (Env.le_cons (t := 6) rfl (Env.le_cons (t := 10) rfl (Env.le_cons (t := 42) rfl (Env.le_cons (t := 43) rfl (Env.le_cons (t := 44) rfl (Env.le_nil _))))))) ?_
                refine cj_region ?_
                refine rj_val (wn0 rfl) rfl rfl (y_move rfl) ?_
                refine rj_val (wn0 rfl) rfl rfl (y_fieldAddr (k := 3) Try.underlying32 rfl (n := 1) (by decide) Try.sizeOf27 rfl) ?_
                first | refine rj_val (wn0 rfl) rfl rfl (y_load ⟨Try.isAgg27, Try.sizeOf27⟩ rfl (by ((repeat (first | exact Find.head _ | apply Find.tail)); done)) rfl) ?_ | refine rj_val (wn0 rfl) rfl rfl (y_load_slc ⟨Try.isAgg27, Try.sizeOf27⟩ rfl (by ((repeat (first | exact Find.head _ | apply Find.tail)); done)) rfl) ?_
                refine rj_val (wn0 rfl) rfl rfl (y_lookup Try.underlying56 Try.underlying27 Try.zeroValue3 rfl rfl (by ((repeat (first | exact Find.head _ | apply Find.tail)); done))) ?_
                refine rj_eq 94 rfl (v' := .int .i64 (cnt st m1.term : Int)) (by rw [if_neg (by decide), hwg]; rfl) ?_
                first | refine rj_val (wn0 rfl) rfl rfl (y_sub64 rfl rfl (by (first | omega | (dsimp only; omega) | (simp; done) | (simp; omega)))) ?_ | refine rj_val (wn0 rfl) rfl rfl (y_sub rfl rfl) ?_
                refine rj_mapUpdate Try.underlying56 Try.underlying27 (wn0 rfl) rfl rfl rfl (by ((repeat (first | exact Find.head _ | apply Find.tail)); done)) ?_
                rw [wf_upd (st' := st.eraseIdx k1) hm1 (fun k hk => by have := hce k; rw [if_neg (fun h => hk h.symm)] at this; omega) (by have := hce m1.term; rw [if_pos rfl] at this; omega), hwg]
                rw [show (if (some (Value.int .i64 (cnt st m1.term : Int))).isSome = true then i else i + 1) = i from rfl]
                refine rj_nil ?_
                refine hK24 _ _ _ ?_
                refine cj_env (Env.le_cons (t := 5) rfl (Env.le_cons (t := 6) rfl (Env.le_cons (t := 42) rfl (Env.le_cons (t := 43) rfl (Env.le_cons (t := 44) rfl (Env.le_nil _)))))) ?_
                refine cj_region ?_
                first | refine rj_val (wn0 rfl) rfl rfl (y_add64 rfl rfl (by (first | omega | (dsimp only; omega) | (simp; done) | (simp; omega)))) ?_ | refine rj_val (wn0 rfl) rfl rfl (y_add rfl rfl) ?_
                refine rj_val (wn0 rfl) rfl rfl (y_move rfl) ?_
                refine rj_nil ?_
                refine ej_on (q' := roundK _ _ _ _ _ _ _) rfl ?_
                refine ej_round ((j + 1, v7, st.eraseIdx k1, last, css7, R6)) (⟨by dsimp only; omega, Hp.le_trans hR5 hR6, hk7, htr.erase k1, (e1 ▸ dropL_small hsm), by have := List.length_eraseIdx_le st k1; dsimp only; omega, by dsimp only; omega, by dsimp only; omega⟩) (by dsimp only; omega) (Env.le_cons rfl (Env.le_cons rfl (Env.le_cons rfl (Env.le_cons rfl (Env.le_cons rfl (Env.le_nil _)))))) rfl (by (repeat (first | exact Sub.refl _ | (apply Sub.pick; focus (repeat (first | exact Find.head _ | apply Find.tail))) | apply Sub.drop | exact Sub.tailApp _ _)))
              · try simp only [decide_eq_true_eq, decide_eq_false_iff_not, Bool.not_eq_true', Bool.not_eq_false', Bool.true_eq_false, Bool.false_eq_true] at hc84
                refine cj_seq (fun K37 hK37 => ?_)
                refine cj_region ?_
                refine rj_val (wn0 rfl) rfl rfl (y_move rfl) ?_
                refine rj_val (wn0 rfl) rfl rfl (y_indexAddr_arr Try.underlying57 Try.sizeOf5 rfl rfl (by (first | omega | (dsimp only; omega) | (simp; done) | (simp; omega)))) ?_
                first | refine rj_val (wn0 rfl) rfl rfl (y_load ⟨Try.isAgg5, Try.sizeOf5⟩ rfl (by ((repeat (first | exact Find.head _ | apply Find.tail)); done)) rfl) ?_ | refine rj_val (wn0 rfl) rfl rfl (y_load_slc ⟨Try.isAgg5, Try.sizeOf5⟩ rfl (by ((repeat (first | exact Find.head _ | apply Find.tail)); done)) rfl) ?_
                first | refine rj_val (wn0 rfl) rfl rfl (y_conv_in Try.underlying5 Try.underlying3 rfl (by (simp only [IntKind.min, IntKind.max, IntKind.signed, IntKind.bits, Bool.false_eq_true, ite_false, ite_true]; omega))) ?_ | refine rj_val (wn0 rfl) rfl rfl (y_conv Try.underlying5 Try.underlying3 rfl) ?_
                refine rj_call (wn0 rfl) rfl Try.call13 rfl (netTake_t bn v5 last st css5 (hk5.mono hR6) hsm (by omega) a1) (by (repeat (first | exact Split.nil _ | (apply Split.cons; focus (repeat (first | exact Find.head _ | apply Find.tail)))))) (fun _ _ _ _ h => h.elim) ?_
                rintro r R7 L' hR7 ⟨⟨ve7, rfl, hve7⟩, v7, css7, hk7, rfl⟩
                have e1 := hdl
                rw [hdl] at hk7 ⊢
                try simp only [List.cons_append, List.nil_append]
                refine rj_nil ?_
                refine hK37 _ _ _ ?_
                refine cj_env (Env.le_cons (t := 5) rfl (Env.le_cons (t := 6) rfl (Env.le_cons (t := 10) rfl (Env.le_cons (t := 42) rfl (Env.le_cons (t := 43) rfl (Env.le_cons (t := 44) rfl (Env.le_nil _))))))) ?_
                refine cj_region ?_
                refine rj_val (wn0 rfl) rfl rfl (y_move rfl) ?_
                refine rj_val (wn0 rfl) rfl rfl (y_fieldAddr (k := 3) Try.underlying32 rfl (n := 1) (by decide) Try.sizeOf27 rfl) ?_
                first | refine rj_val (wn0 rfl) rfl rfl (y_load ⟨Try.isAgg27, Try.sizeOf27⟩ rfl (by ((repeat (first | exact Find.head _ | apply Find.tail)); done)) rfl) ?_ | refine rj_val (wn0 rfl) rfl rfl (y_load_slc ⟨Try.isAgg27, Try.sizeOf27⟩ rfl (by ((repeat (first | exact Find.head _ | apply Find.tail)); done)) rfl) ?_
                refine rj_val (wn0 rfl) rfl rfl (y_lookup Try.underlying56 Try.underlying27 Try.zeroValue3 rfl rfl (by ((repeat (first | exact Find.head _ | apply Find.tail)); done))) ?_
                refine rj_eq 70 rfl (v' := .int .i64 (cnt st m1.term : Int)) (by rw [if_neg (by decide), hwg]; rfl) ?_
                first | refine rj_val (wn0 rfl) rfl rfl (y_sub64 rfl rfl (by (first | omega | (dsimp only; omega) | (simp; done) | (simp; omega)))) ?_ | refine rj_val (wn0 rfl) rfl rfl (y_sub rfl rfl) ?_
                refine rj_mapUpdate Try.underlying56 Try.underlying27 (wn0 rfl) rfl rfl rfl (by ((repeat (first | exact Find.head _ | apply Find.tail)); done)) ?_
                rw [wf_upd (st' := st.eraseIdx k1) hm1 (fun k hk => by have := hce k; rw [if_neg (fun h => hk h.symm)] at this; omega) (by have := hce m1.term; rw [if_pos rfl] at this; omega), hwg]
                rw [show (if (some (Value.int .i64 (cnt st m1.term : Int))).isSome = true then i else i + 1) = i from rfl]
                refine rj_nil ?_
                refine hK24 _ _ _ ?_
                refine cj_env (Env.le_cons (t := 5) rfl (Env.le_cons (t := 6) rfl (Env.le_cons (t := 42) rfl (Env.le_cons (t := 43) rfl (Env.le_cons (t := 44) rfl (Env.le_nil _)))))) ?_
                refine cj_region ?_
                first | refine rj_val (wn0 rfl) rfl rfl (y_add64 rfl rfl (by (first | omega | (dsimp only; omega) | (simp; done) | (simp; omega)))) ?_ | refine rj_val (wn0 rfl) rfl rfl (y_add rfl rfl) ?_
                refine rj_val (wn0 rfl) rfl rfl (y_move rfl) ?_
                refine rj_nil ?_
                refine ej_on (q' := roundK _ _ _ _ _ _ _) rfl ?_
                refine ej_round ((j + 1, v7, st.eraseIdx k1, last, css7, R7)) (⟨by dsimp only; omega, Hp.le_trans hR5 (Hp.le_trans hR6 hR7), hk7, htr.erase k1, (e1 ▸ dropL_small hsm), by have := List.length_eraseIdx_le st k1; dsimp only; omega, by dsimp only; omega, by dsimp only; omega⟩) (by dsimp only; omega) (Env.le_cons rfl (Env.le_cons rfl (Env.le_cons rfl (Env.le_cons rfl (Env.le_cons rfl (Env.le_nil _)))))) rfl (by (repeat (first | exact Sub.refl _ | (apply Sub.pick; focus (repeat (first | exact Find.head _ | apply Find.tail))) | apply Sub.drop | exact Sub.tailApp _ _)))
        · try simp only [decide_eq_true_eq, decide_eq_false_iff_not, Bool.not_eq_true', Bool.not_eq_false', Bool.true_eq_false, Bool.false_eq_true] at hc45
          refine cj_exit ?_
          refine hK19 _ _ _ ?_
          refine cj_env (Env.le_cons (t := 5) rfl (Env.le_cons (t := 6) rfl (Env.le_nil _))) ?_
          refine cj_seq (fun K38 hK38 => ?_)
          refine cj_block ?_
          refine cj_env (E' := (fun (x : Value × List One1 × List (List Value) × Hp) => [(5, .pointer (some ⟨bn, 0, none⟩)), (6, .map (some bm))]) (v5, st, css5, R5)) (Env.le_cons rfl (Env.le_cons rfl (Env.le_nil _))) ?_
          refine cj_sub (M := (fun (x : Value × List One1 × List (List Value) × Hp) => netB bn x.1 last :: netS x.1 x.2.1 x.2.2.1 :: mapF bm .u64 (wf i x.2.1) i :: F) (v5, st, css5, R5)) (by (repeat (first | exact Sub.refl _ | (apply Sub.pick; focus (repeat (first | exact Find.head _ | apply Find.tail))) | apply Sub.drop | exact Sub.tailApp _ _))) ?_
          refine cj_loop (fun (x : Value × List One1 × List (List Value) × Hp) => [(5, .pointer (some ⟨bn, 0, none⟩)), (6, .map (some bm))]) (fun (x : Value × List One1 × List (List Value) × Hp) => x.2.2.2) (fun (x : Value × List One1 × List (List Value) × Hp) => netB bn x.1 last :: netS x.1 x.2.1 x.2.2.1 :: mapF bm .u64 (wf i x.2.1) i :: F) (fun (x : Value × List One1 × List (List Value) × Hp) => R.le x.2.2.2 ∧ Els oneE x.2.2.2 x.2.1 x.2.2.1 ∧ Trm i x.2.1 ∧ smallS x.2.1 ∧ x.2.1.length ≤ 50) (fun (x : Value × List One1 × List (List Value) × Hp) => x.2.1.length) (v5, st, css5, R5) (⟨hR5, hk5, htr, hsm, by dsimp only; omega⟩) ?_
          rintro ⟨v6, st6, css6, R6⟩ ⟨hR6, hk6, htr6, hsm6, hsl6⟩
          try dsimp only
          dsimp only at hR6 hk6 htr6 hsm6 hsl6
          refine cj_seq (fun K39 hK39 => ?_)
          refine cj_seq (fun K40 hK40 => ?_)
          refine cj_region ?_
          refine rj_val (wn0 rfl) rfl rfl (y_move rfl) ?_
          refine rj_val (wn0 rfl) rfl rfl (y_call Try.call19 rfl (netLen_q bn v6 last st6 css6) (by (repeat (first | exact Split.nil _ | (apply Split.cons; focus (repeat (first | exact Find.head _ | apply Find.tail))))))) ?_
          refine rj_val (wn0 rfl) rfl rfl (y_gtr rfl rfl) ?_
          refine rj_nil ?_
          refine hK40 _ _ _ ?_
          refine cj_cond rfl (fun hc99 => ?_) (fun hc99 => ?_)
          · try simp only [decide_eq_true_eq, decide_eq_false_iff_not, Bool.not_eq_true', Bool.not_eq_false', Bool.true_eq_false, Bool.false_eq_true] at hc99
            refine cj_skip ?_
            refine hK39 _ _ _ ?_
            refine cj_env (Env.le_cons (t := 5) rfl (Env.le_cons (t := 6) rfl (Env.le_nil _))) ?_
            refine cj_block ?_
            refine cj_seq (fun K42 hK42 => ?_)
            refine cj_region ?_
            have hpos : 0 < st6.length := by (try simp at hc99); omega
            obtain ⟨x1, hxk⟩ : ∃ x, st6[0]? = some x := ⟨st6[0], by simp⟩
            have hat := atM_some hxk
            have htm : 0 ≤ x1.2.term ∧ x1.2.term < i := htr6 x1 (List.mem_of_getElem? hxk)
            have hce := cnt_erase hxk
            have hcl2 := cnt_le st6 x1.2.term
            have hdl : dropL st6 0 = st6.eraseIdx 0 := by unfold dropL; rw [if_pos (show hasB st6 0 = true from hat.2)]; rfl
            have hwg := wf_get (st := st6) htm
            refine rj_val (wn0 rfl) rfl rfl (y_move rfl) ?_
            refine rj_call (wn0 rfl) rfl Try.call13 rfl (netTake_t bn v6 last st6 css6 hk6 hsm6 (by omega) 0) (by (repeat (first | exact Split.nil _ | (apply Split.cons; focus (repeat (first | exact Find.head _ | apply Find.tail)))))) (fun _ _ _ _ h => h.elim) ?_
            rintro r R7 L' hR7 ⟨⟨ve7, rfl, hve7⟩, v7, css7, hk7, rfl⟩
            have e1 := hdl
            rw [hdl] at hk7 ⊢
            rw [show atM st6 0 = x1 from hat.1] at hve7 ⊢
            rw [show hasB st6 0 = true from hat.2]
            try simp only [List.cons_append, List.nil_append]
            refine rj_val (wn0 rfl) rfl rfl (y_move rfl) ?_
            refine rj_val (wn0 rfl) rfl rfl (y_extract rfl rfl) ?_
            refine rj_val (wn0 rfl) rfl rfl (y_extract rfl rfl) ?_
            refine rj_alloc (wn0 rfl) rfl Try.zeroValue32 rfl (fun b13 => ?_)
            refine rj_stores ⟨Try.isAgg32, Try.sizeOf32⟩ rfl (wn0 rfl) rfl rfl (msgE.one (R := R7) (x := x1.2) ⟨_, rfl, hve7⟩) (by ((repeat (first | exact Find.head _ | apply Find.tail)); done)) (by exact Nat.le_refl 10) rfl ?_
            refine rj_val (wn0 rfl) rfl rfl (y_assign rfl) ?_
            refine rj_nil ?_
            refine hK42 _ _ _ ?_
            refine cj_env (Env.le_cons (t := 5) rfl (Env.le_cons (t := 6) rfl (Env.le_cons (t := 13) rfl (Env.le_cons (t := 14) rfl (Env.le_nil _))))) ?_
            refine cj_seq (fun K43 hK43 => ?_)
            refine cj_seq (fun K44 hK44 => ?_)
            refine cj_region ?_
            refine rj_val (wn0 rfl) rfl rfl (y_move rfl) ?_
            refine rj_val (wn0 rfl) rfl rfl (y_not rfl) ?_
            refine rj_nil ?_
            refine hK44 _ _ _ ?_
            refine cj_cond_f rfl ?_
            refine cj_skip ?_
            refine hK43 _ _ _ ?_
            refine cj_env (Env.le_cons (t := 5) rfl (Env.le_cons (t := 6) rfl (Env.le_cons (t := 13) rfl (Env.le_nil _)))) ?_
            refine cj_region ?_
            refine rj_val (wn0 rfl) rfl rfl (y_move rfl) ?_
            refine rj_val (wn0 rfl) rfl rfl (y_fieldAddr (k := 3) Try.underlying32 rfl (n := 1) (by decide) Try.sizeOf27 rfl) ?_
            first | refine rj_val (wn0 rfl) rfl rfl (y_load ⟨Try.isAgg27, Try.sizeOf27⟩ rfl (by ((repeat (first | exact Find.head _ | apply Find.tail)); done)) rfl) ?_ | refine rj_val (wn0 rfl) rfl rfl (y_load_slc ⟨Try.isAgg27, Try.sizeOf27⟩ rfl (by ((repeat (first | exact Find.head _ | apply Find.tail)); done)) rfl) ?_
            refine rj_val (wn0 rfl) rfl rfl (y_lookup Try.underlying56 Try.underlying27 Try.zeroValue3 rfl rfl (by ((repeat (first | exact Find.head _ | apply Find.tail)); done))) ?_
            refine rj_eq 110 rfl (v' := .int .i64 (cnt st6 x1.2.term : Int)) (by rw [if_neg (by decide), hwg]; rfl) ?_
            first | refine rj_val (wn0 rfl) rfl rfl (y_sub64 rfl rfl (by (first | omega | (dsimp only; omega) | (simp; done) | (simp; omega)))) ?_ | refine rj_val (wn0 rfl) rfl rfl (y_sub rfl rfl) ?_
            refine rj_mapUpdate Try.underlying56 Try.underlying27 (wn0 rfl) rfl rfl rfl (by ((repeat (first | exact Find.head _ | apply Find.tail)); done)) ?_
            rw [wf_upd (st' := st6.eraseIdx 0) htm (fun k hk => by have := hce k; rw [if_neg (fun h => hk h.symm)] at this; omega) (by have := hce x1.2.term; rw [if_pos rfl] at this; omega), hwg]
            rw [show (if (some (Value.int .i64 (cnt st6 x1.2.term : Int))).isSome = true then i else i + 1) = i from rfl]
            refine rj_nil ?_
            refine ej_on (q' := roundK _ _ _ _ _ _ _) rfl ?_
            refine ej_round ((v7, st6.eraseIdx 0, css7, R7)) (⟨Hp.le_trans hR6 hR7, hk7, htr6.erase 0, (e1 ▸ dropL_small hsm6), by have := List.length_eraseIdx_le st6 0; dsimp only; omega⟩) (by show (st6.eraseIdx 0).length < st6.length; rw [List.length_eraseIdx_of_lt hpos]; omega) (Env.le_cons rfl (Env.le_cons rfl (Env.le_nil _))) rfl (by (repeat (first | exact Sub.refl _ | (apply Sub.pick; focus (repeat (first | exact Find.head _ | apply Find.tail))) | apply Sub.drop | exact Sub.tailApp _ _)))
          · try simp only [decide_eq_true_eq, decide_eq_false_iff_not, Bool.not_eq_true', Bool.not_eq_false', Bool.true_eq_false, Bool.false_eq_true] at hc99
            refine cj_exit ?_
            refine hK38 _ _ _ ?_
            refine cj_env (Env.le_cons (t := 6) rfl (Env.le_nil _)) ?_
            refine cj_seq (fun K45 hK45 => ?_)
            refine cj_seq (fun K46 hK46 => ?_)
            refine cj_region ?_
            obtain rfl : st6 = [] := by cases st6 with | nil => rfl | cons a l => exact (hc99 (by simp only [List.length_cons]; omega)).elim
            refine rj_mapOpen (b := bm) (by ((repeat (first | exact Find.head _ | apply Find.tail)); done)) (fun es clock hg => ?_)
            have hzero : ∀ x ∈ es.toList, x.val = .int .i64 0 := fun x hx => by obtain ⟨a, ha⟩ := hg.2.1 x hx; have h2 := (hg.2.2.1 a x.val).2 ⟨x, hx, ha, rfl⟩; unfold wf at h2; split at h2; have h3 := Option.some.inj h2; rw [← h3]; rfl; cases h2
            have hborn := hg.1.1
            have hnd := hg.1.2.1
            refine rj_val (wn0 rfl) rfl rfl (y_move rfl) ?_
            refine rj_range_map Try.underlying56 (wn0 rfl) rfl rfl (by ((repeat (first | exact Find.head _ | apply Find.tail)); done)) (fun bi => ?_)
            refine rj_nil ?_
            refine hK46 _ _ _ ?_
            refine cj_block ?_
            refine cj_env (E' := (fun (x : Array Nat × Nat) => [(113, .pointer (some ⟨bi, 0, none⟩))]) (#[], clock)) (Env.le_cons rfl (Env.le_nil _)) ?_
            refine cj_sub (M := (fun (x : Array Nat × Nat) => objA bi (.mapIter (some bm) clock x.1 x.2) :: objA bm (.map es clock) :: F) (#[], clock)) (by (repeat (first | exact Sub.refl _ | (apply Sub.pick; focus (repeat (first | exact Find.head _ | apply Find.tail))) | apply Sub.drop | exact Sub.tailApp _ _))) ?_
            refine cj_loop (fun (x : Array Nat × Nat) => [(113, .pointer (some ⟨bi, 0, none⟩))]) (fun (x : Array Nat × Nat) => R6) (fun (x : Array Nat × Nat) => objA bi (.mapIter (some bm) clock x.1 x.2) :: objA bm (.map es clock) :: F) (fun (x : Array Nat × Nat) => clock ≤ x.2) (fun (x : Array Nat × Nat) => (leftOf es x.1).size) (#[], clock) (Nat.le_refl clock) ?_
            rintro ⟨seen, c0⟩ hc0
            try dsimp only
            dsimp only at hc0
            refine cj_seq (fun K47 hK47 => ?_)
            refine cj_region ?_
            refine rj_next_map (wn0 rfl) rfl rfl (fun s => obj_heap (s.find (by ((repeat (first | exact Find.head _ | apply Find.tail)); done)))) (by ((repeat (first | exact Find.head _ | apply Find.tail)); done)) hborn hc0 (fun bb e hb0 hb1 => ?_)
            refine rj_val (wn0 rfl) rfl rfl ((y_extract (v := .bool bb) rfl (by cases bb <;> rfl))) ?_
            refine rj_nil ?_
            refine hK47 _ _ _ ?_
            refine cj_seq (fun K48 hK48 => ?_)
            refine cj_cond rfl (fun hc115 => ?_) (fun hc115 => ?_)
            · try simp only [decide_eq_true_eq, decide_eq_false_iff_not, Bool.not_eq_true', Bool.not_eq_false', Bool.true_eq_false, Bool.false_eq_true] at hc115
              refine cj_skip ?_
              refine hK48 _ _ _ ?_
              refine cj_block ?_
              refine cj_seq (fun K50 hK50 => ?_)
              refine cj_region ?_
              obtain rfl : bb = true := hc115
              have hin := hb1 rfl
              have hez := hzero e (mem_left hin).1
              rw [if_pos rfl, if_pos rfl]
              refine rj_val (wn0 rfl) rfl rfl ((y_entry rfl (fun s => obj_heap (s.find (by ((repeat (first | exact Find.head _ | apply Find.tail)); done)))) (by ((repeat (first | exact Find.head _ | apply Find.tail)); done)) (mem_left hin).1 hnd)) ?_
              refine rj_val (wn0 rfl) rfl rfl (y_extract rfl rfl) ?_
              refine rj_eq 117 rfl (v' := .int .i64 0) hez ?_
              refine rj_val (wn0 rfl) rfl rfl (y_assign rfl) ?_
              refine rj_nil ?_
              refine hK50 _ _ _ ?_
              refine cj_env (Env.le_cons (t := 16) rfl (Env.le_cons (t := 113) rfl (Env.le_nil _))) ?_
              refine cj_seq (fun K51 hK51 => ?_)
              refine cj_region ?_
              refine rj_val (wn0 rfl) rfl rfl (y_move rfl) ?_
              refine rj_val (wn0 rfl) rfl rfl (y_neq rfl rfl) ?_
              refine rj_nil ?_
              refine hK51 _ _ _ ?_
              refine cj_cond_f rfl ?_
              refine cj_skip ?_
              refine ej_on (q' := roundK _ _ _ _ _ _ _) rfl ?_
              refine ej_round ((seen.push e.born, clock)) (Nat.le_refl clock) (left_shrinks es seen e hin) (Env.le_cons rfl (Env.le_nil _)) rfl (by (repeat (first | exact Sub.refl _ | (apply Sub.pick; focus (repeat (first | exact Find.head _ | apply Find.tail))) | apply Sub.drop | exact Sub.tailApp _ _)))
            · try simp only [decide_eq_true_eq, decide_eq_false_iff_not, Bool.not_eq_true', Bool.not_eq_false', Bool.true_eq_false, Bool.false_eq_true] at hc115
              refine cj_exit ?_
              refine hK45 _ _ _ ?_
              refine cj_env (Env.le_nil _) ?_
              refine cj_seq (fun K52 hK52 => ?_)
              refine cj_region ?_
              refine rj_val (wn0 rfl) rfl rfl (y_assign rfl) ?_
              refine rj_nil ?_
              refine hK52 _ _ _ ?_
              refine cj_ret ?_
              refine hret _ _ _ ?_
              apply ej_ret Try.results6 (.cons (rv_tmp rfl) .nil) _ [] (by first | exact hR0 | exact hR6) rfl
              case hp => rfl
              case hS => (repeat (first | exact Sub.refl _ | (apply Sub.pick; focus (repeat (first | exact Find.head _ | apply Find.tail))) | apply Sub.drop | exact Sub.tailApp _ _))
end V
end Go.Proofs.Ythdmbdbncbdmiaa
