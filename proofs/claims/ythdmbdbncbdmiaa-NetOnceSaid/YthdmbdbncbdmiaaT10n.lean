/- The laws NetTo and NetRuns walked. -/
import Derived.Test.YthdmbdbncbdmiaaT10l
set_option linter.unusedSimpArgs false
set_option linter.unusedVariables false
set_option maxRecDepth 100000
namespace Go.Proofs.Ythdmbdbncbdmiaa
open Go.RowKit
namespace V
set_option maxHeartbeats 4000000
theorem hasB_some {st : List One1} {i : Int} (h : hasB st i = true) : ∃ (k : Nat) (x : One1), i = k ∧ st[k]? = some x ∧ atM st i = x := by
  have h' : 0 ≤ i ∧ i < st.length := by simpa [hasB] using h
  obtain ⟨k, rfl⟩ := Int.eq_ofNat_of_zero_le h'.1
  have hk : k < st.length := by omega
  exact ⟨k, st[k], rfl, by simp, (atM_some (by simp)).1⟩
/-! ### NetTo -/
def mkT (k : Nat) (t : Int) : Msg := ⟨0, 0, t, 0, k, 0, 0, false, [], []⟩
def msT (to : List Int) (i : Nat) : List Msg := (List.range i).map fun k => mkT k (to.getD k 0)
def toF (to : List Int) (node : Int) (i : Nat) : List Nat := (List.range i).filter fun k => decide (to.getD k 0 = node)
theorem msT_succ (to : List Int) (i : Nat) : msT to (i + 1) = msT to i ++ [mkT i (to.getD i 0)] := by simp [msT, List.range_succ]
theorem toF_succ (to : List Int) (node : Int) (i : Nat) : toF to node (i + 1) = toF to node i ++ if to.getD i 0 = node then [i] else [] := by
  unfold toF
  rw [List.range_succ, List.filter_append]
  congr 1
  simp only [List.filter_cons, List.filter_nil, decide_eq_true_eq]
theorem msT_len (to : List Int) (i : Nat) : (msT to i).length = i := by simp [msT]
theorem numb_app : ∀ (l m : List Msg) (k : Int), numb k (l ++ m) = numb k l ++ numb (k + l.length) m
  | [], m, k => by simp [numb]
  | x :: l, m, k => by
    rw [List.cons_append, numb, numb, numb_app l m (k + 1), List.cons_append, List.length_cons]
    congr 3
    push_cast; omega
theorem numb_get : ∀ (l : List Msg) (k : Int) (i : Nat) (m : Msg), l[i]? = some m → (numb k l)[i]? = some (k + i + 1, m)
  | [], k, i, m, h => by simp at h
  | x :: l, k, 0, m, h => by simp at h; subst h; simp [numb]
  | x :: l, k, i + 1, m, h => by
    have := numb_get l (k + 1) i m (by simpa using h)
    rw [numb, List.getElem?_cons_succ, this]
    congr 2
    push_cast; omega
theorem stT_get (to : List Int) (i k : Nat) (hk : k < i) : (numb 0 (msT to i))[k]? = some ((k : Int) + 1, mkT k (to.getD k 0)) := by
  have := numb_get (msT to i) 0 k (mkT k (to.getD k 0)) (by simp [msT, hk])
  rw [this]; simp
theorem toL_T (to : List Int) (node : Int) (i : Nat) : toL (numb 0 (msT to i)) node i = toF to node i := by
  unfold toL toF
  apply List.filter_congr
  intro k hk
  have hk' : k < i := by simpa using hk
  unfold toAt
  rw [stT_get to i k hk']
  rfl
theorem toF_mem {to : List Int} {node : Int} {i j k : Nat} (h : (toF to node i)[j]? = some k) : k < i ∧ to.getD k 0 = node := by
  have := List.mem_of_getElem? h
  unfold toF at this
  simpa using this
theorem toF_rise {to : List Int} {node : Int} {i j k k' : Nat} (h : (toF to node i)[j]? = some k) (h' : (toF to node i)[j + 1]? = some k') : k < k' := by
  have hp : (toF to node i).Pairwise (· < ·) := by
    unfold toF
    exact List.Pairwise.filter _ (List.pairwise_lt_range)
  have h1 := (List.getElem?_eq_some_iff.1 h).1
  have h2 := (List.getElem?_eq_some_iff.1 h').1
  have := List.pairwise_iff_getElem.1 hp j (j + 1) h1 h2 (by omega)
  rw [List.getElem?_eq_getElem h1] at h
  rw [List.getElem?_eq_getElem h2] at h'
  simp at h h'
  omega
theorem smallS_T (to : List Int) (i : Nat) : smallS (numb 0 (msT to i)) := by
  intro x hx
  obtain ⟨k, hk, rfl⟩ := List.getElem_of_mem hx
  have hki : k < i := by rw [numb_len, msT_len] at hk; exact hk
  have h2 := stT_get to i k hki
  rw [List.getElem?_eq_getElem hk] at h2
  simp at h2
  rw [h2]; simp [smallM, mkT]
def intE : Elt Int where
  P := fun _ x cs => cs = [.int .i64 x]
  sz := 1
  mono := fun _ h => h
  len := fun h => by subst h; rfl
  one := fun h u hu => by subst h; simp at hu; subst hu; rfl
theorem to_t {R : Hp} (v0 : Value) (to : List Int) (h : slcR 1 (intR .i64) R [v0] to) (node : Int) (hn : IntKind.i64.min ≤ node ∧ node ≤ IntKind.i64.max) :
    Tri Try.prog 5 [v0, .int .i64 node] R [] (fun v _ _ => v = .bool true) := by
  have hto : FrX intE R to v0 := by
    have := slcR_frx (T := intE) (fun x => x) (fun c x hc h => h.1) h
    rwa [List.map_id'] at this
  obtain ⟨q, cap, rfl, hcap, hcm⟩ := hto.shape
  refine tri_of Try.func5 rfl Try.ntmps5 rfl (fun σ F Q hret hend hpan => ?_)
  try simp only [List.cons_append, List.nil_append]
  refine cj_env (Env.le_cons (t := 0) rfl (Env.le_cons (t := 1) rfl (Env.le_nil _))) ?_
  refine cj_seq (fun K1 hK1 => ?_)
  refine cj_region ?_
  refine rj_val (wn0 rfl) rfl rfl (y_assign rfl) ?_
  refine rj_nil ?_
  refine hK1 _ _ _ ?_
  refine cj_seq (fun K2 hK2 => ?_)
  refine cj_seq (fun K3 hK3 => ?_)
  refine cj_region ?_
  refine rj_call (wn0 rfl) rfl Try.call7 rfl (awake_t) (by (repeat (first | exact Split.nil _ | (apply Split.cons; focus (repeat (first | exact Find.head _ | apply Find.tail)))))) (fun _ _ _ _ h => h.elim) ?_
  rintro v R0 L' hR0 ⟨rfl, rfl⟩
  try simp only [List.cons_append, List.nil_append]
  refine rj_val (wn0 rfl) rfl rfl (y_not rfl) ?_
  refine rj_nil ?_
  refine hK3 _ _ _ ?_
  refine cj_cond_f rfl ?_
  refine cj_skip ?_
  refine hK2 _ _ _ ?_
  refine cj_env (Env.le_cons (t := 0) rfl (Env.le_cons (t := 1) rfl (Env.le_nil _))) ?_
  refine cj_seq (fun K4 hK4 => ?_)
  refine cj_seq (fun K5 hK5 => ?_)
  refine cj_region ?_
  refine rj_val (wn0 rfl) rfl rfl (y_move rfl) ?_
  first | refine rj_val (wn0 rfl) rfl rfl (y_len_sl Try.underlying52 rfl) ?_ | refine rj_val (wn0 rfl) rfl rfl (y_len_slc Try.underlying52 rfl (by ((repeat (first | exact Find.head _ | apply Find.tail)); done))) ?_
  refine rj_val (wn0 rfl) rfl rfl (y_gtr rfl rfl) ?_
  refine rj_nil ?_
  refine hK5 _ _ _ ?_
  refine cj_cond rfl (fun hc19 => ?_) (fun hc19 => ?_)
  · try simp only [decide_eq_true_eq, decide_eq_false_iff_not, Bool.not_eq_true', Bool.not_eq_false', Bool.true_eq_false, Bool.false_eq_true] at hc19
    refine cj_seq (fun K7 hK7 => ?_)
    refine cj_region ?_
    refine rj_val (wn0 rfl) rfl rfl (y_assign rfl) ?_
    refine rj_nil ?_
    refine hK7 _ _ _ ?_
    refine cj_env (Env.le_cons (t := 4) rfl (Env.le_nil _)) ?_
    refine cj_ret ?_
    refine hret _ _ _ ?_
    apply ej_ret Try.results5 (.cons (rv_tmp rfl) .nil) _ [] (by first | exact hR0 | exact Hp.le_trans hR2 hR5 | exact Hp.le_trans hR2 (Hp.le_trans hR5 hR6)) rfl
    case hp => rfl
    case hS => (repeat (first | exact Sub.refl _ | (apply Sub.pick; focus (repeat (first | exact Find.head _ | apply Find.tail))) | apply Sub.drop | exact Sub.tailApp _ _))
  · try simp only [decide_eq_true_eq, decide_eq_false_iff_not, Bool.not_eq_true', Bool.not_eq_false', Bool.true_eq_false, Bool.false_eq_true] at hc19
    refine cj_skip ?_
    refine hK4 _ _ _ ?_
    refine cj_env (Env.le_cons (t := 0) rfl (Env.le_cons (t := 1) rfl (Env.le_nil _))) ?_
    refine cj_seq (fun K8 hK8 => ?_)
    refine cj_region ?_
    refine rj_call (wn0 rfl) rfl Try.call8 rfl (netNew_t) (by (repeat (first | exact Split.nil _ | (apply Split.cons; focus (repeat (first | exact Find.head _ | apply Find.tail)))))) (fun _ _ _ _ h => h.elim) ?_
    rintro r R1 L' hR1 ⟨rfl, bn, rfl, rfl⟩
    try simp only [List.cons_append, List.nil_append]
    refine rj_val (wn0 rfl) rfl rfl (y_assign rfl) ?_
    refine rj_nil ?_
    refine hK8 _ _ _ ?_
    refine cj_seq (fun K9 hK9 => ?_)
    refine cj_region ?_
    refine rj_val (wn0 rfl) rfl rfl (y_assign rfl) ?_
    refine rj_nil ?_
    refine hK9 _ _ _ ?_
    refine cj_seq (fun K10 hK10 => ?_)
    refine cj_seq (fun K11 hK11 => ?_)
    refine cj_region ?_
    refine rj_val (wn0 rfl) rfl rfl (y_move rfl) ?_
    first | refine rj_val (wn0 rfl) rfl rfl (y_len_sl Try.underlying52 rfl) ?_ | refine rj_val (wn0 rfl) rfl rfl (y_len_slc Try.underlying52 rfl (by ((repeat (first | exact Find.head _ | apply Find.tail)); done))) ?_
    refine rj_val (wn0 rfl) rfl rfl (y_move rfl) ?_
    refine rj_nil ?_
    refine hK11 _ _ _ ?_
    refine cj_block ?_
    have hto30 : to.length ≤ 30 := by (try simp at hc19); omega
    refine cj_env (E' := (fun (x : Nat × Value × List (List Value) × Hp) => [(1, .int .i64 node), (5, .pointer (some ⟨bn, 0, none⟩)), (6, .int .i64 ((toF to node x.1).length : Int)), (21, .slice q to.length cap), (22, .int .i64 (to.length : Int)), (23, .int .i64 (x.1 : Int))]) (0, .slice none 0 0, [], R0)) (Env.le_cons rfl (Env.le_cons rfl (Env.le_cons rfl (Env.le_cons rfl (Env.le_cons rfl (Env.le_cons rfl (Env.le_nil _))))))) ?_
    refine cj_sub (M := (fun (x : Nat × Value × List (List Value) × Hp) => netB bn x.2.1 (x.1 : Int) :: netS x.2.1 (numb 0 (msT to x.1)) x.2.2.1 :: F) (0, .slice none 0 0, [], R0)) (by (repeat (first | exact Sub.refl _ | (apply Sub.pick; focus (repeat (first | exact Find.head _ | apply Find.tail))) | apply Sub.drop | exact Sub.tailApp _ _))) ?_
    refine cj_loop (fun (x : Nat × Value × List (List Value) × Hp) => [(1, .int .i64 node), (5, .pointer (some ⟨bn, 0, none⟩)), (6, .int .i64 ((toF to node x.1).length : Int)), (21, .slice q to.length cap), (22, .int .i64 (to.length : Int)), (23, .int .i64 (x.1 : Int))]) (fun (x : Nat × Value × List (List Value) × Hp) => x.2.2.2) (fun (x : Nat × Value × List (List Value) × Hp) => netB bn x.2.1 (x.1 : Int) :: netS x.2.1 (numb 0 (msT to x.1)) x.2.2.1 :: F) (fun (x : Nat × Value × List (List Value) × Hp) => x.1 ≤ to.length ∧ R.le x.2.2.2 ∧ Els oneE x.2.2.2 (numb 0 (msT to x.1)) x.2.2.1) (fun (x : Nat × Value × List (List Value) × Hp) => to.length - x.1) (0, .slice none 0 0, [], R0) (⟨by simp, hR0, Els.nil⟩) ?_
    rintro ⟨i, v, css, R2⟩ ⟨hi, hR2, hk⟩
    try dsimp only
    dsimp only at hi hR2 hk
    refine cj_seq (fun K12 hK12 => ?_)
    refine cj_region ?_
    refine rj_val (wn0 rfl) rfl rfl (y_lss rfl rfl) ?_
    refine rj_nil ?_
    refine hK12 _ _ _ ?_
    refine cj_seq (fun K13 hK13 => ?_)
    refine cj_cond rfl (fun hc24 => ?_) (fun hc24 => ?_)
    · try simp only [decide_eq_true_eq, decide_eq_false_iff_not, Bool.not_eq_true', Bool.not_eq_false', Bool.true_eq_false, Bool.false_eq_true] at hc24
      refine cj_skip ?_
      refine hK13 _ _ _ ?_
      refine cj_seq (fun K15 hK15 => ?_)
      refine cj_block ?_
      refine cj_seq (fun K16 hK16 => ?_)
      refine cj_region ?_
      obtain ⟨t, ht⟩ : ∃ t, to[i]? = some t := ⟨to[i]'(by omega), by simp⟩
      obtain ⟨b, off, cap', cs, hee, rfl, hcl, hcell⟩ := (hto.mono hR2).at ht
      obtain ⟨rfl, rfl⟩ : q = some ⟨b, off, none⟩ ∧ cap = cap' := by cases hee; exact ⟨rfl, rfl⟩
      have hgd : to.getD i 0 = t := by rw [List.getD_eq_getElem?_getD, ht]; rfl
      have hfl : (toF to node i).length ≤ i := by unfold toF; have := List.length_filter_le (fun k => decide (to.getD k 0 = node)) (List.range i); simpa using this
      refine rj_val (wn0 rfl) rfl rfl (y_move rfl) ?_
      first | refine rj_val (wn0 rfl) rfl rfl (y_indexAddr Try.underlying52 Try.sizeOf3 rfl rfl (by (first | omega | (dsimp only; omega) | (simp; done) | (simp; omega)))) ?_ | refine rj_val (wn0 rfl) rfl rfl (y_index_slc Try.underlying52 Try.sizeOf3 rfl rfl (by ((repeat (first | exact Find.head _ | apply Find.tail)); done)) (by (first | omega | (dsimp only; omega) | (simp; done) | (simp; omega)))) ?_
      refine rj_val (wn0 rfl) rfl rfl ((y_load_ro ⟨Try.isAgg3, Try.sizeOf3⟩ rfl (hcell 0 _ rfl))) ?_
      refine rj_val (wn0 rfl) rfl rfl (y_assign rfl) ?_
      refine rj_val (wn0 rfl) rfl rfl (y_assign rfl) ?_
      refine rj_nil ?_
      refine hK16 _ _ _ ?_
      refine cj_env (Env.le_cons (t := 1) rfl (Env.le_cons (t := 5) rfl (Env.le_cons (t := 6) rfl (Env.le_cons (t := 7) rfl (Env.le_cons (t := 8) rfl (Env.le_cons (t := 21) rfl (Env.le_cons (t := 22) rfl (Env.le_cons (t := 23) rfl (Env.le_nil _))))))))) ?_
      refine cj_seq (fun K17 hK17 => ?_)
      refine cj_region ?_
      refine rj_val (wn0 rfl) rfl rfl (y_move rfl) ?_
      refine rj_val (wn0 rfl) rfl rfl (y_move rfl) ?_
      refine rj_val (wn0 rfl) rfl rfl (y_move rfl) ?_
      first | refine rj_val (wn0 rfl) rfl rfl (y_conv_in Try.underlying3 Try.underlying27 rfl (by (simp only [IntKind.min, IntKind.max, IntKind.signed, IntKind.bits, Bool.false_eq_true, ite_false, ite_true]; omega))) ?_ | refine rj_val (wn0 rfl) rfl rfl (y_conv Try.underlying3 Try.underlying27 rfl) ?_
      refine rj_val (wn0 rfl) rfl rfl (y_build (cells := [_, _, _, _, _, _, _, _, _, _]) [(0, 1), (1, 1), (2, 1), (3, 1), (4, 1), (5, 1), (6, 1), (7, 1), (8, 1), (9, 1)] Try.underlying32 Try.zeroValue32 (fun _ => rfl) rfl rfl) ?_
      refine rj_buildSlice (sz := 10) (wn0 rfl) rfl Try.underlying64 Try.sizeOf32 Try.zeroValue32 rfl rfl rfl (by decide) (by decide) (fun bm => ?_)
      refine rj_freeze (e := 32) (sz := 10) (n := 1) (v := .slice (some ⟨bm, 0, none⟩) 1 1) (xs := msgC (mkT i t) (.slice none 0 0)) (by ((repeat (first | exact Find.head _ | apply Find.tail)); done)) (fun R3 hR3 hfr3 hxl3 => ?_)
      have hfm : FrX msgE R3 [mkT i t] (.slice (some ⟨bm, 0, none⟩) 1 1) := FrozenS.frx (l := [mkT i t]) (css := [msgC (mkT i t) (.slice none 0 0)]) (by simpa using hfr3) (Els.single (T := msgE) ⟨_, rfl, FrX.nil⟩)
      refine rj_call (wn0 rfl) rfl Try.call11 rfl (netPut_t bn v (i : Int) (numb 0 (msT to i)) css (hk.mono hR3) _ [mkT i t] hfm (fun m hm => by simp at hm; subst hm; simp [smallM, mkT]) (by simp; omega) (by rw [numb_len, msT_len]; simp; omega)) (by (repeat (first | exact Split.nil _ | (apply Split.cons; focus (repeat (first | exact Find.head _ | apply Find.tail)))))) (fun _ _ _ _ h => h.elim) ?_
      rintro r R4 L' hR4 ⟨v4, css4, hk4, rfl⟩
      have e1 : numb 0 (msT to i) ++ numb (i : Int) [mkT i t] = numb 0 (msT to (i + 1)) := by rw [msT_succ, numb_app, msT_len, hgd]; simp
      rw [e1] at hk4 ⊢
      rw [show (i : Int) + (([mkT i t].length : Nat) : Int) = ((i + 1 : Nat) : Int) by simp]
      try simp only [List.cons_append, List.nil_append]
      refine rj_nil ?_
      refine hK17 _ _ _ ?_
      refine cj_env (Env.le_cons (t := 1) rfl (Env.le_cons (t := 5) rfl (Env.le_cons (t := 6) rfl (Env.le_cons (t := 8) rfl (Env.le_cons (t := 21) rfl (Env.le_cons (t := 22) rfl (Env.le_cons (t := 23) rfl (Env.le_nil _)))))))) ?_
      refine cj_seq (fun K18 hK18 => ?_)
      refine cj_region ?_
      refine rj_val (wn0 rfl) rfl rfl (y_move rfl) ?_
      refine rj_val (wn0 rfl) rfl rfl (y_move rfl) ?_
      refine rj_val (wn0 rfl) rfl rfl (y_eql rfl rfl) ?_
      refine rj_nil ?_
      refine hK18 _ _ _ ?_
      refine cj_env (Env.le_cons (t := 1) rfl (Env.le_cons (t := 5) rfl (Env.le_cons (t := 6) rfl (Env.le_cons (t := 21) rfl (Env.le_cons (t := 22) rfl (Env.le_cons (t := 23) rfl (Env.le_cons (t := 37) rfl (Env.le_nil _)))))))) ?_
      refine cj_cond rfl (fun hc37 => ?_) (fun hc37 => ?_)
      · (try simp only [decide_eq_true_eq, decide_eq_false_iff_not, Bool.not_eq_true', Bool.not_eq_false', Bool.true_eq_false, Bool.false_eq_true] at hc37); subst hc37
        have hsc : toF to t (i + 1) = toF to t i ++ [i] := by rw [toF_succ, hgd, if_pos rfl]
        refine cj_region ?_
        refine rj_val (wn0 rfl) rfl rfl (y_move rfl) ?_
        first | refine rj_val (wn0 rfl) rfl rfl (y_add64 rfl rfl (by (first | omega | (dsimp only; omega) | (simp; done) | (simp; omega)))) ?_ | refine rj_val (wn0 rfl) rfl rfl (y_add rfl rfl) ?_
        refine rj_eq 39 rfl (v' := .int .i64 ((toF to t (i + 1)).length : Int)) (by rw [hsc]; simp) ?_
        refine rj_val (wn0 rfl) rfl rfl (y_assign rfl) ?_
        refine rj_nil ?_
        refine hK15 _ _ _ ?_
        refine cj_env (Env.le_cons (t := 1) rfl (Env.le_cons (t := 5) rfl (Env.le_cons (t := 6) rfl (Env.le_cons (t := 21) rfl (Env.le_cons (t := 22) rfl (Env.le_cons (t := 23) rfl (Env.le_nil _))))))) ?_
        refine cj_region ?_
        first | refine rj_val (wn0 rfl) rfl rfl (y_add64 rfl rfl (by (first | omega | (dsimp only; omega) | (simp; done) | (simp; omega)))) ?_ | refine rj_val (wn0 rfl) rfl rfl (y_add rfl rfl) ?_
        refine rj_val (wn0 rfl) rfl rfl (y_move rfl) ?_
        refine rj_nil ?_
        refine ej_on (q' := roundK _ _ _ _ _ _ _) rfl ?_
        refine ej_round ((i + 1, v4, css4, R4)) (⟨by dsimp only; omega, Hp.le_trans hR2 (Hp.le_trans hR3 hR4), hk4⟩) (by dsimp only; omega) (Env.le_cons rfl (Env.le_cons rfl (Env.le_cons rfl (Env.le_cons rfl (Env.le_cons rfl (Env.le_cons rfl (Env.le_nil _))))))) rfl (by (repeat (first | exact Sub.refl _ | (apply Sub.pick; focus (repeat (first | exact Find.head _ | apply Find.tail))) | apply Sub.drop | exact Sub.tailApp _ _)))
      · (try simp only [decide_eq_true_eq, decide_eq_false_iff_not, Bool.not_eq_true', Bool.not_eq_false', Bool.true_eq_false, Bool.false_eq_true] at hc37); have hsc : toF to node (i + 1) = toF to node i := by rw [toF_succ, hgd, if_neg hc37, List.append_nil]
        rw [← hsc]
        refine cj_skip ?_
        refine hK15 _ _ _ ?_
        refine cj_region ?_
        first | refine rj_val (wn0 rfl) rfl rfl (y_add64 rfl rfl (by (first | omega | (dsimp only; omega) | (simp; done) | (simp; omega)))) ?_ | refine rj_val (wn0 rfl) rfl rfl (y_add rfl rfl) ?_
        refine rj_val (wn0 rfl) rfl rfl (y_move rfl) ?_
        refine rj_nil ?_
        refine ej_on (q' := roundK _ _ _ _ _ _ _) rfl ?_
        refine ej_round ((i + 1, v4, css4, R4)) (⟨by dsimp only; omega, Hp.le_trans hR2 (Hp.le_trans hR3 hR4), hk4⟩) (by dsimp only; omega) (Env.le_cons rfl (Env.le_cons rfl (Env.le_cons rfl (Env.le_cons rfl (Env.le_cons rfl (Env.le_cons rfl (Env.le_nil _))))))) rfl (by (repeat (first | exact Sub.refl _ | (apply Sub.pick; focus (repeat (first | exact Find.head _ | apply Find.tail))) | apply Sub.drop | exact Sub.tailApp _ _)))
    · try simp only [decide_eq_true_eq, decide_eq_false_iff_not, Bool.not_eq_true', Bool.not_eq_false', Bool.true_eq_false, Bool.false_eq_true] at hc24
      refine cj_exit ?_
      refine hK10 _ _ _ ?_
      refine cj_env (Env.le_cons (t := 1) rfl (Env.le_cons (t := 5) rfl (Env.le_cons (t := 6) rfl (Env.le_nil _)))) ?_
      refine cj_seq (fun K20 hK20 => ?_)
      refine cj_region ?_
      obtain rfl : i = to.length := by (try simp at hc24); omega
      have hln : (numb 0 (msT to to.length)).length = to.length := by rw [numb_len, msT_len]
      refine rj_val (wn0 rfl) rfl rfl (y_move rfl) ?_
      refine rj_val (wn0 rfl) rfl rfl (y_move rfl) ?_
      refine rj_call (wn0 rfl) rfl Try.call23 rfl (netTo_t bn v (to.length : Int) (numb 0 (msT to to.length)) css hk (by rw [hln]; omega) node) (by (repeat (first | exact Split.nil _ | (apply Split.cons; focus (repeat (first | exact Find.head _ | apply Find.tail)))))) (fun _ _ _ _ h => h.elim) ?_
      rintro r R4 L' hR4 ⟨rfl, rfl⟩
      rw [hln, toL_T]
      refine rj_pure (A := slc 3 1 r (toF to node to.length).length (intsV (toF to node to.length))) (by ((repeat (first | exact Find.head _ | apply Find.tail)); done)) slc_one (fun hro => ?_)
      obtain ⟨W, hW⟩ : ∃ W, W = toF to node to.length := ⟨_, rfl⟩
      have hW30 : W.length ≤ 30 := by rw [hW]; unfold toF; have := List.length_filter_le (fun k => decide (to.getD k 0 = node)) (List.range to.length); simp at this ⊢; omega
      rw [← hW]
      try simp only [List.cons_append, List.nil_append]
      refine rj_val (wn0 rfl) rfl rfl (y_assign rfl) ?_
      refine rj_nil ?_
      refine hK20 _ _ _ ?_
      refine cj_env (Env.le_cons (t := 1) rfl (Env.le_cons (t := 5) rfl (Env.le_cons (t := 6) rfl (Env.le_cons (t := 9) rfl (Env.le_nil _))))) ?_
      refine cj_seq (fun K21 hK21 => ?_)
      refine cj_seq (fun K22 hK22 => ?_)
      refine cj_region ?_
      refine rj_val (wn0 rfl) rfl rfl (y_move rfl) ?_
      first | refine rj_val (wn0 rfl) rfl rfl (y_len_sl Try.underlying52 rfl) ?_ | refine rj_val (wn0 rfl) rfl rfl (y_len_slc Try.underlying52 rfl (by ((repeat (first | exact Find.head _ | apply Find.tail)); done))) ?_
      refine rj_val (wn0 rfl) rfl rfl (y_move rfl) ?_
      refine rj_nil ?_
      refine hK22 _ _ _ ?_
      refine cj_block ?_
      refine cj_env (E' := (fun (x : Nat × Hp) => [(1, .int .i64 node), (5, .pointer (some ⟨bn, 0, none⟩)), (6, .int .i64 (W.length : Int)), (9, r), (44, r), (45, .int .i64 (W.length : Int)), (46, .int .i64 (x.1 : Int))]) (0, R2)) (Env.le_cons rfl (Env.le_cons rfl (Env.le_cons rfl (Env.le_cons rfl (Env.le_cons rfl (Env.le_cons rfl (Env.le_cons rfl (Env.le_nil _)))))))) ?_
      refine cj_sub (M := (fun (x : Nat × Hp) => netB bn v (to.length : Int) :: netS v (numb 0 (msT to to.length)) css :: slc 3 1 r W.length (intsV W) :: F) (0, R2)) (by (repeat (first | exact Sub.refl _ | (apply Sub.pick; focus (repeat (first | exact Find.head _ | apply Find.tail))) | apply Sub.drop | exact Sub.tailApp _ _))) ?_
      refine cj_loop (fun (x : Nat × Hp) => [(1, .int .i64 node), (5, .pointer (some ⟨bn, 0, none⟩)), (6, .int .i64 (W.length : Int)), (9, r), (44, r), (45, .int .i64 (W.length : Int)), (46, .int .i64 (x.1 : Int))]) (fun (x : Nat × Hp) => x.2) (fun (x : Nat × Hp) => netB bn v (to.length : Int) :: netS v (numb 0 (msT to to.length)) css :: slc 3 1 r W.length (intsV W) :: F) (fun (x : Nat × Hp) => x.1 ≤ W.length ∧ R2.le x.2) (fun (x : Nat × Hp) => W.length - x.1) (0, R2) (⟨by simp, Hp.le_refl _⟩) ?_
      rintro ⟨j, R5⟩ ⟨hj, hR5⟩
      try dsimp only
      dsimp only at hj hR5
      refine cj_seq (fun K23 hK23 => ?_)
      refine cj_region ?_
      refine rj_val (wn0 rfl) rfl rfl (y_lss rfl rfl) ?_
      refine rj_nil ?_
      refine hK23 _ _ _ ?_
      refine cj_seq (fun K24 hK24 => ?_)
      refine cj_cond rfl (fun hc47 => ?_) (fun hc47 => ?_)
      · try simp only [decide_eq_true_eq, decide_eq_false_iff_not, Bool.not_eq_true', Bool.not_eq_false', Bool.true_eq_false, Bool.false_eq_true] at hc47
        refine cj_skip ?_
        refine hK24 _ _ _ ?_
        refine cj_seq (fun K26 hK26 => ?_)
        refine cj_block ?_
        refine cj_seq (fun K27 hK27 => ?_)
        refine cj_region ?_
        obtain ⟨k, hk'⟩ : ∃ k, W[j]? = some k := ⟨W[j]'(by omega), by simp⟩
        obtain ⟨hk1, hk2⟩ := toF_mem (hW ▸ hk')
        have hat := (atM_some (stT_get to to.length k hk1))
        refine rj_val (wn0 rfl) rfl rfl (y_move rfl) ?_
        refine rj_val (wn0 rfl) rfl rfl ((y_index_slc (sz := 1) (n := W.length) Try.underlying52 Try.sizeOf3 rfl rfl (by ((repeat (first | exact Find.head _ | apply Find.tail)); done)) (by omega))) ?_
        refine rj_val (wn0 rfl) rfl rfl ((y_load_slc ⟨Try.isAgg3, Try.sizeOf3⟩ rfl (by ((repeat (first | exact Find.head _ | apply Find.tail)); done)) (show nth (intsV W) ((j : Int).toNat * 1) = some (.int .i64 (k : Int)) by rw [nth_eq, Int.toNat_natCast, Nat.mul_one, intsV, List.getElem?_map, hk']; rfl))) ?_
        refine rj_val (wn0 rfl) rfl rfl (y_assign rfl) ?_
        refine rj_val (wn0 rfl) rfl rfl (y_assign rfl) ?_
        refine rj_nil ?_
        refine hK27 _ _ _ ?_
        refine cj_env (Env.le_cons (t := 1) rfl (Env.le_cons (t := 5) rfl (Env.le_cons (t := 6) rfl (Env.le_cons (t := 9) rfl (Env.le_cons (t := 10) rfl (Env.le_cons (t := 11) rfl (Env.le_cons (t := 44) rfl (Env.le_cons (t := 45) rfl (Env.le_cons (t := 46) rfl (Env.le_nil _)))))))))) ?_
        refine cj_seq (fun K28 hK28 => ?_)
        refine cj_region ?_
        refine rj_val (wn0 rfl) rfl rfl (y_move rfl) ?_
        refine rj_val (wn0 rfl) rfl rfl (y_move rfl) ?_
        refine rj_call (wn0 rfl) rfl Try.call18 rfl (netAt_t bn v (to.length : Int) (numb 0 (msT to to.length)) css (hk.mono hR5) (smallS_T _ _) (k : Int)) (by (repeat (first | exact Split.nil _ | (apply Split.cons; focus (repeat (first | exact Find.head _ | apply Find.tail)))))) (fun _ _ _ _ h => h.elim) ?_
        rintro r2 R6 L' hR6 ⟨rfl, ve, rfl, hve⟩
        rw [hat.1, hat.2] at *
        dsimp only at hve ⊢
        try simp only [List.cons_append, List.nil_append]
        refine rj_val (wn0 rfl) rfl rfl (y_move rfl) ?_
        refine rj_val (wn0 rfl) rfl rfl (y_extract rfl rfl) ?_
        refine rj_val (wn0 rfl) rfl rfl (y_extract rfl rfl) ?_
        refine rj_val (wn0 rfl) rfl rfl (y_extract rfl rfl) ?_
        refine rj_alloc (wn0 rfl) rfl Try.zeroValue32 rfl (fun b12 => ?_)
        refine rj_stores ⟨Try.isAgg32, Try.sizeOf32⟩ rfl (wn0 rfl) rfl rfl (msgE.one (R := R6) (x := mkT k (to.getD k 0)) ⟨_, rfl, hve⟩) (by ((repeat (first | exact Find.head _ | apply Find.tail)); done)) (by exact Nat.le_refl 10) rfl ?_
        refine rj_val (wn0 rfl) rfl rfl (y_assign rfl) ?_
        refine rj_val (wn0 rfl) rfl rfl (y_assign rfl) ?_
        refine rj_nil ?_
        refine hK28 _ _ _ ?_
        refine cj_env (Env.le_cons (t := 1) rfl (Env.le_cons (t := 5) rfl (Env.le_cons (t := 6) rfl (Env.le_cons (t := 9) rfl (Env.le_cons (t := 10) rfl (Env.le_cons (t := 11) rfl (Env.le_cons (t := 12) rfl (Env.le_cons (t := 14) rfl (Env.le_cons (t := 44) rfl (Env.le_cons (t := 45) rfl (Env.le_cons (t := 46) rfl (Env.le_nil _)))))))))))) ?_
        refine cj_seq (fun K29 hK29 => ?_)
        refine cj_region ?_
        refine rj_val (wn0 rfl) rfl rfl (y_move rfl) ?_
        refine rj_val (wn0 rfl) rfl rfl (y_not rfl) ?_
        refine rj_eq 59 rfl (v' := .bool false) rfl ?_
        refine rj_val (wn0 rfl) rfl rfl (y_move rfl) ?_
        refine rj_val (wn1 rfl rfl rfl rfl) rfl rfl (y_fieldAddr (k := 2) Try.underlying32 rfl (n := 1) (by decide) Try.sizeOf3 rfl) ?_
        first | refine rj_val (wn1 rfl rfl rfl rfl) rfl rfl (y_load ⟨Try.isAgg3, Try.sizeOf3⟩ rfl (by ((repeat (first | exact Find.head _ | apply Find.tail)); done)) rfl) ?_ | refine rj_val (wn1 rfl rfl rfl rfl) rfl rfl (y_load_slc ⟨Try.isAgg3, Try.sizeOf3⟩ rfl (by ((repeat (first | exact Find.head _ | apply Find.tail)); done)) rfl) ?_
        refine rj_val (wn1 rfl rfl rfl rfl) rfl rfl (y_move rfl) ?_
        refine rj_val (wn1 rfl rfl rfl rfl) rfl rfl (y_neq rfl rfl) ?_
        refine rj_eq 64 rfl (v' := .bool false) (by rw [show (mkT k (to.getD k 0)).to = node from hk2]; simp) ?_
        refine rj_val (wn0 rfl) rfl rfl (y_pick_f rfl rfl) ?_
        refine rj_val (wn0 rfl) rfl rfl (y_move rfl) ?_
        refine rj_val (wn1 rfl rfl rfl rfl) rfl rfl (y_fieldAddr (k := 4) Try.underlying32 rfl (n := 1) (by decide) Try.sizeOf27 rfl) ?_
        first | refine rj_val (wn1 rfl rfl rfl rfl) rfl rfl (y_load ⟨Try.isAgg27, Try.sizeOf27⟩ rfl (by ((repeat (first | exact Find.head _ | apply Find.tail)); done)) rfl) ?_ | refine rj_val (wn1 rfl rfl rfl rfl) rfl rfl (y_load_slc ⟨Try.isAgg27, Try.sizeOf27⟩ rfl (by ((repeat (first | exact Find.head _ | apply Find.tail)); done)) rfl) ?_
        refine rj_val (wn1 rfl rfl rfl rfl) rfl rfl (y_move rfl) ?_
        first | refine rj_val (wn1 rfl rfl rfl rfl) rfl rfl (y_conv_in Try.underlying3 Try.underlying27 rfl (by (simp only [IntKind.min, IntKind.max, IntKind.signed, IntKind.bits, Bool.false_eq_true, ite_false, ite_true]; omega))) ?_ | refine rj_val (wn1 rfl rfl rfl rfl) rfl rfl (y_conv Try.underlying3 Try.underlying27 rfl) ?_
        refine rj_val (wn1 rfl rfl rfl rfl) rfl rfl (y_neq rfl rfl) ?_
        refine rj_eq 71 rfl (v' := .bool false) (by simp [mkT]) ?_
        refine rj_val (wn0 rfl) rfl rfl (y_pick_f rfl rfl) ?_
        refine rj_val (wn0 rfl) rfl rfl (y_move rfl) ?_
        refine rj_val (wn1 rfl rfl rfl rfl) rfl rfl (y_move rfl) ?_
        refine rj_val (wn1 rfl rfl rfl rfl) rfl rfl (y_gtr rfl rfl) ?_
        refine rj_val (wn1 rfl rfl rfl rfl) rfl rfl (y_move rfl) ?_
        refine rj_part 76 rfl (fun hg76 => ?_) (fun hg76 => ?_)
        · (try simp only [decide_eq_true_eq, decide_eq_false_iff_not, Bool.not_eq_true', Bool.not_eq_false', Bool.true_eq_false, Bool.false_eq_true] at hg76); obtain ⟨j0, rfl⟩ : ∃ j0, j = j0 + 1 := ⟨j - 1, by (try simp at hg76); omega⟩
          obtain ⟨k0, hk0⟩ : ∃ k0, W[j0]? = some k0 := ⟨W[j0]'(by omega), by simp⟩
          have hrise := toF_rise (hW ▸ hk0) (hW ▸ hk')
          refine rj_val (wn1 rfl rfl rfl rfl) rfl rfl (y_move rfl) ?_
          refine rj_val (wn1 rfl rfl rfl rfl) rfl rfl (y_move rfl) ?_
          first | refine rj_val (wn1 rfl rfl rfl rfl) rfl rfl (y_sub64 rfl rfl (by (first | omega | (dsimp only; omega) | (simp; done) | (simp; omega)))) ?_ | refine rj_val (wn1 rfl rfl rfl rfl) rfl rfl (y_sub rfl rfl) ?_
          refine rj_val (wn1 rfl rfl rfl rfl) rfl rfl (y_index_slc (sz := 1) (n := W.length) Try.underlying52 Try.sizeOf3 rfl rfl (by ((repeat (first | exact Find.head _ | apply Find.tail)); done)) (by omega)) ?_
          refine rj_val (wn1 rfl rfl rfl rfl) rfl rfl (y_load_slc ⟨Try.isAgg3, Try.sizeOf3⟩ rfl (by ((repeat (first | exact Find.head _ | apply Find.tail)); done)) (show nth (intsV W) ((((j0 + 1 : Nat) : Int) - 1).toNat * 1) = some (.int .i64 (k0 : Int)) by rw [nth_eq, show (((j0 + 1 : Nat) : Int) - 1).toNat * 1 = j0 by omega, intsV, List.getElem?_map, hk0]; rfl)) ?_
          refine rj_val (wn1 rfl rfl rfl rfl) rfl rfl (y_move rfl) ?_
          refine rj_val (wn1 rfl rfl rfl rfl) rfl rfl (y_geq rfl rfl) ?_
          refine rj_eq 83 rfl (v' := .bool false) (by simp; omega) ?_
          refine rj_val (wn1 rfl rfl rfl rfl) rfl rfl (y_pick_t rfl rfl) ?_
          refine rj_val (wn0 rfl) rfl rfl (y_pick_f rfl rfl) ?_
          refine rj_nil ?_
          refine hK29 _ _ _ ?_
          refine cj_env (Env.le_cons (t := 1) rfl (Env.le_cons (t := 5) rfl (Env.le_cons (t := 6) rfl (Env.le_cons (t := 9) rfl (Env.le_cons (t := 44) rfl (Env.le_cons (t := 45) rfl (Env.le_cons (t := 46) rfl (Env.le_cons (t := 85) rfl (Env.le_nil _))))))))) ?_
          refine cj_cond_f rfl ?_
          refine cj_skip ?_
          refine hK26 _ _ _ ?_
          refine cj_region ?_
          first | refine rj_val (wn0 rfl) rfl rfl (y_add64 rfl rfl (by (first | omega | (dsimp only; omega) | (simp; done) | (simp; omega)))) ?_ | refine rj_val (wn0 rfl) rfl rfl (y_add rfl rfl) ?_
          refine rj_val (wn0 rfl) rfl rfl (y_move rfl) ?_
          refine rj_nil ?_
          refine ej_on (q' := roundK _ _ _ _ _ _ _) rfl ?_
          refine ej_round ((j0 + 1 + 1, R6)) (⟨by dsimp only; omega, Hp.le_trans hR5 hR6⟩) (by dsimp only; omega) (Env.le_cons rfl (Env.le_cons rfl (Env.le_cons rfl (Env.le_cons rfl (Env.le_cons rfl (Env.le_cons rfl (Env.le_cons rfl (Env.le_nil _)))))))) rfl (by (repeat (first | exact Sub.refl _ | (apply Sub.pick; focus (repeat (first | exact Find.head _ | apply Find.tail))) | apply Sub.drop | exact Sub.tailApp _ _)))
        · try simp only [decide_eq_true_eq, decide_eq_false_iff_not, Bool.not_eq_true', Bool.not_eq_false', Bool.true_eq_false, Bool.false_eq_true] at hg76
          refine rj_skip (wn2 rfl rfl rfl rfl rfl) rfl rfl ?_
          refine rj_skip (wn2 rfl rfl rfl rfl rfl) rfl rfl ?_
          refine rj_skip (wn2 rfl rfl rfl rfl rfl) rfl rfl ?_
          refine rj_skip (wn2 rfl rfl rfl rfl rfl) rfl rfl ?_
          refine rj_skip (wn2 rfl rfl rfl rfl rfl) rfl rfl ?_
          refine rj_skip (wn2 rfl rfl rfl rfl rfl) rfl rfl ?_
          refine rj_skip (wn2 rfl rfl rfl rfl rfl) rfl rfl ?_
          refine rj_val (wn1 rfl rfl rfl rfl) rfl rfl (y_pick_f rfl rfl) ?_
          refine rj_val (wn0 rfl) rfl rfl (y_pick_f rfl rfl) ?_
          refine rj_nil ?_
          refine hK29 _ _ _ ?_
          refine cj_env (Env.le_cons (t := 1) rfl (Env.le_cons (t := 5) rfl (Env.le_cons (t := 6) rfl (Env.le_cons (t := 9) rfl (Env.le_cons (t := 44) rfl (Env.le_cons (t := 45) rfl (Env.le_cons (t := 46) rfl (Env.le_cons (t := 85) rfl (Env.le_nil _))))))))) ?_
          refine cj_cond_f rfl ?_
          refine cj_skip ?_
          refine hK26 _ _ _ ?_
          refine cj_region ?_
          first | refine rj_val (wn0 rfl) rfl rfl (y_add64 rfl rfl (by (first | omega | (dsimp only; omega) | (simp; done) | (simp; omega)))) ?_ | refine rj_val (wn0 rfl) rfl rfl (y_add rfl rfl) ?_
          refine rj_val (wn0 rfl) rfl rfl (y_move rfl) ?_
          refine rj_nil ?_
          refine ej_on (q' := roundK _ _ _ _ _ _ _) rfl ?_
          refine ej_round ((j + 1, R6)) (⟨by dsimp only; omega, Hp.le_trans hR5 hR6⟩) (by dsimp only; omega) (Env.le_cons rfl (Env.le_cons rfl (Env.le_cons rfl (Env.le_cons rfl (Env.le_cons rfl (Env.le_cons rfl (Env.le_cons rfl (Env.le_nil _)))))))) rfl (by (repeat (first | exact Sub.refl _ | (apply Sub.pick; focus (repeat (first | exact Find.head _ | apply Find.tail))) | apply Sub.drop | exact Sub.tailApp _ _)))
      · try simp only [decide_eq_true_eq, decide_eq_false_iff_not, Bool.not_eq_true', Bool.not_eq_false', Bool.true_eq_false, Bool.false_eq_true] at hc47
        refine cj_exit ?_
        refine hK21 _ _ _ ?_
        refine cj_env (Env.le_cons (t := 6) rfl (Env.le_cons (t := 9) rfl (Env.le_nil _))) ?_
        refine cj_seq (fun K30 hK30 => ?_)
        refine cj_region ?_
        refine rj_val (wn0 rfl) rfl rfl (y_move rfl) ?_
        first | refine rj_val (wn0 rfl) rfl rfl (y_len_sl Try.underlying52 rfl) ?_ | refine rj_val (wn0 rfl) rfl rfl (y_len_slc Try.underlying52 rfl (by ((repeat (first | exact Find.head _ | apply Find.tail)); done))) ?_
        refine rj_val (wn0 rfl) rfl rfl (y_move rfl) ?_
        refine rj_val (wn0 rfl) rfl rfl (y_eql rfl rfl) ?_
        refine rj_eq 90 rfl (v' := .bool true) (by simp) ?_
        refine rj_val (wn0 rfl) rfl rfl (y_assign rfl) ?_
        refine rj_nil ?_
        refine hK30 _ _ _ ?_
        refine cj_env (Env.le_cons (t := 4) rfl (Env.le_nil _)) ?_
        refine cj_ret ?_
        refine hret _ _ _ ?_
        apply ej_ret Try.results5 (.cons (rv_tmp rfl) .nil) _ [] (by first | exact hR0 | exact Hp.le_trans hR2 hR5 | exact Hp.le_trans hR2 (Hp.le_trans hR5 hR6)) rfl
        case hp => rfl
        case hS => (repeat (first | exact Sub.refl _ | (apply Sub.pick; focus (repeat (first | exact Find.head _ | apply Find.tail))) | apply Sub.drop | exact Sub.tailApp _ _))
end V
end Go.Proofs.Ythdmbdbncbdmiaa
