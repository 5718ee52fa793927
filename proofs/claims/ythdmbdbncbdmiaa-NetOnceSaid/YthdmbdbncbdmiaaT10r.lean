/- The law NetRuns walked. -/
import Derived.Test.YthdmbdbncbdmiaaT10n
set_option linter.unusedSimpArgs false
set_option linter.unusedVariables false
set_option maxRecDepth 100000
namespace Go.Proofs.Ythdmbdbncbdmiaa
open Go.RowKit
namespace V
set_option maxHeartbeats 4000000
abbrev ActT := Int × Int × Msg
def actC (a : ActT) (ve : Value) : List Value := .int .i64 a.1 :: .int .i64 a.2.1 :: msgC a.2.2 ve
def actE : Elt ActT where
  P := fun R a cs => ∃ ve, cs = actC a ve ∧ FrX entE R a.2.2.es ve
  sz := 12
  mono := fun hR ⟨ve, h, k⟩ => ⟨ve, h, k.mono hR⟩
  len := fun ⟨ve, h, k⟩ => by subst h; rfl
  one := fun ⟨ve, h, k⟩ u hu => by
    subst h
    rcases List.mem_cons.1 hu with rfl | hu
    · rfl
    · rcases List.mem_cons.1 hu with rfl | hu
      · rfl
      · exact msgE.one ⟨ve, rfl, k⟩ u hu
theorem twelve {cs : List Value} (h : cs.length = 12) : ∃ a b l, cs = a :: b :: l ∧ l.length = 10 := by
  match cs, h with
  | a :: b :: l, h => exact ⟨a, b, l, rfl, by simpa using h⟩
theorem act_in {R : Hp} {cs : List Value} {y : Int × Int × MsgY} (hl : cs.length = 12) (h : pairR 1 (intR .i64) (pairR 1 (intR .i64) msgR) R cs y) : actE.P R (y.1, y.2.1, msgOf y.2.2) cs := by
  obtain ⟨a, b, l, rfl, hl10⟩ := twelve hl
  obtain ⟨⟨e0, _⟩, ⟨e1, _⟩, h2⟩ := h
  simp only [List.take_succ_cons, List.take_zero, List.drop_succ_cons, List.drop_zero, List.cons.injEq, and_true] at e0 e1
  obtain ⟨⟨ve, e2, hve⟩, _⟩ := msgR_E (cs := l) hl10 h2
  exact ⟨ve, by rw [e0, e1, e2]; rfl, hve⟩
theorem smallB_M {m : Msg} (h : smallB m = true) : smallM m := by
  have : m.es.length ≤ 12 ∧ m.state.length ≤ 100 ∧ ∀ e ∈ m.es, e.2.length ≤ 100 := of_decide_eq_true h
  unfold smallM; omega
theorem twL_small {st : List One1} {last i : Int} (h : smallS st) : smallS (twL st last i) := by
  unfold twL; split
  · intro x hx
    rcases List.mem_append.1 hx with hx | hx
    · exact h x hx
    · simp [numb] at hx; subst hx; exact atM_small h i
  · exact h
theorem dropL_small {st : List One1} {i : Int} (h : smallS st) : smallS (dropL st i) := by
  unfold dropL; split
  · exact fun x hx => h x (List.mem_of_mem_eraseIdx hx)
  · exact h
theorem dropL_len (st : List One1) (i : Int) : (dropL st i).length ≤ st.length := by rw [dropG_L]; exact dropG_len st i
theorem twL_len (st : List One1) (last i : Int) : (twL st last i).length ≤ st.length + 1 := by
  unfold twL; split
  · simp [numb]
  · omega
/-- the state of both -/
structure NS (R : Hp) (k : Nat) (st : List One1) (last : Int) (css : List (List Value)) (wv : Value) : Prop where
  els : Els oneE R st css
  fr : FrX oneE R st wv
  sm : smallS st
  len : st.length ≤ k
  l0 : 0 ≤ last
  l1 : last ≤ k
theorem NS.mono {R R' : Hp} {k k' : Nat} {st : List One1} {last : Int} {css : List (List Value)} {wv : Value} (h : NS R k st last css wv) (hR : R.le R') (hk : k ≤ k') : NS R' k' st last css wv :=
  ⟨h.els.mono hR, h.fr.mono hR, h.sm, by have := h.len; omega, h.l0, by have := h.l1; omega⟩
theorem NS.put {R R2 R' : Hp} {k : Nat} {st : List One1} {last : Int} {css css' : List (List Value)} {wv wv' : Value} {m : Msg} (h : NS R k st last css wv) (hm : smallM m) (e : Els oneE R2 (st ++ numb last [m]) css') (f : FrX oneE R' (st ++ [(last + 1, m)]) wv') (hR : R2.le R') : NS R' (k + 1) (st ++ [(last + 1, m)]) (last + 1) css' wv' := by
  refine ⟨e.mono hR, f, fun x hx => ?_, by have := h.len; simp; omega, by have := h.l0; omega, by have := h.l1; omega⟩
  rcases List.mem_append.1 hx with hx | hx
  · exact h.sm x hx
  · simp at hx; subst hx; exact hm
theorem NS.dropped {R R2 R' : Hp} {k : Nat} {st : List One1} {last n : Int} {css css' : List (List Value)} {wv wv' : Value} (h : NS R k st last css wv) (e : Els oneE R2 (dropL st n) css') (f : FrX oneE R' (dropL st n) wv') (hR : R2.le R') : NS R' (k + 1) (dropL st n) last css' wv' :=
  ⟨e.mono hR, f, dropL_small h.sm, by have := h.len; have := dropL_len st n; omega, h.l0, by have := h.l1; omega⟩
theorem netRuns_t {R : Hp} (v0 : Value) (ys : List (Int × Int × MsgY)) (h : slcR 12 (pairR 1 (intR .i64) (pairR 1 (intR .i64) msgR)) R [v0] ys) :
    Tri Try.prog 3 [v0] R [] (fun v _ _ => v = .bool true) := by
  obtain ⟨acts, hacts⟩ : ∃ acts, FrX actE R acts v0 := ⟨_, slcR_frx (T := actE) (fun y => (y.1, y.2.1, msgOf y.2.2)) (fun c y hc h => act_in hc h) h⟩
  clear h
  obtain ⟨q, cap, rfl, hcap, hcm⟩ := hacts.shape
  refine tri_of Try.func3 rfl Try.ntmps3 rfl (fun σ F Q hret hend hpan => ?_)
  try simp only [List.cons_append, List.nil_append]
  refine cj_env (Env.le_cons (t := 0) rfl (Env.le_nil _)) ?_
  refine cj_seq (fun K1 hK1 => ?_)
  refine cj_region ?_
  refine rj_val (wn0 rfl) rfl rfl (y_assign rfl) ?_
  refine rj_nil ?_
  refine hK1 _ _ _ ?_
  refine cj_seq (fun K2 hK2 => ?_)
  refine cj_seq (fun K3 hK3 => ?_)
  refine cj_region ?_
  refine rj_call (wn0 rfl) rfl Try.call7 rfl (awake_t) (by (repeat (first | exact Split.nil _ | (apply Split.cons; focus (repeat (first | exact Find.head _ | apply Find.tail)))))) (fun _ _ _ _ h => h.elim) ?_
  rintro v R0 L' hR0 ⟨rfl, rfl⟩
  try simp only [List.cons_append, List.nil_append]
  refine rj_val (wn0 rfl) rfl rfl (y_not rfl) ?_
  refine rj_nil ?_
  refine hK3 _ _ _ ?_
  refine cj_cond_f rfl ?_
  refine cj_skip ?_
  refine hK2 _ _ _ ?_
  refine cj_env (Env.le_cons (t := 0) rfl (Env.le_nil _)) ?_
  refine cj_seq (fun K4 hK4 => ?_)
  refine cj_seq (fun K5 hK5 => ?_)
  refine cj_region ?_
  refine rj_val (wn0 rfl) rfl rfl (y_move rfl) ?_
  first | refine rj_val (wn0 rfl) rfl rfl (y_len_sl Try.underlying22 rfl) ?_ | refine rj_val (wn0 rfl) rfl rfl (y_len_slc Try.underlying22 rfl (by ((repeat (first | exact Find.head _ | apply Find.tail)); done))) ?_
  refine rj_val (wn0 rfl) rfl rfl (y_gtr rfl rfl) ?_
  refine rj_nil ?_
  refine hK5 _ _ _ ?_
  refine cj_cond rfl (fun hc22 => ?_) (fun hc22 => ?_)
  · try simp only [decide_eq_true_eq, decide_eq_false_iff_not, Bool.not_eq_true', Bool.not_eq_false', Bool.true_eq_false, Bool.false_eq_true] at hc22
    refine cj_seq (fun K7 hK7 => ?_)
    refine cj_region ?_
    refine rj_val (wn0 rfl) rfl rfl (y_assign rfl) ?_
    refine rj_nil ?_
    refine hK7 _ _ _ ?_
    refine cj_env (Env.le_cons (t := 2) rfl (Env.le_nil _)) ?_
    refine cj_ret ?_
    refine hret _ _ _ ?_
    apply ej_ret Try.results3 (.cons (rv_tmp rfl) .nil) _ [] (by first | exact hR0 | exact hR2 | exact Hp.le_trans hR2 hR5 | exact Hp.le_trans hR2 (Hp.le_trans hR5 hR6)) rfl
    case hp => rfl
    case hS => (repeat (first | exact Sub.refl _ | (apply Sub.pick; focus (repeat (first | exact Find.head _ | apply Find.tail))) | apply Sub.drop | exact Sub.tailApp _ _))
  · try simp only [decide_eq_true_eq, decide_eq_false_iff_not, Bool.not_eq_true', Bool.not_eq_false', Bool.true_eq_false, Bool.false_eq_true] at hc22
    refine cj_skip ?_
    refine hK4 _ _ _ ?_
    refine cj_env (Env.le_cons (t := 0) rfl (Env.le_nil _)) ?_
    refine cj_seq (fun K8 hK8 => ?_)
    refine cj_region ?_
    refine rj_call (wn0 rfl) rfl Try.call8 rfl (netNew_t) (by (repeat (first | exact Split.nil _ | (apply Split.cons; focus (repeat (first | exact Find.head _ | apply Find.tail)))))) (fun _ _ _ _ h => h.elim) ?_
    rintro r R1 L' hR1 ⟨rfl, bn, rfl, rfl⟩
    try simp only [List.cons_append, List.nil_append]
    refine rj_val (wn0 rfl) rfl rfl (y_build (cells := [_, _]) [(0, 1), (1, 1)] Try.underlying29 Try.zeroValue29 (fun _ => rfl) rfl rfl) ?_
    refine rj_alloc (wn0 rfl) rfl Try.zeroValue29 rfl (fun b4 => ?_)
    refine rj_val (wn0 rfl) rfl rfl (y_assign rfl) ?_
    refine rj_stores ⟨Try.isAgg29, Try.sizeOf29⟩ rfl (wn0 rfl) rfl rfl (by (first | (simp [Value.oneCell']; done) | (intro u hu; simp only [List.mem_cons, List.not_mem_nil, or_false] at hu; rcases hu with rfl | rfl | rfl | rfl <;> first | rfl | assumption))) (by ((repeat (first | exact Find.head _ | apply Find.tail)); done)) (by (simp)) rfl ?_
    refine rj_nil ?_
    refine hK8 _ _ _ ?_
    refine cj_seq (fun K9 hK9 => ?_)
    refine cj_seq (fun K10 hK10 => ?_)
    refine cj_region ?_
    refine rj_val (wn0 rfl) rfl rfl (y_move rfl) ?_
    first | refine rj_val (wn0 rfl) rfl rfl (y_len_sl Try.underlying22 rfl) ?_ | refine rj_val (wn0 rfl) rfl rfl (y_len_slc Try.underlying22 rfl (by ((repeat (first | exact Find.head _ | apply Find.tail)); done))) ?_
    refine rj_val (wn0 rfl) rfl rfl (y_move rfl) ?_
    refine rj_nil ?_
    refine hK10 _ _ _ ?_
    refine cj_env (Env.le_cons (t := 3) rfl (Env.le_cons (t := 4) rfl (Env.le_cons (t := 25) rfl (Env.le_cons (t := 26) rfl (Env.le_cons (t := 27) rfl (Env.le_nil _)))))) ?_
    refine cj_block ?_
    have ha60 : acts.length ≤ 60 := by (try simp at hc22); omega
    refine cj_env (E' := (fun (x : Nat × Value × List One1 × Int × List (List Value) × Value × Hp) => [(3, .pointer (some ⟨bn, 0, none⟩)), (4, .pointer (some ⟨b4, 0, none⟩)), (25, .slice q acts.length cap), (26, .int .i64 (acts.length : Int)), (27, .int .i64 (x.1 : Int))]) (0, .slice none 0 0, [], 0, [], .slice none 0 0, R0)) (Env.le_cons rfl (Env.le_cons rfl (Env.le_cons rfl (Env.le_cons rfl (Env.le_cons rfl (Env.le_nil _)))))) ?_
    refine cj_sub (M := (fun (x : Nat × Value × List One1 × Int × List (List Value) × Value × Hp) => netB bn x.2.1 x.2.2.2.1 :: netS x.2.1 x.2.2.1 x.2.2.2.2.1 :: blk b4 [x.2.2.2.2.2.1, .int .u64 x.2.2.2.1] 29 :: F) (0, .slice none 0 0, [], 0, [], .slice none 0 0, R0)) (by (repeat (first | exact Sub.refl _ | (apply Sub.pick; focus (repeat (first | exact Find.head _ | apply Find.tail))) | apply Sub.drop | exact Sub.tailApp _ _))) ?_
    refine cj_loop (fun (x : Nat × Value × List One1 × Int × List (List Value) × Value × Hp) => [(3, .pointer (some ⟨bn, 0, none⟩)), (4, .pointer (some ⟨b4, 0, none⟩)), (25, .slice q acts.length cap), (26, .int .i64 (acts.length : Int)), (27, .int .i64 (x.1 : Int))]) (fun (x : Nat × Value × List One1 × Int × List (List Value) × Value × Hp) => x.2.2.2.2.2.2) (fun (x : Nat × Value × List One1 × Int × List (List Value) × Value × Hp) => netB bn x.2.1 x.2.2.2.1 :: netS x.2.1 x.2.2.1 x.2.2.2.2.1 :: blk b4 [x.2.2.2.2.2.1, .int .u64 x.2.2.2.1] 29 :: F) (fun (x : Nat × Value × List One1 × Int × List (List Value) × Value × Hp) => x.1 ≤ acts.length ∧ R.le x.2.2.2.2.2.2 ∧ NS x.2.2.2.2.2.2 x.1 x.2.2.1 x.2.2.2.1 x.2.2.2.2.1 x.2.2.2.2.2.1) (fun (x : Nat × Value × List One1 × Int × List (List Value) × Value × Hp) => acts.length - x.1) (0, .slice none 0 0, [], 0, [], .slice none 0 0, R0) (⟨by simp, hR0, Els.nil, FrX.nil, fun x hx => by simp at hx, by simp, by simp, by simp⟩) ?_
    rintro ⟨i, v, st, last, css, wv, R2⟩ ⟨hi, hR2, hk⟩
    try dsimp only
    dsimp only at hi hR2 hk
    have hkl := hk.len; have hkl0 := hk.l0; have hkl1 := hk.l1
    refine cj_seq (fun K11 hK11 => ?_)
    refine cj_region ?_
    refine rj_val (wn0 rfl) rfl rfl (y_lss rfl rfl) ?_
    refine rj_nil ?_
    refine hK11 _ _ _ ?_
    refine cj_seq (fun K12 hK12 => ?_)
    refine cj_cond rfl (fun hc28 => ?_) (fun hc28 => ?_)
    · try simp only [decide_eq_true_eq, decide_eq_false_iff_not, Bool.not_eq_true', Bool.not_eq_false', Bool.true_eq_false, Bool.false_eq_true] at hc28
      refine cj_skip ?_
      refine hK12 _ _ _ ?_
      refine cj_seq (fun K14 hK14 => ?_)
      refine cj_block ?_
      refine cj_seq (fun K15 hK15 => ?_)
      refine cj_region ?_
      obtain ⟨⟨what, n, m⟩, hx⟩ : ∃ x, acts[i]? = some x := ⟨acts[i]'(by omega), by simp⟩
      obtain ⟨b, off, cap', cs, hee, ⟨ve, rfl, hve⟩, hcl, hcell⟩ := (hacts.mono hR2).at hx
      obtain ⟨rfl, rfl⟩ : q = some ⟨b, off, none⟩ ∧ cap = cap' := by cases hee; exact ⟨rfl, rfl⟩
      dsimp only at hve
      obtain ⟨qw, capw, rfl, hcapw, hcmw⟩ := hk.fr.shape
      have hmone := msgE.one (R := R2) (x := m) ⟨ve, rfl, hve⟩
      first | refine rj_val (wn0 rfl) rfl rfl (y_indexAddr Try.underlying22 Try.sizeOf34 rfl rfl (by (first | omega | (dsimp only; omega) | (simp; done) | (simp; omega)))) ?_ | refine rj_val (wn0 rfl) rfl rfl (y_index_slc Try.underlying22 Try.sizeOf34 rfl rfl (by ((repeat (first | exact Find.head _ | apply Find.tail)); done)) (by (first | omega | (dsimp only; omega) | (simp; done) | (simp; omega)))) ?_
      refine rj_val (wn0 rfl) rfl rfl ((y_loads_ro ⟨Try.isAgg34, Try.sizeOf34⟩ (vs := actC (what, n, m) ve) rfl rfl (fun j u hj => hcell j u hj))) ?_
      refine rj_alloc (wn0 rfl) rfl Try.zeroValue34 rfl (fun b6 => ?_)
      refine rj_stores ⟨Try.isAgg34, Try.sizeOf34⟩ rfl (wn0 rfl) rfl rfl (actE.one (R := R2) (x := (what, n, m)) ⟨ve, rfl, hve⟩) (by ((repeat (first | exact Find.head _ | apply Find.tail)); done)) (by exact Nat.le_refl 12) rfl ?_
      refine rj_nil ?_
      refine hK15 _ _ _ ?_
      refine cj_env (Env.le_cons (t := 3) rfl (Env.le_cons (t := 4) rfl (Env.le_cons (t := 6) rfl (Env.le_cons (t := 25) rfl (Env.le_cons (t := 26) rfl (Env.le_cons (t := 27) rfl (Env.le_nil _))))))) ?_
      refine cj_seq (fun K16 hK16 => ?_)
      refine cj_seq (fun K17 hK17 => ?_)
      refine cj_region ?_
      refine rj_turn (A := blk b6 (actC (what, n, m) ve) 34) (B := blk b6 (.int .i64 what :: .int .i64 n :: msgC m ve) 34) (by ((repeat (first | exact Find.head _ | apply Find.tail)); done)) (fun _ h => h) ?_
      refine rj_val (wn0 rfl) rfl rfl (y_fieldAddr (k := 2) Try.underlying34 rfl (n := 10) (by decide) Try.sizeOf32 rfl) ?_
      refine rj_val (wn0 rfl) rfl rfl ((y_loads_blk (vs := msgC m ve) ⟨Try.isAgg32, Try.sizeOf32⟩ rfl (by ((repeat (first | exact Find.head _ | apply Find.tail)); done)) rfl rfl)) ?_
      refine rj_val (wn0 rfl) rfl rfl (y_call Try.call9 rfl (small_q m _ hve) (by (repeat (first | exact Split.nil _ | (apply Split.cons; focus (repeat (first | exact Find.head _ | apply Find.tail))))))) ?_
      refine rj_val (wn0 rfl) rfl rfl (y_not rfl) ?_
      refine rj_nil ?_
      refine hK17 _ _ _ ?_
      refine cj_env (Env.le_cons (t := 3) rfl (Env.le_cons (t := 4) rfl (Env.le_cons (t := 6) rfl (Env.le_cons (t := 25) rfl (Env.le_cons (t := 26) rfl (Env.le_cons (t := 27) rfl (Env.le_cons (t := 34) rfl (Env.le_nil _)))))))) ?_
      refine cj_cond rfl (fun hc34 => ?_) (fun hc34 => ?_)
      · try simp only [decide_eq_true_eq, decide_eq_false_iff_not, Bool.not_eq_true', Bool.not_eq_false', Bool.true_eq_false, Bool.false_eq_true] at hc34
        refine cj_seq (fun K19 hK19 => ?_)
        refine cj_region ?_
        refine rj_val (wn0 rfl) rfl rfl (y_assign rfl) ?_
        refine rj_nil ?_
        refine hK19 _ _ _ ?_
        refine cj_env (Env.le_cons (t := 2) rfl (Env.le_nil _)) ?_
        refine cj_ret ?_
        refine hret _ _ _ ?_
        apply ej_ret Try.results3 (.cons (rv_tmp rfl) .nil) _ [] (by first | exact hR0 | exact hR2 | exact Hp.le_trans hR2 hR5 | exact Hp.le_trans hR2 (Hp.le_trans hR5 hR6)) rfl
        case hp => rfl
        case hS => (repeat (first | exact Sub.refl _ | (apply Sub.pick; focus (repeat (first | exact Find.head _ | apply Find.tail))) | apply Sub.drop | exact Sub.tailApp _ _))
      · try simp only [decide_eq_true_eq, decide_eq_false_iff_not, Bool.not_eq_true', Bool.not_eq_false', Bool.true_eq_false, Bool.false_eq_true] at hc34
        refine cj_skip ?_
        refine hK16 _ _ _ ?_
        refine cj_seq (fun K20 hK20 => ?_)
        refine cj_region ?_
        have hsm : smallB m = true := by simpa using hc34
        have hsM := smallB_M hsm
        first | refine rj_val (wn0 rfl) rfl rfl (y_loads_blk ⟨Try.isAgg29, Try.sizeOf29⟩ rfl (by ((repeat (first | exact Find.head _ | apply Find.tail)); done)) rfl rfl) ?_ | refine rj_val (wn0 rfl) rfl rfl (y_loads_slc ⟨Try.isAgg29, Try.sizeOf29⟩ rfl (by ((repeat (first | exact Find.head _ | apply Find.tail)); done)) rfl rfl (by (first | omega | (dsimp only; omega) | (simp; done) | (simp; omega)))) ?_
        refine rj_val (wn0 rfl) rfl rfl (y_fieldAddr (k := 1) Try.underlying34 rfl (n := 1) (by decide) Try.sizeOf3 rfl) ?_
        first | refine rj_val (wn0 rfl) rfl rfl (y_load ⟨Try.isAgg3, Try.sizeOf3⟩ rfl (by ((repeat (first | exact Find.head _ | apply Find.tail)); done)) rfl) ?_ | refine rj_val (wn0 rfl) rfl rfl (y_load_slc ⟨Try.isAgg3, Try.sizeOf3⟩ rfl (by ((repeat (first | exact Find.head _ | apply Find.tail)); done)) rfl) ?_
        refine rj_val (wn0 rfl) rfl rfl (y_call Try.call10 rfl (rNetHas_q _ last st hk.fr n) (by (repeat (first | exact Split.nil _ | (apply Split.cons; focus (repeat (first | exact Find.head _ | apply Find.tail))))))) ?_
        refine rj_val (wn0 rfl) rfl rfl (y_assign rfl) ?_
        refine rj_nil ?_
        refine hK20 _ _ _ ?_
        refine cj_env (Env.le_cons (t := 3) rfl (Env.le_cons (t := 4) rfl (Env.le_cons (t := 6) rfl (Env.le_cons (t := 7) rfl (Env.le_cons (t := 25) rfl (Env.le_cons (t := 26) rfl (Env.le_cons (t := 27) rfl (Env.le_nil _)))))))) ?_
        refine cj_seq (fun K21 hK21 => ?_)
        have hJ34 : ∀ (x : Value × List One1 × Int × List (List Value) × Value × Hp), R.le x.2.2.2.2.2 ∧ NS x.2.2.2.2.2 (i + 1) x.2.1 x.2.2.1 x.2.2.2.1 x.2.2.2.2.1 → EJ ⟨Try.prog, 200, σ⟩ K21 [(3, .pointer (some ⟨bn, 0, none⟩)), (4, .pointer (some ⟨b4, 0, none⟩)), (25, .slice (some ⟨b, off, none⟩) acts.length cap), (26, .int .i64 (acts.length : Int)), (27, .int .i64 (i : Int))] x.2.2.2.2.2 (netB bn x.1 x.2.2.1 :: netS x.1 x.2.1 x.2.2.2.1 :: blk b4 [x.2.2.2.2.1, .int .u64 x.2.2.1] 29 :: F) := by
          rintro ⟨v3, st3, last3, css3, wv3, R3⟩ ⟨hR3, hk3⟩
          try dsimp only
          dsimp only at hR3 hk3
          obtain ⟨q3, cap3, rfl, hcap3, hcm3⟩ := hk3.fr.shape
          refine hK21 _ _ _ ?_
          refine cj_seq (fun K22 hK22 => ?_)
          refine cj_draw (by kernel_rfl) (by kernel_rfl) ?_
          refine qj_val (wn0 rfl) rfl rfl (y_move rfl) ?_
          refine qj_val (wn0 rfl) rfl rfl (y_call Try.call19 rfl (netLen_q bn v3 last3 st3 css3) (by (repeat (first | exact Split.nil _ | (apply Split.cons; focus (repeat (first | exact Find.head _ | apply Find.tail))))))) ?_
          refine qj_val (wn0 rfl) rfl rfl (y_fieldAddr (k := 0) Try.underlying29 rfl (n := 1) (by decide) Try.sizeOf26 rfl) ?_
          first | refine qj_val (wn0 rfl) rfl rfl (y_load ⟨Try.isAgg26, Try.sizeOf26⟩ rfl (by ((repeat (first | exact Find.head _ | apply Find.tail)); done)) rfl) ?_ | refine qj_val (wn0 rfl) rfl rfl (y_load_slc ⟨Try.isAgg26, Try.sizeOf26⟩ rfl (by ((repeat (first | exact Find.head _ | apply Find.tail)); done)) rfl) ?_
          first | refine qj_val (wn0 rfl) rfl rfl (y_len_sl Try.underlying26 rfl) ?_ | refine qj_val (wn0 rfl) rfl rfl (y_len_slc Try.underlying26 rfl (by ((repeat (first | exact Find.head _ | apply Find.tail)); done))) ?_
          refine qj_val (wn0 rfl) rfl rfl (y_neq rfl rfl) ?_
          refine qj_eq 167 rfl (v' := .bool false) (by simp) ?_
          refine qj_nil ?_
          refine hK22 _ _ _ ?_
          refine cj_env (Env.le_cons (t := 3) rfl (Env.le_cons (t := 4) rfl (Env.le_cons (t := 25) rfl (Env.le_cons (t := 26) rfl (Env.le_cons (t := 27) rfl (Env.le_cons (t := 167) rfl (Env.le_nil _))))))) ?_
          refine cj_cond_f rfl ?_
          refine cj_skip ?_
          refine hK14 _ _ _ ?_
          refine cj_region ?_
          first | refine rj_val (wn0 rfl) rfl rfl (y_add64 rfl rfl (by (first | omega | (dsimp only; omega) | (simp; done) | (simp; omega)))) ?_ | refine rj_val (wn0 rfl) rfl rfl (y_add rfl rfl) ?_
          refine rj_val (wn0 rfl) rfl rfl (y_move rfl) ?_
          refine rj_nil ?_
          refine ej_on (q' := roundK _ _ _ _ _ _ _) rfl ?_
          refine ej_round ((i + 1, v3, st3, last3, css3, .slice q3 st3.length cap3, R3)) (⟨by dsimp only; omega, hR3, hk3⟩) (by dsimp only; omega) (Env.le_cons rfl (Env.le_cons rfl (Env.le_cons rfl (Env.le_cons rfl (Env.le_cons rfl (Env.le_nil _)))))) rfl (by (repeat (first | exact Sub.refl _ | (apply Sub.pick; focus (repeat (first | exact Find.head _ | apply Find.tail))) | apply Sub.drop | exact Sub.tailApp _ _)))
        refine cj_seq (fun K23 hK23 => ?_)
        refine cj_region ?_
        refine rj_val (wn0 rfl) rfl rfl (y_fieldAddr (k := 0) Try.underlying34 rfl (n := 1) (by decide) Try.sizeOf3 rfl) ?_
        first | refine rj_val (wn0 rfl) rfl rfl (y_load ⟨Try.isAgg3, Try.sizeOf3⟩ rfl (by ((repeat (first | exact Find.head _ | apply Find.tail)); done)) rfl) ?_ | refine rj_val (wn0 rfl) rfl rfl (y_load_slc ⟨Try.isAgg3, Try.sizeOf3⟩ rfl (by ((repeat (first | exact Find.head _ | apply Find.tail)); done)) rfl) ?_
        refine rj_nil ?_
        refine hK23 _ _ _ ?_
        refine cj_block ?_
        refine cj_seq (fun K24 hK24 => ?_)
        refine cj_region ?_
        refine rj_val (wn0 rfl) rfl rfl (y_eql rfl rfl) ?_
        refine rj_val (wn0 rfl) rfl rfl (y_assign rfl) ?_
        refine rj_nil ?_
        refine hK24 _ _ _ ?_
        refine cj_cond rfl (fun hc41 => ?_) (fun hc41 => ?_)
        · try simp only [decide_eq_true_eq, decide_eq_false_iff_not, Bool.not_eq_true', Bool.not_eq_false', Bool.true_eq_false, Bool.false_eq_true] at hc41
          refine cj_seq (fun K26 hK26 => ?_)
          refine cj_region ?_
          refine rj_val (wn0 rfl) rfl rfl (y_move rfl) ?_
          refine rj_val (wn0 rfl) rfl rfl (y_fieldAddr (k := 2) Try.underlying34 rfl (n := 10) (by decide) Try.sizeOf32 rfl) ?_
          refine rj_val (wn0 rfl) rfl rfl ((y_loads_blk (vs := msgC m ve) ⟨Try.isAgg32, Try.sizeOf32⟩ rfl (by ((repeat (first | exact Find.head _ | apply Find.tail)); done)) rfl rfl)) ?_
          refine rj_buildSlice (sz := 10) (wn0 rfl) rfl Try.underlying64 Try.sizeOf32 Try.zeroValue32 rfl rfl rfl (by decide) (by decide) (fun bm => ?_)
          refine rj_freeze (e := 32) (sz := 10) (n := 1) (v := .slice (some ⟨bm, 0, none⟩) 1 1) (xs := msgC m ve) (by ((repeat (first | exact Find.head _ | apply Find.tail)); done)) (fun R4 hR4 hfr4 hxl4 => ?_)
          have hfm : FrX msgE R4 [m] (.slice (some ⟨bm, 0, none⟩) 1 1) := FrozenS.frx (l := [m]) (css := [msgC m ve]) (by simpa using hfr4) (Els.single (T := msgE) ⟨_, rfl, hve.mono hR4⟩)
          refine rj_call (wn0 rfl) rfl Try.call11 rfl (netPut_t bn v last st css (hk.els.mono hR4) _ [m] hfm (fun x hx => by simp at hx; subst hx; exact hsM) (by simp; omega) (by simp; omega)) (by (repeat (first | exact Split.nil _ | (apply Split.cons; focus (repeat (first | exact Find.head _ | apply Find.tail)))))) (fun _ _ _ _ h => h.elim) ?_
          rintro r R5 L' hR5 ⟨v5, css5, hk5, rfl⟩
          rw [show last + (([m].length : Nat) : Int) = last + 1 by simp]
          try simp only [List.cons_append, List.nil_append]
          refine rj_nil ?_
          refine hK26 _ _ _ ?_
          refine cj_env (Env.le_cons (t := 3) rfl (Env.le_cons (t := 4) rfl (Env.le_cons (t := 6) rfl (Env.le_cons (t := 25) rfl (Env.le_cons (t := 26) rfl (Env.le_cons (t := 27) rfl (Env.le_nil _))))))) ?_
          refine cj_region ?_
          first | refine rj_val (wn0 rfl) rfl rfl (y_loads_blk ⟨Try.isAgg29, Try.sizeOf29⟩ rfl (by ((repeat (first | exact Find.head _ | apply Find.tail)); done)) rfl rfl) ?_ | refine rj_val (wn0 rfl) rfl rfl (y_loads_slc ⟨Try.isAgg29, Try.sizeOf29⟩ rfl (by ((repeat (first | exact Find.head _ | apply Find.tail)); done)) rfl rfl (by (first | omega | (dsimp only; omega) | (simp; done) | (simp; omega)))) ?_
          refine rj_val (wn0 rfl) rfl rfl (y_fieldAddr (k := 2) Try.underlying34 rfl (n := 10) (by decide) Try.sizeOf32 rfl) ?_
          refine rj_val (wn0 rfl) rfl rfl ((y_loads_blk (vs := msgC m ve) ⟨Try.isAgg32, Try.sizeOf32⟩ rfl (by ((repeat (first | exact Find.head _ | apply Find.tail)); done)) rfl rfl)) ?_
          refine rj_call (wn0 rfl) rfl Try.call12 rfl (rNetPut_t _ last st (hk.fr.mono (Hp.le_trans hR4 hR5)) (by omega) (by omega) m ve (hve.mono (Hp.le_trans hR4 hR5))) (by (repeat (first | exact Split.nil _ | (apply Split.cons; focus (repeat (first | exact Find.head _ | apply Find.tail)))))) (fun _ _ _ _ h => h.elim) ?_
          rintro r R6 L' hR6 ⟨rfl, wv6, rfl, hw6⟩
          have hwo := hw6.one
          obtain ⟨q6, cap6, rfl, _, _⟩ := hw6.shape
          try simp only [List.cons_append, List.nil_append]
          refine rj_stores ⟨Try.isAgg29, Try.sizeOf29⟩ rfl (wn0 rfl) rfl rfl (by (first | (simp [Value.oneCell']; done) | (intro u hu; simp only [List.mem_cons, List.not_mem_nil, or_false] at hu; rcases hu with rfl | rfl | rfl | rfl <;> first | rfl | assumption))) (by ((repeat (first | exact Find.head _ | apply Find.tail)); done)) (by (simp)) rfl ?_
          refine rj_nil ?_
          refine ej_join hJ34 ((v5, st ++ [(last + 1, m)], last + 1, css5, .slice q6 (st ++ [(last + 1, m)]).length cap6, R6)) (⟨Hp.le_trans hR2 (Hp.le_trans hR4 (Hp.le_trans hR5 hR6)), hk.put hsM hk5 hw6 hR6⟩) (Env.le_cons rfl (Env.le_cons rfl (Env.le_cons rfl (Env.le_cons rfl (Env.le_cons rfl (Env.le_nil _)))))) rfl (by (repeat (first | exact Sub.refl _ | (apply Sub.pick; focus (repeat (first | exact Find.head _ | apply Find.tail))) | apply Sub.drop | exact Sub.tailApp _ _)))
        · try simp only [decide_eq_true_eq, decide_eq_false_iff_not, Bool.not_eq_true', Bool.not_eq_false', Bool.true_eq_false, Bool.false_eq_true] at hc41
          refine cj_seq (fun K27 hK27 => ?_)
          refine cj_region ?_
          refine rj_val (wn0 rfl) rfl rfl (y_eql rfl rfl) ?_
          refine rj_val (wn0 rfl) rfl rfl (y_assign rfl) ?_
          refine rj_nil ?_
          refine hK27 _ _ _ ?_
          refine cj_env (Env.le_cons (t := 3) rfl (Env.le_cons (t := 4) rfl (Env.le_cons (t := 6) rfl (Env.le_cons (t := 7) rfl (Env.le_cons (t := 25) rfl (Env.le_cons (t := 26) rfl (Env.le_cons (t := 27) rfl (Env.le_cons (t := 40) rfl (Env.le_cons (t := 52) rfl (Env.le_nil _)))))))))) ?_
          refine cj_cond rfl (fun hc52 => ?_) (fun hc52 => ?_)
          · try simp only [decide_eq_true_eq, decide_eq_false_iff_not, Bool.not_eq_true', Bool.not_eq_false', Bool.true_eq_false, Bool.false_eq_true] at hc52
            refine cj_seq (fun K29 hK29 => ?_)
            refine cj_region ?_
            refine rj_val (wn0 rfl) rfl rfl (y_move rfl) ?_
            refine rj_val (wn0 rfl) rfl rfl (y_fieldAddr (k := 1) Try.underlying34 rfl (n := 1) (by decide) Try.sizeOf3 rfl) ?_
            first | refine rj_val (wn0 rfl) rfl rfl (y_load ⟨Try.isAgg3, Try.sizeOf3⟩ rfl (by ((repeat (first | exact Find.head _ | apply Find.tail)); done)) rfl) ?_ | refine rj_val (wn0 rfl) rfl rfl (y_load_slc ⟨Try.isAgg3, Try.sizeOf3⟩ rfl (by ((repeat (first | exact Find.head _ | apply Find.tail)); done)) rfl) ?_
            refine rj_call (wn0 rfl) rfl Try.call13 rfl (netTake_t bn v last st css hk.els hk.sm (by omega) n) (by (repeat (first | exact Split.nil _ | (apply Split.cons; focus (repeat (first | exact Find.head _ | apply Find.tail)))))) (fun _ _ _ _ h => h.elim) ?_
            rintro r R5 L' hR5 ⟨⟨ve5, rfl, hve5⟩, v5, css5, hk5, rfl⟩
            try simp only [List.cons_append, List.nil_append]
            refine rj_val (wn0 rfl) rfl rfl (y_move rfl) ?_
            refine rj_val (wn0 rfl) rfl rfl (y_extract rfl rfl) ?_
            refine rj_val (wn0 rfl) rfl rfl (y_extract rfl rfl) ?_
            refine rj_alloc (wn0 rfl) rfl Try.zeroValue32 rfl (fun b8 => ?_)
            refine rj_stores ⟨Try.isAgg32, Try.sizeOf32⟩ rfl (wn0 rfl) rfl rfl (msgE.one (R := R5) (x := (atM st n).2) ⟨_, rfl, hve5⟩) (by ((repeat (first | exact Find.head _ | apply Find.tail)); done)) (by exact Nat.le_refl 10) rfl ?_
            refine rj_val (wn0 rfl) rfl rfl (y_assign rfl) ?_
            refine rj_nil ?_
            refine hK29 _ _ _ ?_
            refine cj_env (Env.le_cons (t := 3) rfl (Env.le_cons (t := 4) rfl (Env.le_cons (t := 6) rfl (Env.le_cons (t := 7) rfl (Env.le_cons (t := 8) rfl (Env.le_cons (t := 9) rfl (Env.le_cons (t := 25) rfl (Env.le_cons (t := 26) rfl (Env.le_cons (t := 27) rfl (Env.le_nil _)))))))))) ?_
            refine cj_seq (fun K30 hK30 => ?_)
            refine cj_seq (fun K31 hK31 => ?_)
            refine cj_draw (by kernel_rfl) (by kernel_rfl) ?_
            refine qj_val (wn0 rfl) rfl rfl (y_move rfl) ?_
            refine qj_val (wn0 rfl) rfl rfl (y_move rfl) ?_
            refine qj_val (wn0 rfl) rfl rfl (y_bneq Try.underlying4 rfl rfl) ?_
            refine qj_eq 63 rfl (v' := .bool false) (by simp) ?_
            refine qj_val (wn0 rfl) rfl rfl (y_move rfl) ?_
            refine qj_val (wn1 rfl rfl rfl rfl) rfl rfl (y_move rfl) ?_
            refine qj_val (wn1 rfl rfl rfl rfl) rfl rfl (y_move rfl) ?_
            refine qj_part 66 rfl (fun hg66 => ?_) (fun hg66 => ?_)
            · (try simp only [decide_eq_true_eq, decide_eq_false_iff_not, Bool.not_eq_true', Bool.not_eq_false', Bool.true_eq_false, Bool.false_eq_true] at hg66); rw [hg66]
              obtain ⟨k, ⟨nk, mk⟩, rfl, hxk, hak⟩ := hasB_some hg66
              obtain ⟨bw, offw, capw', csw, hew, ⟨vek, rfl, hvek⟩, hclw, hcellw⟩ := (hk.fr.mono hR5).at hxk
              obtain ⟨rfl, rfl⟩ : qw = some ⟨bw, offw, none⟩ ∧ capw = capw' := by cases hew; exact ⟨rfl, rfl⟩
              have hklt := (List.getElem?_eq_some_iff.1 hxk).1
              rw [hak] at hve5
              refine qj_val (wn1 rfl rfl rfl rfl) rfl rfl (y_loads_blk (vs := msgC (atM st k).2 ve5) ⟨Try.isAgg32, Try.sizeOf32⟩ rfl (by ((repeat (first | exact Find.head _ | apply Find.tail)); done)) rfl rfl) ?_
              refine qj_val (wn1 rfl rfl rfl rfl) rfl rfl (y_fieldAddr (k := 0) Try.underlying29 rfl (n := 1) (by decide) Try.sizeOf26 rfl) ?_
              first | refine qj_val (wn1 rfl rfl rfl rfl) rfl rfl (y_load ⟨Try.isAgg26, Try.sizeOf26⟩ rfl (by ((repeat (first | exact Find.head _ | apply Find.tail)); done)) rfl) ?_ | refine qj_val (wn1 rfl rfl rfl rfl) rfl rfl (y_load_slc ⟨Try.isAgg26, Try.sizeOf26⟩ rfl (by ((repeat (first | exact Find.head _ | apply Find.tail)); done)) rfl) ?_
              refine qj_val (wn1 rfl rfl rfl rfl) rfl rfl (y_fieldAddr (k := 1) Try.underlying34 rfl (n := 1) (by decide) Try.sizeOf3 rfl) ?_
              first | refine qj_val (wn1 rfl rfl rfl rfl) rfl rfl (y_load ⟨Try.isAgg3, Try.sizeOf3⟩ rfl (by ((repeat (first | exact Find.head _ | apply Find.tail)); done)) rfl) ?_ | refine qj_val (wn1 rfl rfl rfl rfl) rfl rfl (y_load_slc ⟨Try.isAgg3, Try.sizeOf3⟩ rfl (by ((repeat (first | exact Find.head _ | apply Find.tail)); done)) rfl) ?_
              first | refine qj_val (wn1 rfl rfl rfl rfl) rfl rfl (y_indexAddr Try.underlying26 Try.sizeOf43 rfl rfl (by (first | omega | (dsimp only; omega) | (simp; done) | (simp; omega)))) ?_ | refine qj_val (wn1 rfl rfl rfl rfl) rfl rfl (y_index_slc Try.underlying26 Try.sizeOf43 rfl rfl (by ((repeat (first | exact Find.head _ | apply Find.tail)); done)) (by (first | omega | (dsimp only; omega) | (simp; done) | (simp; omega)))) ?_
              refine qj_val (wn1 rfl rfl rfl rfl) rfl rfl (y_fieldAddr (k := 1) Try.underlying43 rfl (n := 10) (by decide) Try.sizeOf32 rfl) ?_
              refine qj_val (wn1 rfl rfl rfl rfl) rfl rfl (y_loads_ro ⟨Try.isAgg32, Try.sizeOf32⟩ (vs := msgC mk vek) rfl rfl (fun j u hj => by have := hcellw (j + 1) u hj; rw [Nat.add_comm j 1, ← Nat.add_assoc] at this; exact this)) ?_
              refine qj_val (wn1 rfl rfl rfl rfl) rfl rfl (y_call Try.call14 rfl (msgSame_q (atM st k).2 mk _ _ (by rw [hak]; exact hve5) hvek) (by (repeat (first | exact Split.nil _ | (apply Split.cons; focus (repeat (first | exact Find.head _ | apply Find.tail))))))) ?_
              refine qj_eq 75 rfl (v' := .bool true) (by simp [hak]) ?_
              refine qj_val (wn1 rfl rfl rfl rfl) rfl rfl (y_not rfl) ?_
              refine qj_val (wn1 rfl rfl rfl rfl) rfl rfl (y_pick_t rfl rfl) ?_
              refine qj_val (wn0 rfl) rfl rfl (y_pick_f rfl rfl) ?_
              refine qj_val (wn0 rfl) rfl rfl (y_move rfl) ?_
              refine qj_val (wn1 rfl rfl rfl rfl) rfl rfl (y_move rfl) ?_
              refine qj_val (wn1 rfl rfl rfl rfl) rfl rfl (y_not rfl) ?_
              refine qj_val (wn1 rfl rfl rfl rfl) rfl rfl (y_move rfl) ?_
              refine qj_skip (wn2 rfl rfl rfl rfl rfl) rfl rfl ?_
              refine qj_skip (wn2 rfl rfl rfl rfl rfl) rfl rfl ?_
              refine qj_skip (wn2 rfl rfl rfl rfl rfl) rfl rfl ?_
              refine qj_skip (wn2 rfl rfl rfl rfl rfl) rfl rfl ?_
              refine qj_val (wn1 rfl rfl rfl rfl) rfl rfl (y_pick_f rfl rfl) ?_
              refine qj_val (wn0 rfl) rfl rfl (y_pick_f rfl rfl) ?_
              refine qj_nil ?_
              refine hK31 _ _ _ ?_
              refine cj_env (Env.le_cons (t := 3) rfl (Env.le_cons (t := 4) rfl (Env.le_cons (t := 6) rfl (Env.le_cons (t := 25) rfl (Env.le_cons (t := 26) rfl (Env.le_cons (t := 27) rfl (Env.le_cons (t := 88) rfl (Env.le_nil _)))))))) ?_
              refine cj_cond_f rfl ?_
              refine cj_skip ?_
              refine hK30 _ _ _ ?_
              refine cj_region ?_
              first | refine rj_val (wn0 rfl) rfl rfl (y_loads_blk ⟨Try.isAgg29, Try.sizeOf29⟩ rfl (by ((repeat (first | exact Find.head _ | apply Find.tail)); done)) rfl rfl) ?_ | refine rj_val (wn0 rfl) rfl rfl (y_loads_slc ⟨Try.isAgg29, Try.sizeOf29⟩ rfl (by ((repeat (first | exact Find.head _ | apply Find.tail)); done)) rfl rfl (by (first | omega | (dsimp only; omega) | (simp; done) | (simp; omega)))) ?_
              refine rj_val (wn0 rfl) rfl rfl (y_fieldAddr (k := 1) Try.underlying34 rfl (n := 1) (by decide) Try.sizeOf3 rfl) ?_
              first | refine rj_val (wn0 rfl) rfl rfl (y_load ⟨Try.isAgg3, Try.sizeOf3⟩ rfl (by ((repeat (first | exact Find.head _ | apply Find.tail)); done)) rfl) ?_ | refine rj_val (wn0 rfl) rfl rfl (y_load_slc ⟨Try.isAgg3, Try.sizeOf3⟩ rfl (by ((repeat (first | exact Find.head _ | apply Find.tail)); done)) rfl) ?_
              refine rj_call (wn0 rfl) rfl Try.call15 rfl (rNetDrop_t _ last st (hk.fr.mono hR5) (by omega) _) (by (repeat (first | exact Split.nil _ | (apply Split.cons; focus (repeat (first | exact Find.head _ | apply Find.tail)))))) (fun _ _ _ _ h => h.elim) ?_
              rintro r R6 L' hR6 ⟨rfl, wv6, rfl, hw6⟩
              have hwo := hw6.one
              obtain ⟨q6, cap6, rfl, _, _⟩ := hw6.shape
              try simp only [List.cons_append, List.nil_append]
              refine rj_stores ⟨Try.isAgg29, Try.sizeOf29⟩ rfl (wn0 rfl) rfl rfl (by (first | (simp [Value.oneCell']; done) | (intro u hu; simp only [List.mem_cons, List.not_mem_nil, or_false] at hu; rcases hu with rfl | rfl | rfl | rfl <;> first | rfl | assumption))) (by ((repeat (first | exact Find.head _ | apply Find.tail)); done)) (by (simp)) rfl ?_
              refine rj_nil ?_
              refine ej_join hJ34 ((v5, dropL st (k : Int), last, css5, .slice q6 (dropL st (k : Int)).length cap6, R6)) (⟨Hp.le_trans hR2 (Hp.le_trans hR5 hR6), hk.dropped hk5 hw6 hR6⟩) (Env.le_cons rfl (Env.le_cons rfl (Env.le_cons rfl (Env.le_cons rfl (Env.le_cons rfl (Env.le_nil _)))))) rfl (by (repeat (first | exact Sub.refl _ | (apply Sub.pick; focus (repeat (first | exact Find.head _ | apply Find.tail))) | apply Sub.drop | exact Sub.tailApp _ _)))
            · (try simp only [decide_eq_true_eq, decide_eq_false_iff_not, Bool.not_eq_true', Bool.not_eq_false', Bool.true_eq_false, Bool.false_eq_true] at hg66); rw [hg66]
              refine qj_skip (wn2 rfl rfl rfl rfl rfl) rfl rfl ?_
              refine qj_skip (wn2 rfl rfl rfl rfl rfl) rfl rfl ?_
              refine qj_skip (wn2 rfl rfl rfl rfl rfl) rfl rfl ?_
              refine qj_skip (wn2 rfl rfl rfl rfl rfl) rfl rfl ?_
              refine qj_skip (wn2 rfl rfl rfl rfl rfl) rfl rfl ?_
              refine qj_skip (wn2 rfl rfl rfl rfl rfl) rfl rfl ?_
              refine qj_skip (wn2 rfl rfl rfl rfl rfl) rfl rfl ?_
              refine qj_skip (wn2 rfl rfl rfl rfl rfl) rfl rfl ?_
              refine qj_skip (wn2 rfl rfl rfl rfl rfl) rfl rfl ?_
              refine qj_skip (wn2 rfl rfl rfl rfl rfl) rfl rfl ?_
              refine qj_val (wn1 rfl rfl rfl rfl) rfl rfl (y_pick_f rfl rfl) ?_
              refine qj_val (wn0 rfl) rfl rfl (y_pick_f rfl rfl) ?_
              refine qj_val (wn0 rfl) rfl rfl (y_move rfl) ?_
              refine qj_val (wn1 rfl rfl rfl rfl) rfl rfl (y_move rfl) ?_
              refine qj_val (wn1 rfl rfl rfl rfl) rfl rfl (y_not rfl) ?_
              refine qj_val (wn1 rfl rfl rfl rfl) rfl rfl (y_move rfl) ?_
              refine qj_val (wn1 rfl rfl rfl rfl) rfl rfl (y_loads_blk (vs := msgC (atM st n).2 ve5) ⟨Try.isAgg32, Try.sizeOf32⟩ rfl (by ((repeat (first | exact Find.head _ | apply Find.tail)); done)) rfl rfl) ?_
              refine qj_val (wn1 rfl rfl rfl rfl) rfl rfl (y_build (cells := [_, _, _, _, _, _, _, _, _, _]) [(0, 1), (1, 1), (2, 1), (3, 1), (4, 1), (5, 1), (6, 1), (7, 1), (8, 1), (9, 1)] Try.underlying32 Try.zeroValue32 (fun _ => rfl) rfl rfl) ?_
              refine qj_val (wn1 rfl rfl rfl rfl) rfl rfl (y_call Try.call14 rfl (msgSame_q (atM st n).2 Msg.zero _ (.slice none 0 0) hve5 FrX.nil) (by (repeat (first | exact Split.nil _ | (apply Split.cons; focus (repeat (first | exact Find.head _ | apply Find.tail))))))) ?_
              refine qj_eq 85 rfl (v' := .bool true) (by rw [(atM_none (by assumption)).1]; simp) ?_
              refine qj_val (wn1 rfl rfl rfl rfl) rfl rfl (y_not rfl) ?_
              refine qj_val (wn1 rfl rfl rfl rfl) rfl rfl (y_pick_t rfl rfl) ?_
              refine qj_val (wn0 rfl) rfl rfl (y_pick_f rfl rfl) ?_
              refine qj_nil ?_
              refine hK31 _ _ _ ?_
              refine cj_env (Env.le_cons (t := 3) rfl (Env.le_cons (t := 4) rfl (Env.le_cons (t := 6) rfl (Env.le_cons (t := 25) rfl (Env.le_cons (t := 26) rfl (Env.le_cons (t := 27) rfl (Env.le_cons (t := 88) rfl (Env.le_nil _)))))))) ?_
              refine cj_cond_f rfl ?_
              refine cj_skip ?_
              refine hK30 _ _ _ ?_
              refine cj_region ?_
              first | refine rj_val (wn0 rfl) rfl rfl (y_loads_blk ⟨Try.isAgg29, Try.sizeOf29⟩ rfl (by ((repeat (first | exact Find.head _ | apply Find.tail)); done)) rfl rfl) ?_ | refine rj_val (wn0 rfl) rfl rfl (y_loads_slc ⟨Try.isAgg29, Try.sizeOf29⟩ rfl (by ((repeat (first | exact Find.head _ | apply Find.tail)); done)) rfl rfl (by (first | omega | (dsimp only; omega) | (simp; done) | (simp; omega)))) ?_
              refine rj_val (wn0 rfl) rfl rfl (y_fieldAddr (k := 1) Try.underlying34 rfl (n := 1) (by decide) Try.sizeOf3 rfl) ?_
              first | refine rj_val (wn0 rfl) rfl rfl (y_load ⟨Try.isAgg3, Try.sizeOf3⟩ rfl (by ((repeat (first | exact Find.head _ | apply Find.tail)); done)) rfl) ?_ | refine rj_val (wn0 rfl) rfl rfl (y_load_slc ⟨Try.isAgg3, Try.sizeOf3⟩ rfl (by ((repeat (first | exact Find.head _ | apply Find.tail)); done)) rfl) ?_
              refine rj_call (wn0 rfl) rfl Try.call15 rfl (rNetDrop_t _ last st (hk.fr.mono hR5) (by omega) _) (by (repeat (first | exact Split.nil _ | (apply Split.cons; focus (repeat (first | exact Find.head _ | apply Find.tail)))))) (fun _ _ _ _ h => h.elim) ?_
              rintro r R6 L' hR6 ⟨rfl, wv6, rfl, hw6⟩
              have hwo := hw6.one
              obtain ⟨q6, cap6, rfl, _, _⟩ := hw6.shape
              try simp only [List.cons_append, List.nil_append]
              refine rj_stores ⟨Try.isAgg29, Try.sizeOf29⟩ rfl (wn0 rfl) rfl rfl (by (first | (simp [Value.oneCell']; done) | (intro u hu; simp only [List.mem_cons, List.not_mem_nil, or_false] at hu; rcases hu with rfl | rfl | rfl | rfl <;> first | rfl | assumption))) (by ((repeat (first | exact Find.head _ | apply Find.tail)); done)) (by (simp)) rfl ?_
              refine rj_nil ?_
              refine ej_join hJ34 ((v5, dropL st n, last, css5, .slice q6 (dropL st n).length cap6, R6)) (⟨Hp.le_trans hR2 (Hp.le_trans hR5 hR6), hk.dropped hk5 hw6 hR6⟩) (Env.le_cons rfl (Env.le_cons rfl (Env.le_cons rfl (Env.le_cons rfl (Env.le_cons rfl (Env.le_nil _)))))) rfl (by (repeat (first | exact Sub.refl _ | (apply Sub.pick; focus (repeat (first | exact Find.head _ | apply Find.tail))) | apply Sub.drop | exact Sub.tailApp _ _)))
          · try simp only [decide_eq_true_eq, decide_eq_false_iff_not, Bool.not_eq_true', Bool.not_eq_false', Bool.true_eq_false, Bool.false_eq_true] at hc52
            refine cj_seq (fun K32 hK32 => ?_)
            refine cj_region ?_
            refine rj_val (wn0 rfl) rfl rfl (y_eql rfl rfl) ?_
            refine rj_val (wn0 rfl) rfl rfl (y_assign rfl) ?_
            refine rj_nil ?_
            refine hK32 _ _ _ ?_
            refine cj_cond rfl (fun hc93 => ?_) (fun hc93 => ?_)
            · try simp only [decide_eq_true_eq, decide_eq_false_iff_not, Bool.not_eq_true', Bool.not_eq_false', Bool.true_eq_false, Bool.false_eq_true] at hc93
              refine cj_seq (fun K34 hK34 => ?_)
              refine cj_seq (fun K35 hK35 => ?_)
              refine cj_region ?_
              refine rj_val (wn0 rfl) rfl rfl (y_move rfl) ?_
              refine rj_val (wn0 rfl) rfl rfl (y_fieldAddr (k := 1) Try.underlying34 rfl (n := 1) (by decide) Try.sizeOf3 rfl) ?_
              first | refine rj_val (wn0 rfl) rfl rfl (y_load ⟨Try.isAgg3, Try.sizeOf3⟩ rfl (by ((repeat (first | exact Find.head _ | apply Find.tail)); done)) rfl) ?_ | refine rj_val (wn0 rfl) rfl rfl (y_load_slc ⟨Try.isAgg3, Try.sizeOf3⟩ rfl (by ((repeat (first | exact Find.head _ | apply Find.tail)); done)) rfl) ?_
              refine rj_call (wn0 rfl) rfl Try.call16 rfl (netTwice_t bn v last st css hk.els hk.sm (by omega) (by omega) n) (by (repeat (first | exact Split.nil _ | (apply Split.cons; focus (repeat (first | exact Find.head _ | apply Find.tail)))))) (fun _ _ _ _ h => h.elim) ?_
              rintro r R5 L' hR5 ⟨rfl, v5, css5, hk5, rfl⟩
              try simp only [List.cons_append, List.nil_append]
              refine rj_val (wn0 rfl) rfl rfl (y_move rfl) ?_
              refine rj_val (wn0 rfl) rfl rfl (y_bneq Try.underlying4 rfl rfl) ?_
              refine rj_eq 100 rfl (v' := .bool false) (by simp) ?_
              refine rj_nil ?_
              refine hK35 _ _ _ ?_
              refine cj_env (Env.le_cons (t := 3) rfl (Env.le_cons (t := 4) rfl (Env.le_cons (t := 6) rfl (Env.le_cons (t := 7) rfl (Env.le_cons (t := 25) rfl (Env.le_cons (t := 26) rfl (Env.le_cons (t := 27) rfl (Env.le_cons (t := 100) rfl (Env.le_nil _))))))))) ?_
              refine cj_cond_f rfl ?_
              refine cj_skip ?_
              refine hK34 _ _ _ ?_
              refine cj_seq (fun K36 hK36 => ?_)
              refine cj_region ?_
              refine rj_val (wn0 rfl) rfl rfl (y_move rfl) ?_
              refine rj_nil ?_
              refine hK36 _ _ _ ?_
              refine cj_cond rfl (fun hc101 => ?_) (fun hc101 => ?_)
              · (try simp only [decide_eq_true_eq, decide_eq_false_iff_not, Bool.not_eq_true', Bool.not_eq_false', Bool.true_eq_false, Bool.false_eq_true] at hc101); have e1 : twL st last n = st ++ numb last [(atM st n).2] := by unfold twL; rw [if_pos hc101]
                have e2 : twN st last n = last + 1 := by unfold twN; rw [if_pos hc101]
                rw [e1] at hk5
                rw [e1, e2]
                obtain ⟨k, ⟨nk, mk⟩, rfl, hxk, hak⟩ := hasB_some hc101
                obtain ⟨bw, offw, capw', csw, hew, ⟨vek, rfl, hvek⟩, hclw, hcellw⟩ := (hk.fr.mono hR5).at hxk
                obtain ⟨rfl, rfl⟩ : qw = some ⟨bw, offw, none⟩ ∧ capw = capw' := by cases hew; exact ⟨rfl, rfl⟩
                have hklt := (List.getElem?_eq_some_iff.1 hxk).1
                rw [hak] at hk5 ⊢
                refine cj_mixg (L := [blk b4 [.slice (some ⟨bw, offw, none⟩) st.length capw, .int .u64 last] 29, blk b6 (.int .i64 what :: .int .i64 (k : Int) :: msgC m ve) 34]) [0, 1, 2, 3, 4, 5, 6, 7] [] [8, 9] _ (by (repeat (first | exact Sub.refl _ | (apply Sub.pick; focus (repeat (first | exact Find.head _ | apply Find.tail))) | apply Sub.drop | exact Sub.tailApp _ _))) (by kernel_rfl) (by kernel_rfl) (by kernel_rfl) rfl ?_
                first | refine fj_val rfl rfl rfl (wn0 rfl) (fun R1 hR1 G => (y_loads_blk ⟨Try.isAgg29, Try.sizeOf29⟩ rfl (by ((repeat (first | exact Find.head _ | apply Find.tail)); done)) rfl rfl)) ?_ | refine fj_val rfl rfl rfl (wn0 rfl) (fun R1 hR1 G => (y_loads_slc ⟨Try.isAgg29, Try.sizeOf29⟩ rfl (by ((repeat (first | exact Find.head _ | apply Find.tail)); done)) rfl rfl (by (first | omega | (dsimp only; omega) | (simp; done) | (simp; omega))))) ?_
                refine fj_val rfl rfl rfl (wn0 rfl) (fun R1 hR1 G => (y_fieldAddr (k := 0) Try.underlying29 rfl (n := 1) (by decide) Try.sizeOf26 rfl)) ?_
                first | refine fj_val rfl rfl rfl (wn0 rfl) (fun R1 hR1 G => (y_load ⟨Try.isAgg26, Try.sizeOf26⟩ rfl (by ((repeat (first | exact Find.head _ | apply Find.tail)); done)) rfl)) ?_ | refine fj_val rfl rfl rfl (wn0 rfl) (fun R1 hR1 G => (y_load_slc ⟨Try.isAgg26, Try.sizeOf26⟩ rfl (by ((repeat (first | exact Find.head _ | apply Find.tail)); done)) rfl)) ?_
                refine fj_val rfl rfl rfl (wn0 rfl) (fun R1 hR1 G => (y_fieldAddr (k := 1) Try.underlying34 rfl (n := 1) (by decide) Try.sizeOf3 rfl)) ?_
                first | refine fj_val rfl rfl rfl (wn0 rfl) (fun R1 hR1 G => (y_load ⟨Try.isAgg3, Try.sizeOf3⟩ rfl (by ((repeat (first | exact Find.head _ | apply Find.tail)); done)) rfl)) ?_ | refine fj_val rfl rfl rfl (wn0 rfl) (fun R1 hR1 G => (y_load_slc ⟨Try.isAgg3, Try.sizeOf3⟩ rfl (by ((repeat (first | exact Find.head _ | apply Find.tail)); done)) rfl)) ?_
                first | refine fj_val rfl rfl rfl (wn0 rfl) (fun R1 hR1 G => (y_indexAddr Try.underlying26 Try.sizeOf43 rfl rfl (by (first | omega | (dsimp only; omega) | (simp; done) | (simp; omega))))) ?_ | refine fj_val rfl rfl rfl (wn0 rfl) (fun R1 hR1 G => (y_index_slc Try.underlying26 Try.sizeOf43 rfl rfl (by ((repeat (first | exact Find.head _ | apply Find.tail)); done)) (by (first | omega | (dsimp only; omega) | (simp; done) | (simp; omega))))) ?_
                refine fj_val rfl rfl rfl (wn0 rfl) (fun R1 hR1 G => (y_fieldAddr (k := 1) Try.underlying43 rfl (n := 10) (by decide) Try.sizeOf32 rfl)) ?_
                refine fj_val rfl rfl rfl (wn0 rfl) (fun R1 hR1 G => (y_loads_ro ⟨Try.isAgg32, Try.sizeOf32⟩ (vs := msgC mk vek) rfl rfl (fun j u hj => by have := hcellw (j + 1) u hj; rw [Nat.add_comm j 1, ← Nat.add_assoc] at this; exact cell_mono (by assumption) this))) ?_
                refine fj_nil ?_
                refine xj_nil ?_
                try simp only [List.cons_append, List.nil_append, List.append_nil]
                refine rj_call (wn0 rfl) rfl Try.call12 rfl (rNetPut_t _ last st (hk.fr.mono hR5) (by omega) (by omega) mk vek hvek) (by (repeat (first | exact Split.nil _ | (apply Split.cons; focus (repeat (first | exact Find.head _ | apply Find.tail)))))) (fun _ _ _ _ h => h.elim) ?_
                rintro r R6 L' hR6 ⟨rfl, wv6, rfl, hw6⟩
                have hwo := hw6.one
                obtain ⟨q6, cap6, rfl, _, _⟩ := hw6.shape
                try simp only [List.cons_append, List.nil_append]
                refine rj_stores ⟨Try.isAgg29, Try.sizeOf29⟩ rfl (wn0 rfl) rfl rfl (by (first | (simp [Value.oneCell']; done) | (intro u hu; simp only [List.mem_cons, List.not_mem_nil, or_false] at hu; rcases hu with rfl | rfl | rfl | rfl <;> first | rfl | assumption))) (by ((repeat (first | exact Find.head _ | apply Find.tail)); done)) (by (simp)) rfl ?_
                refine rj_nil ?_
                refine ej_join hJ34 ((v5, st ++ [(last + 1, mk)], last + 1, css5, .slice q6 (st ++ [(last + 1, mk)]).length cap6, R6)) (⟨Hp.le_trans hR2 (Hp.le_trans hR5 hR6), hk.put (hk.sm (nk, mk) (List.mem_of_getElem? hxk)) hk5 hw6 hR6⟩) (Env.le_cons rfl (Env.le_cons rfl (Env.le_cons rfl (Env.le_cons rfl (Env.le_cons rfl (Env.le_nil _)))))) rfl (by (repeat (first | exact Sub.refl _ | (apply Sub.pick; focus (repeat (first | exact Find.head _ | apply Find.tail))) | apply Sub.drop | exact Sub.tailApp _ _)))
              · (try simp only [decide_eq_true_eq, decide_eq_false_iff_not, Bool.not_eq_true', Bool.not_eq_false', Bool.true_eq_false, Bool.false_eq_true] at hc101); have e1 : twL st last n = st := by unfold twL; rw [hc101]; rfl
                have e2 : twN st last n = last := by unfold twN; rw [hc101]; rfl
                rw [e1] at hk5
                rw [e1, e2]
                refine cj_skip ?_
                refine ej_join hJ34 ((v5, st, last, css5, .slice qw st.length capw, R5)) (⟨Hp.le_trans hR2 hR5, hk5, hk.fr.mono hR5, hk.sm, by dsimp only; omega, hk.l0, by dsimp only; omega⟩) (Env.le_cons rfl (Env.le_cons rfl (Env.le_cons rfl (Env.le_cons rfl (Env.le_cons rfl (Env.le_nil _)))))) rfl (by (repeat (first | exact Sub.refl _ | (apply Sub.pick; focus (repeat (first | exact Find.head _ | apply Find.tail))) | apply Sub.drop | exact Sub.tailApp _ _)))
            · try simp only [decide_eq_true_eq, decide_eq_false_iff_not, Bool.not_eq_true', Bool.not_eq_false', Bool.true_eq_false, Bool.false_eq_true] at hc93
              refine cj_seq (fun K38 hK38 => ?_)
              refine cj_region ?_
              refine rj_val (wn0 rfl) rfl rfl (y_eql rfl rfl) ?_
              refine rj_val (wn0 rfl) rfl rfl (y_assign rfl) ?_
              refine rj_nil ?_
              refine hK38 _ _ _ ?_
              refine cj_env (Env.le_cons (t := 3) rfl (Env.le_cons (t := 4) rfl (Env.le_cons (t := 6) rfl (Env.le_cons (t := 7) rfl (Env.le_cons (t := 25) rfl (Env.le_cons (t := 26) rfl (Env.le_cons (t := 27) rfl (Env.le_cons (t := 40) rfl (Env.le_cons (t := 111) rfl (Env.le_nil _)))))))))) ?_
              refine cj_cond rfl (fun hc111 => ?_) (fun hc111 => ?_)
              · try simp only [decide_eq_true_eq, decide_eq_false_iff_not, Bool.not_eq_true', Bool.not_eq_false', Bool.true_eq_false, Bool.false_eq_true] at hc111
                refine cj_seq (fun K40 hK40 => ?_)
                refine cj_seq (fun K41 hK41 => ?_)
                refine cj_region ?_
                refine rj_val (wn0 rfl) rfl rfl (y_move rfl) ?_
                refine rj_val (wn0 rfl) rfl rfl (y_fieldAddr (k := 1) Try.underlying34 rfl (n := 1) (by decide) Try.sizeOf3 rfl) ?_
                first | refine rj_val (wn0 rfl) rfl rfl (y_load ⟨Try.isAgg3, Try.sizeOf3⟩ rfl (by ((repeat (first | exact Find.head _ | apply Find.tail)); done)) rfl) ?_ | refine rj_val (wn0 rfl) rfl rfl (y_load_slc ⟨Try.isAgg3, Try.sizeOf3⟩ rfl (by ((repeat (first | exact Find.head _ | apply Find.tail)); done)) rfl) ?_
                refine rj_call (wn0 rfl) rfl Try.call17 rfl (netDrop_t bn v last st css hk.els (by omega) n) (by (repeat (first | exact Split.nil _ | (apply Split.cons; focus (repeat (first | exact Find.head _ | apply Find.tail)))))) (fun _ _ _ _ h => h.elim) ?_
                rintro r R5 L' hR5 ⟨rfl, rfl, v5, css5, hk5, rfl⟩
                try simp only [List.cons_append, List.nil_append]
                refine rj_val (wn0 rfl) rfl rfl (y_move rfl) ?_
                refine rj_val (wn0 rfl) rfl rfl (y_bneq Try.underlying4 rfl rfl) ?_
                refine rj_eq 118 rfl (v' := .bool false) (by simp) ?_
                refine rj_nil ?_
                refine hK41 _ _ _ ?_
                refine cj_env (Env.le_cons (t := 3) rfl (Env.le_cons (t := 4) rfl (Env.le_cons (t := 6) rfl (Env.le_cons (t := 25) rfl (Env.le_cons (t := 26) rfl (Env.le_cons (t := 27) rfl (Env.le_cons (t := 118) rfl (Env.le_nil _)))))))) ?_
                refine cj_cond_f rfl ?_
                refine cj_skip ?_
                refine hK40 _ _ _ ?_
                refine cj_region ?_
                first | refine rj_val (wn0 rfl) rfl rfl (y_loads_blk ⟨Try.isAgg29, Try.sizeOf29⟩ rfl (by ((repeat (first | exact Find.head _ | apply Find.tail)); done)) rfl rfl) ?_ | refine rj_val (wn0 rfl) rfl rfl (y_loads_slc ⟨Try.isAgg29, Try.sizeOf29⟩ rfl (by ((repeat (first | exact Find.head _ | apply Find.tail)); done)) rfl rfl (by (first | omega | (dsimp only; omega) | (simp; done) | (simp; omega)))) ?_
                refine rj_val (wn0 rfl) rfl rfl (y_fieldAddr (k := 1) Try.underlying34 rfl (n := 1) (by decide) Try.sizeOf3 rfl) ?_
                first | refine rj_val (wn0 rfl) rfl rfl (y_load ⟨Try.isAgg3, Try.sizeOf3⟩ rfl (by ((repeat (first | exact Find.head _ | apply Find.tail)); done)) rfl) ?_ | refine rj_val (wn0 rfl) rfl rfl (y_load_slc ⟨Try.isAgg3, Try.sizeOf3⟩ rfl (by ((repeat (first | exact Find.head _ | apply Find.tail)); done)) rfl) ?_
                refine rj_call (wn0 rfl) rfl Try.call15 rfl (rNetDrop_t _ last st hk.fr (by omega) n) (by (repeat (first | exact Split.nil _ | (apply Split.cons; focus (repeat (first | exact Find.head _ | apply Find.tail)))))) (fun _ _ _ _ h => h.elim) ?_
                rintro r R6 L' hR6 ⟨rfl, wv6, rfl, hw6⟩
                have hwo := hw6.one
                obtain ⟨q6, cap6, rfl, _, _⟩ := hw6.shape
                try simp only [List.cons_append, List.nil_append]
                refine rj_stores ⟨Try.isAgg29, Try.sizeOf29⟩ rfl (wn0 rfl) rfl rfl (by (first | (simp [Value.oneCell']; done) | (intro u hu; simp only [List.mem_cons, List.not_mem_nil, or_false] at hu; rcases hu with rfl | rfl | rfl | rfl <;> first | rfl | assumption))) (by ((repeat (first | exact Find.head _ | apply Find.tail)); done)) (by (simp)) rfl ?_
                refine rj_nil ?_
                refine ej_join hJ34 ((v5, dropL st n, last, css5, .slice q6 (dropL st n).length cap6, R6)) (⟨Hp.le_trans hR2 (Hp.le_trans hR5 hR6), hk.dropped hk5 hw6 hR6⟩) (Env.le_cons rfl (Env.le_cons rfl (Env.le_cons rfl (Env.le_cons rfl (Env.le_cons rfl (Env.le_nil _)))))) rfl (by (repeat (first | exact Sub.refl _ | (apply Sub.pick; focus (repeat (first | exact Find.head _ | apply Find.tail))) | apply Sub.drop | exact Sub.tailApp _ _)))
              · try simp only [decide_eq_true_eq, decide_eq_false_iff_not, Bool.not_eq_true', Bool.not_eq_false', Bool.true_eq_false, Bool.false_eq_true] at hc111
                refine cj_seq (fun K42 hK42 => ?_)
                refine cj_region ?_
                refine rj_val (wn0 rfl) rfl rfl (y_eql rfl rfl) ?_
                refine rj_val (wn0 rfl) rfl rfl (y_assign rfl) ?_
                refine rj_nil ?_
                refine hK42 _ _ _ ?_
                refine cj_env (Env.le_cons (t := 3) rfl (Env.le_cons (t := 4) rfl (Env.le_cons (t := 6) rfl (Env.le_cons (t := 7) rfl (Env.le_cons (t := 25) rfl (Env.le_cons (t := 26) rfl (Env.le_cons (t := 27) rfl (Env.le_cons (t := 123) rfl (Env.le_nil _))))))))) ?_
                refine cj_cond rfl (fun hc123 => ?_) (fun hc123 => ?_)
                · try simp only [decide_eq_true_eq, decide_eq_false_iff_not, Bool.not_eq_true', Bool.not_eq_false', Bool.true_eq_false, Bool.false_eq_true] at hc123
                  refine cj_seq (fun K44 hK44 => ?_)
                  refine cj_region ?_
                  refine rj_val (wn0 rfl) rfl rfl (y_move rfl) ?_
                  refine rj_val (wn0 rfl) rfl rfl (y_fieldAddr (k := 1) Try.underlying34 rfl (n := 1) (by decide) Try.sizeOf3 rfl) ?_
                  first | refine rj_val (wn0 rfl) rfl rfl (y_load ⟨Try.isAgg3, Try.sizeOf3⟩ rfl (by ((repeat (first | exact Find.head _ | apply Find.tail)); done)) rfl) ?_ | refine rj_val (wn0 rfl) rfl rfl (y_load_slc ⟨Try.isAgg3, Try.sizeOf3⟩ rfl (by ((repeat (first | exact Find.head _ | apply Find.tail)); done)) rfl) ?_
                  refine rj_call (wn0 rfl) rfl Try.call18 rfl (netAt_t bn v last st css hk.els hk.sm n) (by (repeat (first | exact Split.nil _ | (apply Split.cons; focus (repeat (first | exact Find.head _ | apply Find.tail)))))) (fun _ _ _ _ h => h.elim) ?_
                  rintro r R5 L' hR5 ⟨rfl, ve5, rfl, hve5⟩
                  try simp only [List.cons_append, List.nil_append]
                  refine rj_val (wn0 rfl) rfl rfl (y_move rfl) ?_
                  refine rj_val (wn0 rfl) rfl rfl (y_extract rfl rfl) ?_
                  refine rj_val (wn0 rfl) rfl rfl (y_extract rfl rfl) ?_
                  refine rj_val (wn0 rfl) rfl rfl (y_extract rfl rfl) ?_
                  refine rj_alloc (wn0 rfl) rfl Try.zeroValue32 rfl (fun b10 => ?_)
                  refine rj_stores ⟨Try.isAgg32, Try.sizeOf32⟩ rfl (wn0 rfl) rfl rfl (msgE.one (R := R5) (x := (atM st n).2) ⟨_, rfl, hve5⟩) (by ((repeat (first | exact Find.head _ | apply Find.tail)); done)) (by exact Nat.le_refl 10) rfl ?_
                  refine rj_val (wn0 rfl) rfl rfl (y_assign rfl) ?_
                  refine rj_val (wn0 rfl) rfl rfl (y_assign rfl) ?_
                  refine rj_nil ?_
                  refine hK44 _ _ _ ?_
                  refine cj_env (Env.le_cons (t := 3) rfl (Env.le_cons (t := 4) rfl (Env.le_cons (t := 6) rfl (Env.le_cons (t := 7) rfl (Env.le_cons (t := 10) rfl (Env.le_cons (t := 11) rfl (Env.le_cons (t := 12) rfl (Env.le_cons (t := 25) rfl (Env.le_cons (t := 26) rfl (Env.le_cons (t := 27) rfl (Env.le_nil _))))))))))) ?_
                  refine cj_seq (fun K45 hK45 => ?_)
                  refine cj_draw (by kernel_rfl) (by kernel_rfl) ?_
                  refine qj_val (wn0 rfl) rfl rfl (y_move rfl) ?_
                  refine qj_val (wn0 rfl) rfl rfl (y_move rfl) ?_
                  refine qj_val (wn0 rfl) rfl rfl (y_bneq Try.underlying4 rfl rfl) ?_
                  refine qj_eq 135 rfl (v' := .bool false) (by simp) ?_
                  refine qj_val (wn0 rfl) rfl rfl (y_move rfl) ?_
                  refine qj_val (wn1 rfl rfl rfl rfl) rfl rfl (y_move rfl) ?_
                  refine qj_val (wn1 rfl rfl rfl rfl) rfl rfl (y_move rfl) ?_
                  refine qj_part 138 rfl (fun hg138 => ?_) (fun hg138 => ?_)
                  · (try simp only [decide_eq_true_eq, decide_eq_false_iff_not, Bool.not_eq_true', Bool.not_eq_false', Bool.true_eq_false, Bool.false_eq_true] at hg138); obtain ⟨k, ⟨nk, mk⟩, rfl, hxk, hak⟩ := hasB_some hg138
                    obtain ⟨bw, offw, capw', csw, hew, ⟨vek, rfl, hvek⟩, hclw, hcellw⟩ := (hk.fr.mono hR5).at hxk
                    obtain ⟨rfl, rfl⟩ : qw = some ⟨bw, offw, none⟩ ∧ capw = capw' := by cases hew; exact ⟨rfl, rfl⟩
                    have hklt := (List.getElem?_eq_some_iff.1 hxk).1
                    rw [hak] at hve5
                    refine qj_val (wn1 rfl rfl rfl rfl) rfl rfl (y_move rfl) ?_
                    refine qj_val (wn1 rfl rfl rfl rfl) rfl rfl (y_fieldAddr (k := 0) Try.underlying29 rfl (n := 1) (by decide) Try.sizeOf26 rfl) ?_
                    first | refine qj_val (wn1 rfl rfl rfl rfl) rfl rfl (y_load ⟨Try.isAgg26, Try.sizeOf26⟩ rfl (by ((repeat (first | exact Find.head _ | apply Find.tail)); done)) rfl) ?_ | refine qj_val (wn1 rfl rfl rfl rfl) rfl rfl (y_load_slc ⟨Try.isAgg26, Try.sizeOf26⟩ rfl (by ((repeat (first | exact Find.head _ | apply Find.tail)); done)) rfl) ?_
                    refine qj_val (wn1 rfl rfl rfl rfl) rfl rfl (y_fieldAddr (k := 1) Try.underlying34 rfl (n := 1) (by decide) Try.sizeOf3 rfl) ?_
                    first | refine qj_val (wn1 rfl rfl rfl rfl) rfl rfl (y_load ⟨Try.isAgg3, Try.sizeOf3⟩ rfl (by ((repeat (first | exact Find.head _ | apply Find.tail)); done)) rfl) ?_ | refine qj_val (wn1 rfl rfl rfl rfl) rfl rfl (y_load_slc ⟨Try.isAgg3, Try.sizeOf3⟩ rfl (by ((repeat (first | exact Find.head _ | apply Find.tail)); done)) rfl) ?_
                    first | refine qj_val (wn1 rfl rfl rfl rfl) rfl rfl (y_indexAddr Try.underlying26 Try.sizeOf43 rfl rfl (by (first | omega | (dsimp only; omega) | (simp; done) | (simp; omega)))) ?_ | refine qj_val (wn1 rfl rfl rfl rfl) rfl rfl (y_index_slc Try.underlying26 Try.sizeOf43 rfl rfl (by ((repeat (first | exact Find.head _ | apply Find.tail)); done)) (by (first | omega | (dsimp only; omega) | (simp; done) | (simp; omega)))) ?_
                    refine qj_val (wn1 rfl rfl rfl rfl) rfl rfl (y_fieldAddr (k := 0) Try.underlying43 rfl (n := 1) (by decide) Try.sizeOf27 rfl) ?_
                    refine qj_val (wn1 rfl rfl rfl rfl) rfl rfl (y_load_ro ⟨Try.isAgg27, Try.sizeOf27⟩ rfl (hcellw 0 _ rfl)) ?_
                    refine qj_val (wn1 rfl rfl rfl rfl) rfl rfl (y_neq rfl rfl) ?_
                    refine qj_eq 147 rfl (v' := .bool false) (by simp [hak]) ?_
                    refine qj_val (wn1 rfl rfl rfl rfl) rfl rfl (y_move rfl) ?_
                    refine qj_val (wn1 rfl rfl rfl rfl) rfl rfl (y_loads_blk (vs := msgC (atM st k).2 ve5) ⟨Try.isAgg32, Try.sizeOf32⟩ rfl (by ((repeat (first | exact Find.head _ | apply Find.tail)); done)) rfl rfl) ?_
                    refine qj_val (wn1 rfl rfl rfl rfl) rfl rfl (y_fieldAddr (k := 0) Try.underlying29 rfl (n := 1) (by decide) Try.sizeOf26 rfl) ?_
                    first | refine qj_val (wn1 rfl rfl rfl rfl) rfl rfl (y_load ⟨Try.isAgg26, Try.sizeOf26⟩ rfl (by ((repeat (first | exact Find.head _ | apply Find.tail)); done)) rfl) ?_ | refine qj_val (wn1 rfl rfl rfl rfl) rfl rfl (y_load_slc ⟨Try.isAgg26, Try.sizeOf26⟩ rfl (by ((repeat (first | exact Find.head _ | apply Find.tail)); done)) rfl) ?_
                    refine qj_val (wn1 rfl rfl rfl rfl) rfl rfl (y_fieldAddr (k := 1) Try.underlying34 rfl (n := 1) (by decide) Try.sizeOf3 rfl) ?_
                    first | refine qj_val (wn1 rfl rfl rfl rfl) rfl rfl (y_load ⟨Try.isAgg3, Try.sizeOf3⟩ rfl (by ((repeat (first | exact Find.head _ | apply Find.tail)); done)) rfl) ?_ | refine qj_val (wn1 rfl rfl rfl rfl) rfl rfl (y_load_slc ⟨Try.isAgg3, Try.sizeOf3⟩ rfl (by ((repeat (first | exact Find.head _ | apply Find.tail)); done)) rfl) ?_
                    first | refine qj_val (wn1 rfl rfl rfl rfl) rfl rfl (y_indexAddr Try.underlying26 Try.sizeOf43 rfl rfl (by (first | omega | (dsimp only; omega) | (simp; done) | (simp; omega)))) ?_ | refine qj_val (wn1 rfl rfl rfl rfl) rfl rfl (y_index_slc Try.underlying26 Try.sizeOf43 rfl rfl (by ((repeat (first | exact Find.head _ | apply Find.tail)); done)) (by (first | omega | (dsimp only; omega) | (simp; done) | (simp; omega)))) ?_
                    refine qj_val (wn1 rfl rfl rfl rfl) rfl rfl (y_fieldAddr (k := 1) Try.underlying43 rfl (n := 10) (by decide) Try.sizeOf32 rfl) ?_
                    refine qj_val (wn1 rfl rfl rfl rfl) rfl rfl (y_loads_ro ⟨Try.isAgg32, Try.sizeOf32⟩ (vs := msgC mk vek) rfl rfl (fun j u hj => by have := hcellw (j + 1) u hj; rw [Nat.add_comm j 1, ← Nat.add_assoc] at this; exact this)) ?_
                    refine qj_val (wn1 rfl rfl rfl rfl) rfl rfl (y_call Try.call14 rfl (msgSame_q (atM st k).2 mk _ _ (by rw [hak]; exact hve5) hvek) (by (repeat (first | exact Split.nil _ | (apply Split.cons; focus (repeat (first | exact Find.head _ | apply Find.tail))))))) ?_
                    refine qj_eq 157 rfl (v' := .bool true) (by simp [hak]) ?_
                    refine qj_val (wn1 rfl rfl rfl rfl) rfl rfl (y_not rfl) ?_
                    refine qj_val (wn1 rfl rfl rfl rfl) rfl rfl (y_pick_f rfl rfl) ?_
                    refine qj_val (wn1 rfl rfl rfl rfl) rfl rfl (y_pick_t rfl rfl) ?_
                    refine qj_val (wn0 rfl) rfl rfl (y_pick_f rfl rfl) ?_
                    refine qj_nil ?_
                    refine hK45 _ _ _ ?_
                    refine cj_env (Env.le_cons (t := 3) rfl (Env.le_cons (t := 4) rfl (Env.le_cons (t := 25) rfl (Env.le_cons (t := 26) rfl (Env.le_cons (t := 27) rfl (Env.le_cons (t := 161) rfl (Env.le_nil _))))))) ?_
                    refine cj_cond_f rfl ?_
                    refine cj_skip ?_
                    refine ej_join hJ34 ((v, st, last, css, .slice (some ⟨bw, offw, none⟩) st.length capw, R5)) (⟨Hp.le_trans hR2 hR5, hk.mono hR5 (by omega)⟩) (Env.le_cons rfl (Env.le_cons rfl (Env.le_cons rfl (Env.le_cons rfl (Env.le_cons rfl (Env.le_nil _)))))) rfl (by (repeat (first | exact Sub.refl _ | (apply Sub.pick; focus (repeat (first | exact Find.head _ | apply Find.tail))) | apply Sub.drop | exact Sub.tailApp _ _)))
                  · try simp only [decide_eq_true_eq, decide_eq_false_iff_not, Bool.not_eq_true', Bool.not_eq_false', Bool.true_eq_false, Bool.false_eq_true] at hg138
                    refine qj_skip (wn2 rfl rfl rfl rfl rfl) rfl rfl ?_
                    refine qj_skip (wn2 rfl rfl rfl rfl rfl) rfl rfl ?_
                    refine qj_skip (wn2 rfl rfl rfl rfl rfl) rfl rfl ?_
                    refine qj_skip (wn2 rfl rfl rfl rfl rfl) rfl rfl ?_
                    refine qj_skip (wn2 rfl rfl rfl rfl rfl) rfl rfl ?_
                    refine qj_skip (wn2 rfl rfl rfl rfl rfl) rfl rfl ?_
                    refine qj_skip (wn2 rfl rfl rfl rfl rfl) rfl rfl ?_
                    refine qj_skip (wn2 rfl rfl rfl rfl rfl) rfl rfl ?_
                    refine qj_skip (wn2 rfl rfl rfl rfl rfl) rfl rfl ?_
                    refine qj_skip (wn2 rfl rfl rfl rfl rfl) rfl rfl ?_
                    refine qj_skip (wn3 rfl rfl rfl rfl) rfl rfl ?_
                    refine qj_skip (wn3 rfl rfl rfl rfl) rfl rfl ?_
                    refine qj_skip (wn3 rfl rfl rfl rfl) rfl rfl ?_
                    refine qj_skip (wn3 rfl rfl rfl rfl) rfl rfl ?_
                    refine qj_skip (wn3 rfl rfl rfl rfl) rfl rfl ?_
                    refine qj_skip (wn3 rfl rfl rfl rfl) rfl rfl ?_
                    refine qj_skip (wn3 rfl rfl rfl rfl) rfl rfl ?_
                    refine qj_skip (wn3 rfl rfl rfl rfl) rfl rfl ?_
                    refine qj_skip (wn3 rfl rfl rfl rfl) rfl rfl ?_
                    refine qj_skip (wn3 rfl rfl rfl rfl) rfl rfl ?_
                    refine qj_skip (wn2 rfl rfl rfl rfl rfl) rfl rfl ?_
                    refine qj_val (wn1 rfl rfl rfl rfl) rfl rfl (y_pick_f rfl rfl) ?_
                    refine qj_val (wn0 rfl) rfl rfl (y_pick_f rfl rfl) ?_
                    refine qj_nil ?_
                    refine hK45 _ _ _ ?_
                    refine cj_env (Env.le_cons (t := 3) rfl (Env.le_cons (t := 4) rfl (Env.le_cons (t := 25) rfl (Env.le_cons (t := 26) rfl (Env.le_cons (t := 27) rfl (Env.le_cons (t := 161) rfl (Env.le_nil _))))))) ?_
                    refine cj_cond_f rfl ?_
                    refine cj_skip ?_
                    refine ej_join hJ34 ((v, st, last, css, .slice qw st.length capw, R5)) (⟨Hp.le_trans hR2 hR5, hk.mono hR5 (by omega)⟩) (Env.le_cons rfl (Env.le_cons rfl (Env.le_cons rfl (Env.le_cons rfl (Env.le_cons rfl (Env.le_nil _)))))) rfl (by (repeat (first | exact Sub.refl _ | (apply Sub.pick; focus (repeat (first | exact Find.head _ | apply Find.tail))) | apply Sub.drop | exact Sub.tailApp _ _)))
                · try simp only [decide_eq_true_eq, decide_eq_false_iff_not, Bool.not_eq_true', Bool.not_eq_false', Bool.true_eq_false, Bool.false_eq_true] at hc123
                  refine cj_skip ?_
                  refine ej_join hJ34 ((v, st, last, css, .slice qw st.length capw, R2)) (⟨hR2, hk.mono (Hp.le_refl _) (by omega)⟩) (Env.le_cons rfl (Env.le_cons rfl (Env.le_cons rfl (Env.le_cons rfl (Env.le_cons rfl (Env.le_nil _)))))) rfl (by (repeat (first | exact Sub.refl _ | (apply Sub.pick; focus (repeat (first | exact Find.head _ | apply Find.tail))) | apply Sub.drop | exact Sub.tailApp _ _)))
    · try simp only [decide_eq_true_eq, decide_eq_false_iff_not, Bool.not_eq_true', Bool.not_eq_false', Bool.true_eq_false, Bool.false_eq_true] at hc28
      refine cj_exit ?_
      refine hK9 _ _ _ ?_
      refine cj_env (Env.le_cons (t := 3) rfl (Env.le_cons (t := 4) rfl (Env.le_nil _))) ?_
      refine cj_seq (fun K46 hK46 => ?_)
      refine cj_seq (fun K47 hK47 => ?_)
      refine cj_region ?_
      obtain ⟨qw, capw, rfl, hcapw, hcmw⟩ := hk.fr.shape
      have hcmw2 : capw ≤ 9223372036854775807 := by simp only [maxLen] at hcmw; omega
      refine rj_val (wn0 rfl) rfl rfl (y_fieldAddr (k := 0) Try.underlying29 rfl (n := 1) (by decide) Try.sizeOf26 rfl) ?_
      first | refine rj_val (wn0 rfl) rfl rfl (y_load ⟨Try.isAgg26, Try.sizeOf26⟩ rfl (by ((repeat (first | exact Find.head _ | apply Find.tail)); done)) rfl) ?_ | refine rj_val (wn0 rfl) rfl rfl (y_load_slc ⟨Try.isAgg26, Try.sizeOf26⟩ rfl (by ((repeat (first | exact Find.head _ | apply Find.tail)); done)) rfl) ?_
      first | refine rj_val (wn0 rfl) rfl rfl (y_len_sl Try.underlying26 rfl) ?_ | refine rj_val (wn0 rfl) rfl rfl (y_len_slc Try.underlying26 rfl (by ((repeat (first | exact Find.head _ | apply Find.tail)); done))) ?_
      refine rj_val (wn0 rfl) rfl rfl (y_move rfl) ?_
      refine rj_nil ?_
      refine hK47 _ _ _ ?_
      refine cj_block ?_
      refine cj_env (E' := (fun (x : Nat × Hp) => [(3, .pointer (some ⟨bn, 0, none⟩)), (170, .slice qw st.length capw), (171, .int .i64 (st.length : Int)), (172, .int .i64 (x.1 : Int))]) (0, R2)) (Env.le_cons rfl (Env.le_cons rfl (Env.le_cons rfl (Env.le_cons rfl (Env.le_nil _))))) ?_
      refine cj_sub (M := (fun (x : Nat × Hp) => netB bn v last :: netS v st css :: F) (0, R2)) (by (repeat (first | exact Sub.refl _ | (apply Sub.pick; focus (repeat (first | exact Find.head _ | apply Find.tail))) | apply Sub.drop | exact Sub.tailApp _ _))) ?_
      refine cj_loop (fun (x : Nat × Hp) => [(3, .pointer (some ⟨bn, 0, none⟩)), (170, .slice qw st.length capw), (171, .int .i64 (st.length : Int)), (172, .int .i64 (x.1 : Int))]) (fun (x : Nat × Hp) => x.2) (fun (x : Nat × Hp) => netB bn v last :: netS v st css :: F) (fun (x : Nat × Hp) => x.1 ≤ st.length ∧ R2.le x.2) (fun (x : Nat × Hp) => st.length - x.1) (0, R2) (⟨by simp, Hp.le_refl _⟩) ?_
      rintro ⟨j, R5⟩ ⟨hj, hR5⟩
      try dsimp only
      dsimp only at hj hR5
      refine cj_seq (fun K48 hK48 => ?_)
      refine cj_region ?_
      refine rj_val (wn0 rfl) rfl rfl (y_lss rfl rfl) ?_
      refine rj_nil ?_
      refine hK48 _ _ _ ?_
      refine cj_seq (fun K49 hK49 => ?_)
      refine cj_cond rfl (fun hc173 => ?_) (fun hc173 => ?_)
      · try simp only [decide_eq_true_eq, decide_eq_false_iff_not, Bool.not_eq_true', Bool.not_eq_false', Bool.true_eq_false, Bool.false_eq_true] at hc173
        refine cj_skip ?_
        refine hK49 _ _ _ ?_
        refine cj_seq (fun K51 hK51 => ?_)
        refine cj_block ?_
        refine cj_seq (fun K52 hK52 => ?_)
        refine cj_region ?_
        obtain ⟨⟨nk, mk⟩, hxk⟩ : ∃ x, st[j]? = some x := ⟨st[j]'(by omega), by simp⟩
        obtain ⟨bw, offw, capw', csw, hew, ⟨vek, rfl, hvek⟩, hclw, hcellw⟩ := (hk.fr.mono hR5).at hxk
        obtain ⟨rfl, rfl⟩ : qw = some ⟨bw, offw, none⟩ ∧ capw = capw' := by cases hew; exact ⟨rfl, rfl⟩
        obtain ⟨hak, hbk⟩ := atM_some hxk
        refine rj_val (wn0 rfl) rfl rfl (y_move rfl) ?_
        first | refine rj_val (wn0 rfl) rfl rfl (y_indexAddr Try.underlying26 Try.sizeOf43 rfl rfl (by (first | omega | (dsimp only; omega) | (simp; done) | (simp; omega)))) ?_ | refine rj_val (wn0 rfl) rfl rfl (y_index_slc Try.underlying26 Try.sizeOf43 rfl rfl (by ((repeat (first | exact Find.head _ | apply Find.tail)); done)) (by (first | omega | (dsimp only; omega) | (simp; done) | (simp; omega)))) ?_
        refine rj_val (wn0 rfl) rfl rfl ((y_loads_ro ⟨Try.isAgg43, Try.sizeOf43⟩ (vs := oneC (nk, mk) vek) rfl rfl (fun j u hj => hcellw j u hj))) ?_
        refine rj_alloc (wn0 rfl) rfl Try.zeroValue43 rfl (fun b14 => ?_)
        refine rj_val (wn0 rfl) rfl rfl (y_assign rfl) ?_
        refine rj_stores ⟨Try.isAgg43, Try.sizeOf43⟩ rfl (wn0 rfl) rfl rfl (oneE.one (R := R5) (x := (nk, mk)) ⟨vek, rfl, hvek⟩) (by ((repeat (first | exact Find.head _ | apply Find.tail)); done)) (by exact Nat.le_refl 11) rfl ?_
        refine rj_nil ?_
        refine hK52 _ _ _ ?_
        refine cj_env (Env.le_cons (t := 3) rfl (Env.le_cons (t := 13) rfl (Env.le_cons (t := 14) rfl (Env.le_cons (t := 170) rfl (Env.le_cons (t := 171) rfl (Env.le_cons (t := 172) rfl (Env.le_nil _))))))) ?_
        refine cj_seq (fun K53 hK53 => ?_)
        refine cj_region ?_
        refine rj_val (wn0 rfl) rfl rfl (y_move rfl) ?_
        refine rj_val (wn0 rfl) rfl rfl (y_move rfl) ?_
        refine rj_call (wn0 rfl) rfl Try.call18 rfl (netAt_t bn v last st css (hk.els.mono hR5) hk.sm (j : Int)) (by (repeat (first | exact Split.nil _ | (apply Split.cons; focus (repeat (first | exact Find.head _ | apply Find.tail)))))) (fun _ _ _ _ h => h.elim) ?_
        rintro r R6 L' hR6 ⟨rfl, ve6, rfl, hve6⟩
        rw [hak, hbk] at *
        dsimp only at hve6 ⊢
        try simp only [List.cons_append, List.nil_append]
        refine rj_val (wn0 rfl) rfl rfl (y_move rfl) ?_
        refine rj_val (wn0 rfl) rfl rfl (y_extract rfl rfl) ?_
        refine rj_val (wn0 rfl) rfl rfl (y_extract rfl rfl) ?_
        refine rj_val (wn0 rfl) rfl rfl (y_extract rfl rfl) ?_
        refine rj_alloc (wn0 rfl) rfl Try.zeroValue32 rfl (fun b15 => ?_)
        refine rj_stores ⟨Try.isAgg32, Try.sizeOf32⟩ rfl (wn0 rfl) rfl rfl (msgE.one (R := R6) (x := mk) ⟨_, rfl, hve6⟩) (by ((repeat (first | exact Find.head _ | apply Find.tail)); done)) (by exact Nat.le_refl 10) rfl ?_
        refine rj_val (wn0 rfl) rfl rfl (y_assign rfl) ?_
        refine rj_val (wn0 rfl) rfl rfl (y_assign rfl) ?_
        refine rj_nil ?_
        refine hK53 _ _ _ ?_
        refine cj_env (Env.le_cons (t := 3) rfl (Env.le_cons (t := 14) rfl (Env.le_cons (t := 15) rfl (Env.le_cons (t := 16) rfl (Env.le_cons (t := 17) rfl (Env.le_cons (t := 170) rfl (Env.le_cons (t := 171) rfl (Env.le_cons (t := 172) rfl (Env.le_nil _))))))))) ?_
        refine cj_seq (fun K54 hK54 => ?_)
        refine cj_region ?_
        refine rj_val (wn0 rfl) rfl rfl (y_move rfl) ?_
        refine rj_val (wn0 rfl) rfl rfl (y_not rfl) ?_
        refine rj_val (wn0 rfl) rfl rfl (y_move rfl) ?_
        refine rj_val (wn1 rfl rfl rfl rfl) rfl rfl (y_move rfl) ?_
        refine rj_val (wn1 rfl rfl rfl rfl) rfl rfl (y_fieldAddr (k := 0) Try.underlying43 rfl (n := 1) (by decide) Try.sizeOf27 rfl) ?_
        first | refine rj_val (wn1 rfl rfl rfl rfl) rfl rfl (y_load ⟨Try.isAgg27, Try.sizeOf27⟩ rfl (by ((repeat (first | exact Find.head _ | apply Find.tail)); done)) rfl) ?_ | refine rj_val (wn1 rfl rfl rfl rfl) rfl rfl (y_load_slc ⟨Try.isAgg27, Try.sizeOf27⟩ rfl (by ((repeat (first | exact Find.head _ | apply Find.tail)); done)) rfl) ?_
        refine rj_val (wn1 rfl rfl rfl rfl) rfl rfl (y_neq rfl rfl) ?_
        refine rj_eq 190 rfl (v' := .bool false) (by simp) ?_
        refine rj_val (wn0 rfl) rfl rfl (y_pick_f rfl rfl) ?_
        refine rj_val (wn0 rfl) rfl rfl (y_move rfl) ?_
        refine rj_val (wn1 rfl rfl rfl rfl) rfl rfl (y_loads_blk (vs := msgC mk ve6) ⟨Try.isAgg32, Try.sizeOf32⟩ rfl (by ((repeat (first | exact Find.head _ | apply Find.tail)); done)) rfl rfl) ?_
        refine rj_val (wn1 rfl rfl rfl rfl) rfl rfl (y_fieldAddr (k := 1) Try.underlying43 rfl (n := 10) (by decide) Try.sizeOf32 rfl) ?_
        refine rj_val (wn1 rfl rfl rfl rfl) rfl rfl (y_loads_blk (vs := msgC mk vek) ⟨Try.isAgg32, Try.sizeOf32⟩ rfl (by ((repeat (first | exact Find.head _ | apply Find.tail)); done)) rfl rfl) ?_
        refine rj_val (wn1 rfl rfl rfl rfl) rfl rfl (y_call Try.call14 rfl (msgSame_q mk mk _ _ hve6 (hvek.mono hR6)) (by (repeat (first | exact Split.nil _ | (apply Split.cons; focus (repeat (first | exact Find.head _ | apply Find.tail))))))) ?_
        refine rj_eq 196 rfl (v' := .bool true) (by simp) ?_
        refine rj_val (wn1 rfl rfl rfl rfl) rfl rfl (y_not rfl) ?_
        refine rj_val (wn0 rfl) rfl rfl (y_pick_f rfl rfl) ?_
        refine rj_nil ?_
        refine hK54 _ _ _ ?_
        refine cj_env (Env.le_cons (t := 3) rfl (Env.le_cons (t := 170) rfl (Env.le_cons (t := 171) rfl (Env.le_cons (t := 172) rfl (Env.le_cons (t := 198) rfl (Env.le_nil _)))))) ?_
        refine cj_cond_f rfl ?_
        refine cj_skip ?_
        refine hK51 _ _ _ ?_
        refine cj_region ?_
        first | refine rj_val (wn0 rfl) rfl rfl (y_add64 rfl rfl (by (first | omega | (dsimp only; omega) | (simp; done) | (simp; omega)))) ?_ | refine rj_val (wn0 rfl) rfl rfl (y_add rfl rfl) ?_
        refine rj_val (wn0 rfl) rfl rfl (y_move rfl) ?_
        refine rj_nil ?_
        refine ej_on (q' := roundK _ _ _ _ _ _ _) rfl ?_
        refine ej_round ((j + 1, R6)) (⟨by dsimp only; omega, Hp.le_trans hR5 hR6⟩) (by dsimp only; omega) (Env.le_cons rfl (Env.le_cons rfl (Env.le_cons rfl (Env.le_cons rfl (Env.le_nil _))))) rfl (by (repeat (first | exact Sub.refl _ | (apply Sub.pick; focus (repeat (first | exact Find.head _ | apply Find.tail))) | apply Sub.drop | exact Sub.tailApp _ _)))
      · try simp only [decide_eq_true_eq, decide_eq_false_iff_not, Bool.not_eq_true', Bool.not_eq_false', Bool.true_eq_false, Bool.false_eq_true] at hc173
        refine cj_exit ?_
        refine hK46 _ _ _ ?_
        refine cj_env (Env.le_nil _) ?_
        refine cj_seq (fun K55 hK55 => ?_)
        refine cj_region ?_
        refine rj_val (wn0 rfl) rfl rfl (y_assign rfl) ?_
        refine rj_nil ?_
        refine hK55 _ _ _ ?_
        refine cj_ret ?_
        refine hret _ _ _ ?_
        apply ej_ret Try.results3 (.cons (rv_tmp rfl) .nil) _ [] (by first | exact hR0 | exact hR2 | exact Hp.le_trans hR2 hR5 | exact Hp.le_trans hR2 (Hp.le_trans hR5 hR6)) rfl
        case hp => rfl
        case hS => (repeat (first | exact Sub.refl _ | (apply Sub.pick; focus (repeat (first | exact Find.head _ | apply Find.tail))) | apply Sub.drop | exact Sub.tailApp _ _))
end V
end Go.Proofs.Ythdmbdbncbdmiaa
