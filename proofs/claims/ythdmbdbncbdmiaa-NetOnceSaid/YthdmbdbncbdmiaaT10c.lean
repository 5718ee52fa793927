/- The program's net, walked: lost, taken, doubled; places. -/
import Derived.Test.YthdmbdbncbdmiaaT10b
set_option linter.unusedSimpArgs false
set_option linter.unusedVariables false
set_option maxRecDepth 100000
namespace Go.Proofs.Ythdmbdbncbdmiaa
open Go.RowKit
namespace V
set_option maxHeartbeats 4000000
theorem Els.eraseIdx {α : Type} {T : Elt α} {R : Hp} {l : List α} {css : List (List Value)} (k : Els T R l css) (i : Nat) : Els T R (l.eraseIdx i) (css.eraseIdx i) := by
  rw [List.eraseIdx_eq_take_drop_succ, List.eraseIdx_eq_take_drop_succ]
  exact (k.take i).app (k.drop (i + 1))
theorem erase_flat {α : Type} {T : Elt α} {R : Hp} {l : List α} {css : List (List Value)} (k : Els T R l css) (i : Nat) : css.flatten.take (i * T.sz) ++ css.flatten.drop ((i + 1) * T.sz) = (css.eraseIdx i).flatten := by
  rw [ftake i k.len, fdrop (i + 1) k.len, List.eraseIdx_eq_take_drop_succ, List.flatten_append]
theorem hasB_lt {st : List One1} {i : Int} (h0 : ¬ i < 0) (h1 : ¬ (st.length : Int) ≤ i) : ∃ n : Nat, i = n ∧ n < st.length ∧ hasB st i = true := by
  obtain ⟨n, rfl⟩ := Int.eq_ofNat_of_zero_le (show 0 ≤ i by omega)
  exact ⟨n, rfl, by omega, by unfold hasB; simp; omega⟩
theorem netDrop_t {R : Hp} (b : Nat) (v : Value) (last : Int) (st : List One1) (css : List (List Value)) (hk : Els oneE R st css) (hst : st.length ≤ 1000000) (i : Int) :
    Tri Try.prog 17 [.pointer (some ⟨b, 0, none⟩), .int .i64 i] R [netB b v last, netS v st css]
      (fun r R' L' => R = R' ∧ r = .bool (hasB st i) ∧ ∃ v' css', Els oneE R' (dropL st i) css' ∧ L' = [netB b v' last, netS v' (dropL st i) css']) := by
  refine tri_of Try.func17 rfl Try.ntmps17 rfl (fun σ F Q hret hend hpan => ?_)
  try simp only [List.cons_append, List.nil_append]
  refine cj_env (Env.le_cons (t := 0) rfl (Env.le_cons (t := 1) rfl (Env.le_nil _))) ?_
  refine cj_seq (fun K1 hK1 => ?_)
  refine cj_region ?_
  refine rj_val (wn0 rfl) rfl rfl (y_assign rfl) ?_
  refine rj_nil ?_
  refine hK1 _ _ _ ?_
  refine cj_seq (fun K2 hK2 => ?_)
  refine cj_seq (fun K3 hK3 => ?_)
  refine cj_region ?_
  refine rj_val (wn0 rfl) rfl rfl (y_move rfl) ?_
  refine rj_val (wn0 rfl) rfl rfl (y_lss rfl rfl) ?_
  refine rj_val (wn0 rfl) rfl rfl (y_move rfl) ?_
  refine rj_part 7 rfl (fun hg7 => ?_) (fun hg7 => ?_)
  · try simp only [decide_eq_true_eq, decide_eq_false_iff_not, Bool.not_eq_true', Bool.not_eq_false', Bool.true_eq_false, Bool.false_eq_true] at hg7
    refine rj_skip (wn2 rfl rfl rfl rfl rfl) rfl rfl ?_
    refine rj_skip (wn2 rfl rfl rfl rfl rfl) rfl rfl ?_
    refine rj_skip (wn2 rfl rfl rfl rfl rfl) rfl rfl ?_
    refine rj_skip (wn2 rfl rfl rfl rfl rfl) rfl rfl ?_
    refine rj_val (wn0 rfl) rfl rfl (y_pick_t rfl rfl) ?_
    refine rj_nil ?_
    refine hK3 _ _ _ ?_
    refine cj_env (Env.le_cons (t := 0) rfl (Env.le_cons (t := 1) rfl (Env.le_cons (t := 12) rfl (Env.le_nil _)))) ?_
    refine cj_cond_t rfl ?_
    refine cj_seq (fun K4 hK4 => ?_)
    refine cj_region ?_
    refine rj_val (wn0 rfl) rfl rfl (y_assign rfl) ?_
    refine rj_nil ?_
    refine hK4 _ _ _ ?_
    refine cj_env (Env.le_cons (t := 4) rfl (Env.le_nil _)) ?_
    refine cj_ret ?_
    refine hret _ _ _ ?_
    apply ej_ret Try.results17 (.cons (rv_tmp rfl) .nil) _ [netB b v last, netS v st css] (by (first | exact Hp.le_refl _ | assumption | exact Hp.le_trans ‹_› ‹_›)) rfl
    case hp =>
      have hb : hasB st i = false := by unfold hasB; simp; omega
      rw [(atM_none hb).2, hb]; exact ⟨rfl, rfl, v, css, hk, rfl⟩
    case hS => (repeat (first | exact Sub.refl _ | (apply Sub.pick; focus (repeat (first | exact Find.head _ | apply Find.tail))) | apply Sub.drop | exact Sub.tailApp _ _))
  · try simp only [decide_eq_true_eq, decide_eq_false_iff_not, Bool.not_eq_true', Bool.not_eq_false', Bool.true_eq_false, Bool.false_eq_true] at hg7
    refine rj_val (wn1 rfl rfl rfl rfl) rfl rfl (y_move rfl) ?_
    refine rj_val (wn1 rfl rfl rfl rfl) rfl rfl (y_move rfl) ?_
    refine rj_val (wn1 rfl rfl rfl rfl) rfl rfl (y_call Try.call19 rfl (netLen_q b v last st css) (by (repeat (first | exact Split.nil _ | (apply Split.cons; focus (repeat (first | exact Find.head _ | apply Find.tail))))))) ?_
    refine rj_val (wn1 rfl rfl rfl rfl) rfl rfl (y_geq rfl rfl) ?_
    refine rj_val (wn0 rfl) rfl rfl (y_pick_f rfl rfl) ?_
    refine rj_nil ?_
    refine hK3 _ _ _ ?_
    refine cj_env (Env.le_cons (t := 0) rfl (Env.le_cons (t := 1) rfl (Env.le_cons (t := 12) rfl (Env.le_nil _)))) ?_
    refine cj_cond rfl (fun hc12 => ?_) (fun hc12 => ?_)
    · try simp only [decide_eq_true_eq, decide_eq_false_iff_not, Bool.not_eq_true', Bool.not_eq_false', Bool.true_eq_false, Bool.false_eq_true] at hc12
      refine cj_seq (fun K6 hK6 => ?_)
      refine cj_region ?_
      refine rj_val (wn0 rfl) rfl rfl (y_assign rfl) ?_
      refine rj_nil ?_
      refine hK6 _ _ _ ?_
      refine cj_env (Env.le_cons (t := 4) rfl (Env.le_nil _)) ?_
      refine cj_ret ?_
      refine hret _ _ _ ?_
      apply ej_ret Try.results17 (.cons (rv_tmp rfl) .nil) _ [netB b v last, netS v st css] (by (first | exact Hp.le_refl _ | assumption | exact Hp.le_trans ‹_› ‹_›)) rfl
      case hp =>
        have hb : hasB st i = false := by unfold hasB; simp; omega
        rw [(atM_none hb).2, hb]; exact ⟨rfl, rfl, v, css, hk, rfl⟩
      case hS => (repeat (first | exact Sub.refl _ | (apply Sub.pick; focus (repeat (first | exact Find.head _ | apply Find.tail))) | apply Sub.drop | exact Sub.tailApp _ _))
    · try simp only [decide_eq_true_eq, decide_eq_false_iff_not, Bool.not_eq_true', Bool.not_eq_false', Bool.true_eq_false, Bool.false_eq_true] at hc12
      refine cj_skip ?_
      refine hK2 _ _ _ ?_
      refine cj_seq (fun K7 hK7 => ?_)
      refine cj_region ?_
      obtain ⟨i, rfl, hi, hb⟩ := hasB_lt (st := st) (i := i) (by (try simp at hg7 hc12); omega) (by (try simp at hg7 hc12); omega)
      have hflat := erase_flat hk i
      have hlen : st.length - 1 = (st.eraseIdx i).length := by rw [List.length_eraseIdx_of_lt hi]
      have hdl : dropL st i = st.eraseIdx i := by unfold dropL; rw [if_pos hb]; rfl
      refine rj_val (wn0 rfl) rfl rfl (y_move rfl) ?_
      refine rj_val (wn0 rfl) rfl rfl (y_move rfl) ?_
      refine rj_val (wn0 rfl) rfl rfl (y_nilCheck rfl) ?_
      refine rj_val (wn0 rfl) rfl rfl (y_fieldAddr (k := 0) Try.underlying63 rfl (n := 1) (by decide) Try.sizeOf61 rfl) ?_
      first | refine rj_val (wn0 rfl) rfl rfl (y_load ⟨Try.isAgg61, Try.sizeOf61⟩ rfl (by ((repeat (first | exact Find.head _ | apply Find.tail)); done)) rfl) ?_ | refine rj_val (wn0 rfl) rfl rfl (y_load_slc ⟨Try.isAgg61, Try.sizeOf61⟩ rfl (by ((repeat (first | exact Find.head _ | apply Find.tail)); done)) rfl) ?_
      refine rj_val (wn0 rfl) rfl rfl (y_move rfl) ?_
      refine rj_val (wn0 rfl) rfl rfl (y_move rfl) ?_
      first | refine rj_val (wn0 rfl) rfl rfl (y_add64 rfl rfl (by (first | omega | (dsimp only; omega) | (simp; done) | (simp; omega)))) ?_ | refine rj_val (wn0 rfl) rfl rfl (y_add rfl rfl) ?_
      refine rj_eq 20 rfl (v' := .int .i64 ((i + 1 : Nat) : Int)) (by congr 1) ?_
      refine rj_call (wn0 rfl) rfl Try.call26 rfl (del_t v st.length css.flatten i hi hk.one) (by (repeat (first | exact Split.nil _ | (apply Split.cons; focus (repeat (first | exact Find.head _ | apply Find.tail)))))) (fun _ _ _ _ h => h.elim) ?_
      rintro r R' L' hR ⟨rfl, hro, rfl⟩
      rw [show css.flatten.take (i * 11) ++ css.flatten.drop ((i + 1) * 11) = (css.eraseIdx i).flatten from hflat, hlen]
      try simp only [List.cons_append, List.nil_append]
      refine rj_val (wn0 rfl) rfl rfl (y_nilCheck rfl) ?_
      refine rj_val (wn0 rfl) rfl rfl (y_fieldAddr (k := 0) Try.underlying63 rfl (n := 1) (by decide) Try.sizeOf61 rfl) ?_
      refine rj_store ⟨Try.isAgg61, Try.sizeOf61⟩ (wn0 rfl) rfl rfl (by (first | rfl | assumption | (apply cutV_one; assumption))) (by ((repeat (first | exact Find.head _ | apply Find.tail)); done)) rfl rfl ?_
      refine rj_nil ?_
      refine hK7 _ _ _ ?_
      refine cj_env (Env.le_nil _) ?_
      refine cj_seq (fun K8 hK8 => ?_)
      refine cj_region ?_
      refine rj_val (wn0 rfl) rfl rfl (y_assign rfl) ?_
      refine rj_nil ?_
      refine hK8 _ _ _ ?_
      refine cj_ret ?_
      refine hret _ _ _ ?_
      apply ej_ret Try.results17 (.cons (rv_tmp rfl) .nil) _ [netB b r last, netS r (st.eraseIdx i) (css.eraseIdx i)] (by (first | exact Hp.le_refl _ | assumption | exact Hp.le_trans ‹_› ‹_›)) rfl
      case hp => rw [hdl, hb]; exact ⟨rfl, rfl, r, _, hk.eraseIdx i, rfl⟩
      case hS => (repeat (first | exact Sub.refl _ | (apply Sub.pick; focus (repeat (first | exact Find.head _ | apply Find.tail))) | apply Sub.drop | exact Sub.tailApp _ _))
theorem netTake_t {R : Hp} (b : Nat) (v : Value) (last : Int) (st : List One1) (css : List (List Value)) (hk : Els oneE R st css) (hsm : smallS st) (hst : st.length ≤ 1000000) (i : Int) :
    Tri Try.prog 13 [.pointer (some ⟨b, 0, none⟩), .int .i64 i] R [netB b v last, netS v st css]
      (fun r R' L' => (∃ ve, r = .tuple #[.agg ⟨msgC (atM st i).2 ve⟩, .bool (hasB st i)] ∧ FrX entE R' (atM st i).2.es ve) ∧ ∃ v' css', Els oneE R' (dropL st i) css' ∧ L' = [netB b v' last, netS v' (dropL st i) css']) := by
  refine tri_of Try.func13 rfl Try.ntmps13 rfl (fun σ F Q hret hend hpan => ?_)
  try simp only [List.cons_append, List.nil_append]
  refine cj_env (Env.le_cons (t := 0) rfl (Env.le_cons (t := 1) rfl (Env.le_nil _))) ?_
  refine cj_seq (fun K1 hK1 => ?_)
  refine cj_region ?_
  refine rj_alloc (wn0 rfl) rfl Try.zeroValue32 rfl (fun bo => ?_)
  refine rj_val (wn0 rfl) rfl rfl (y_assign rfl) ?_
  refine rj_nil ?_
  refine hK1 _ _ _ ?_
  refine cj_seq (fun K2 hK2 => ?_)
  refine cj_region ?_
  refine rj_val (wn0 rfl) rfl rfl (y_move rfl) ?_
  refine rj_val (wn0 rfl) rfl rfl (y_move rfl) ?_
  refine rj_call (wn0 rfl) rfl Try.call18 rfl (netAt_t b v last st css hk hsm i) (by (repeat (first | exact Split.nil _ | (apply Split.cons; focus (repeat (first | exact Find.head _ | apply Find.tail)))))) (fun _ _ _ _ h => h.elim) ?_
  rintro r R1 L' hR1 ⟨rfl, ve, rfl, hve⟩
  have hk1 := hk.mono hR1
  have hone : ∀ u ∈ msgC (atM st i).2 ve, u.oneCell' = true := msgE.one (R := R1) (x := (atM st i).2) ⟨ve, rfl, hve⟩
  try simp only [List.cons_append, List.nil_append]
  refine rj_val (wn0 rfl) rfl rfl (y_move rfl) ?_
  refine rj_val (wn0 rfl) rfl rfl (y_extract rfl rfl) ?_
  refine rj_val (wn0 rfl) rfl rfl (y_extract rfl rfl) ?_
  refine rj_val (wn0 rfl) rfl rfl (y_extract rfl rfl) ?_
  refine rj_alloc (wn0 rfl) rfl Try.zeroValue32 rfl (fun b6 => ?_)
  refine rj_stores ⟨Try.isAgg32, Try.sizeOf32⟩ rfl (wn0 rfl) rfl rfl hone (by ((repeat (first | exact Find.head _ | apply Find.tail)); done)) (by exact Nat.le_refl 10) rfl ?_
  refine rj_val (wn0 rfl) rfl rfl (y_assign rfl) ?_
  refine rj_val (wn0 rfl) rfl rfl (y_assign rfl) ?_
  refine rj_nil ?_
  refine hK2 _ _ _ ?_
  refine cj_env (Env.le_cons (t := 0) rfl (Env.le_cons (t := 1) rfl (Env.le_cons (t := 4) rfl (Env.le_cons (t := 6) rfl (Env.le_cons (t := 8) rfl (Env.le_nil _)))))) ?_
  refine cj_seq (fun K3 hK3 => ?_)
  refine cj_mixs (L := [blk b6 (msgC (atM st i).2 ve) 32]) [0, 1, 2, 3, 4] [5, 6, 7] [8] _ noX_ok (by (repeat (first | exact Sub.refl _ | (apply Sub.pick; focus (repeat (first | exact Find.head _ | apply Find.tail))) | apply Sub.drop | exact Sub.tailApp _ _))) (by kernel_rfl) (by kernel_rfl) (by kernel_rfl) rfl ?_
  refine fj_val rfl rfl rfl (wn0 rfl) (fun R1 hR1 G => (y_loads_blk (vs := msgC (atM st i).2 ve) ⟨Try.isAgg32, Try.sizeOf32⟩ rfl (by ((repeat (first | exact Find.head _ | apply Find.tail)); done)) rfl rfl)) ?_
  refine fj_val rfl rfl rfl (wn0 rfl) (fun R1 hR1 G => (y_move rfl)) ?_
  refine fj_val rfl rfl rfl (wn0 rfl) (fun R1 hR1 G => (y_move rfl)) ?_
  refine fj_part 18 rfl (fun hg18 => ?_) (fun hg18 => ?_)
  · rw [hg18]
    try simp only [decide_eq_true_eq, decide_eq_false_iff_not, Bool.not_eq_true', Bool.not_eq_false', Bool.true_eq_false, Bool.false_eq_true] at hg18
    refine fj_val rfl rfl rfl (wn1 rfl rfl rfl rfl) (fun R1 hR1 G => (y_move rfl)) ?_
    refine fj_val rfl rfl rfl (wn1 rfl rfl rfl rfl) (fun R1 hR1 G => (y_move rfl)) ?_
    refine fj_nil ?_
    refine xs_all [5] (by kernel_rfl) ⟨?_, trivial⟩
    refine yj_rj rfl ?_
    try simp only [List.cons_append, List.nil_append, List.append_nil]
    refine rj_call (wn1 rfl rfl rfl rfl) rfl Try.call17 rfl (netDrop_t b v last st css hk1 hst i) (by (repeat (first | exact Split.nil _ | (apply Split.cons; focus (repeat (first | exact Find.head _ | apply Find.tail)))))) (fun _ _ _ _ h => h.elim) ?_
    rintro r R2 L' hR2 ⟨rfl, rfl, v2, css2, hk2, rfl⟩
    try simp only [List.cons_append, List.nil_append]
    refine rj_yk (by (first | exact Hp.le_refl _ | assumption | exact Hp.le_trans ‹_› ‹_›)) (by (repeat (first | exact Sub.refl _ | (apply Sub.pick; focus (repeat (first | exact Find.head _ | apply Find.tail))) | apply Sub.drop | exact Sub.tailApp _ _))) ?_
    refine xs_all [6, 7] (by kernel_rfl) ⟨?_, ?_, trivial⟩
    · refine yj_rj rfl ?_
      try simp only [List.cons_append, List.nil_append, List.append_nil]
      refine rj_val (wn0 rfl) rfl rfl (y_pick_t rfl rfl) ?_
      refine rj_yk (by (first | exact Hp.le_refl _ | assumption | exact Hp.le_trans ‹_› ‹_›)) (by (repeat (first | exact Sub.refl _ | (apply Sub.pick; focus (repeat (first | exact Find.head _ | apply Find.tail))) | apply Sub.drop | exact Sub.tailApp _ _))) ?_
      refine xs_all [7] (by kernel_rfl) ⟨?_, trivial⟩
      refine yj_rj rfl ?_
      try simp only [List.cons_append, List.nil_append, List.append_nil]
      refine rj_stores ⟨Try.isAgg32, Try.sizeOf32⟩ rfl (wn0 rfl) rfl rfl hone (by ((repeat (first | exact Find.head _ | apply Find.tail)); done)) (by exact Nat.le_refl 10) rfl ?_
      refine rj_yk (by (first | exact Hp.le_refl _ | assumption | exact Hp.le_trans ‹_› ‹_›)) (by (repeat (first | exact Sub.refl _ | (apply Sub.pick; focus (repeat (first | exact Find.head _ | apply Find.tail))) | apply Sub.drop | exact Sub.tailApp _ _))) ?_
      refine xs_nil ?_
      try simp only [List.cons_append, List.nil_append, List.append_nil]
      refine rj_val (wn0 rfl) rfl rfl (y_assign rfl) ?_
      refine rj_nil ?_
      refine hK3 _ _ _ ?_
      refine cj_env (Env.le_cons (t := 4) rfl (Env.le_cons (t := 5) rfl (Env.le_nil _))) ?_
      refine cj_ret ?_
      refine hret _ _ _ ?_
      apply ej_ret Try.results13 (.cons (rv_cells ⟨Try.isAgg32, Try.sizeOf32⟩ rfl (by ((repeat (first | exact Find.head _ | apply Find.tail)); done)) rfl rfl) (.cons (rv_tmp rfl) .nil)) _ [netB b v2 last, netS v2 (dropL st i) css2] (by (first | exact Hp.le_refl _ | assumption | exact Hp.le_trans ‹_› ‹_›)) rfl
      case hp => exact ⟨⟨ve, rfl, hve⟩, v2, css2, hk2, rfl⟩
      case hS => (repeat (first | exact Sub.refl _ | (apply Sub.pick; focus (repeat (first | exact Find.head _ | apply Find.tail))) | apply Sub.drop | exact Sub.tailApp _ _))
    · refine yj_rj rfl ?_
      try simp only [List.cons_append, List.nil_append, List.append_nil]
      refine rj_stores ⟨Try.isAgg32, Try.sizeOf32⟩ rfl (wn0 rfl) rfl rfl hone (by ((repeat (first | exact Find.head _ | apply Find.tail)); done)) (by exact Nat.le_refl 10) rfl ?_
      refine rj_yk (by (first | exact Hp.le_refl _ | assumption | exact Hp.le_trans ‹_› ‹_›)) (by (repeat (first | exact Sub.refl _ | (apply Sub.pick; focus (repeat (first | exact Find.head _ | apply Find.tail))) | apply Sub.drop | exact Sub.tailApp _ _))) ?_
      refine xs_all [6] (by kernel_rfl) ⟨?_, trivial⟩
      refine yj_rj rfl ?_
      try simp only [List.cons_append, List.nil_append, List.append_nil]
      refine rj_val (wn0 rfl) rfl rfl (y_pick_t rfl rfl) ?_
      refine rj_yk (by (first | exact Hp.le_refl _ | assumption | exact Hp.le_trans ‹_› ‹_›)) (by (repeat (first | exact Sub.refl _ | (apply Sub.pick; focus (repeat (first | exact Find.head _ | apply Find.tail))) | apply Sub.drop | exact Sub.tailApp _ _))) ?_
      refine xs_nil ?_
      try simp only [List.cons_append, List.nil_append, List.append_nil]
      refine rj_val (wn0 rfl) rfl rfl (y_assign rfl) ?_
      refine rj_nil ?_
      refine hK3 _ _ _ ?_
      refine cj_env (Env.le_cons (t := 4) rfl (Env.le_cons (t := 5) rfl (Env.le_nil _))) ?_
      refine cj_ret ?_
      refine hret _ _ _ ?_
      apply ej_ret Try.results13 (.cons (rv_cells ⟨Try.isAgg32, Try.sizeOf32⟩ rfl (by ((repeat (first | exact Find.head _ | apply Find.tail)); done)) rfl rfl) (.cons (rv_tmp rfl) .nil)) _ [netB b v2 last, netS v2 (dropL st i) css2] (by (first | exact Hp.le_refl _ | assumption | exact Hp.le_trans ‹_› ‹_›)) rfl
      case hp => exact ⟨⟨ve, rfl, hve⟩, v2, css2, hk2, rfl⟩
      case hS => (repeat (first | exact Sub.refl _ | (apply Sub.pick; focus (repeat (first | exact Find.head _ | apply Find.tail))) | apply Sub.drop | exact Sub.tailApp _ _))
  · rw [hg18]
    try simp only [decide_eq_true_eq, decide_eq_false_iff_not, Bool.not_eq_true', Bool.not_eq_false', Bool.true_eq_false, Bool.false_eq_true] at hg18
    refine fj_skip rfl rfl rfl (wn2 rfl rfl rfl rfl rfl) ?_
    refine fj_skip rfl rfl rfl (wn2 rfl rfl rfl rfl rfl) ?_
    refine fj_nil ?_
    refine xs_all [5] (by kernel_rfl) ⟨?_, trivial⟩
    refine yj_rj rfl ?_
    try simp only [List.cons_append, List.nil_append, List.append_nil]
    refine rj_skip (wn2 rfl rfl rfl rfl rfl) rfl rfl ?_
    refine rj_yk (by (first | exact Hp.le_refl _ | assumption | exact Hp.le_trans ‹_› ‹_›)) (by (repeat (first | exact Sub.refl _ | (apply Sub.pick; focus (repeat (first | exact Find.head _ | apply Find.tail))) | apply Sub.drop | exact Sub.tailApp _ _))) ?_
    refine xs_all [6, 7] (by kernel_rfl) ⟨?_, ?_, trivial⟩
    · refine yj_rj rfl ?_
      try simp only [List.cons_append, List.nil_append, List.append_nil]
      refine rj_val (wn0 rfl) rfl rfl (y_pick_f rfl rfl) ?_
      refine rj_yk (by (first | exact Hp.le_refl _ | assumption | exact Hp.le_trans ‹_› ‹_›)) (by (repeat (first | exact Sub.refl _ | (apply Sub.pick; focus (repeat (first | exact Find.head _ | apply Find.tail))) | apply Sub.drop | exact Sub.tailApp _ _))) ?_
      refine xs_all [7] (by kernel_rfl) ⟨?_, trivial⟩
      refine yj_rj rfl ?_
      try simp only [List.cons_append, List.nil_append, List.append_nil]
      refine rj_stores ⟨Try.isAgg32, Try.sizeOf32⟩ rfl (wn0 rfl) rfl rfl hone (by ((repeat (first | exact Find.head _ | apply Find.tail)); done)) (by exact Nat.le_refl 10) rfl ?_
      refine rj_yk (by (first | exact Hp.le_refl _ | assumption | exact Hp.le_trans ‹_› ‹_›)) (by (repeat (first | exact Sub.refl _ | (apply Sub.pick; focus (repeat (first | exact Find.head _ | apply Find.tail))) | apply Sub.drop | exact Sub.tailApp _ _))) ?_
      refine xs_nil ?_
      try simp only [List.cons_append, List.nil_append, List.append_nil]
      refine rj_val (wn0 rfl) rfl rfl (y_assign rfl) ?_
      refine rj_nil ?_
      refine hK3 _ _ _ ?_
      refine cj_env (Env.le_cons (t := 4) rfl (Env.le_cons (t := 5) rfl (Env.le_nil _))) ?_
      refine cj_ret ?_
      refine hret _ _ _ ?_
      apply ej_ret Try.results13 (.cons (rv_cells ⟨Try.isAgg32, Try.sizeOf32⟩ rfl (by ((repeat (first | exact Find.head _ | apply Find.tail)); done)) rfl rfl) (.cons (rv_tmp rfl) .nil)) _ [netB b v last, netS v st css] (by (first | exact Hp.le_refl _ | assumption | exact Hp.le_trans ‹_› ‹_›)) rfl
      case hp => rw [(atM_none hg18).2]; exact ⟨⟨ve, by rw [hg18]; rfl, hve⟩, v, css, hk1, rfl⟩
      case hS => (repeat (first | exact Sub.refl _ | (apply Sub.pick; focus (repeat (first | exact Find.head _ | apply Find.tail))) | apply Sub.drop | exact Sub.tailApp _ _))
    · refine yj_rj rfl ?_
      try simp only [List.cons_append, List.nil_append, List.append_nil]
      refine rj_stores ⟨Try.isAgg32, Try.sizeOf32⟩ rfl (wn0 rfl) rfl rfl hone (by ((repeat (first | exact Find.head _ | apply Find.tail)); done)) (by exact Nat.le_refl 10) rfl ?_
      refine rj_yk (by (first | exact Hp.le_refl _ | assumption | exact Hp.le_trans ‹_› ‹_›)) (by (repeat (first | exact Sub.refl _ | (apply Sub.pick; focus (repeat (first | exact Find.head _ | apply Find.tail))) | apply Sub.drop | exact Sub.tailApp _ _))) ?_
      refine xs_all [6] (by kernel_rfl) ⟨?_, trivial⟩
      refine yj_rj rfl ?_
      try simp only [List.cons_append, List.nil_append, List.append_nil]
      refine rj_val (wn0 rfl) rfl rfl (y_pick_f rfl rfl) ?_
      refine rj_yk (by (first | exact Hp.le_refl _ | assumption | exact Hp.le_trans ‹_› ‹_›)) (by (repeat (first | exact Sub.refl _ | (apply Sub.pick; focus (repeat (first | exact Find.head _ | apply Find.tail))) | apply Sub.drop | exact Sub.tailApp _ _))) ?_
      refine xs_nil ?_
      try simp only [List.cons_append, List.nil_append, List.append_nil]
      refine rj_val (wn0 rfl) rfl rfl (y_assign rfl) ?_
      refine rj_nil ?_
      refine hK3 _ _ _ ?_
      refine cj_env (Env.le_cons (t := 4) rfl (Env.le_cons (t := 5) rfl (Env.le_nil _))) ?_
      refine cj_ret ?_
      refine hret _ _ _ ?_
      apply ej_ret Try.results13 (.cons (rv_cells ⟨Try.isAgg32, Try.sizeOf32⟩ rfl (by ((repeat (first | exact Find.head _ | apply Find.tail)); done)) rfl rfl) (.cons (rv_tmp rfl) .nil)) _ [netB b v last, netS v st css] (by (first | exact Hp.le_refl _ | assumption | exact Hp.le_trans ‹_› ‹_›)) rfl
      case hp => rw [(atM_none hg18).2]; exact ⟨⟨ve, by rw [hg18]; rfl, hve⟩, v, css, hk1, rfl⟩
      case hS => (repeat (first | exact Sub.refl _ | (apply Sub.pick; focus (repeat (first | exact Find.head _ | apply Find.tail))) | apply Sub.drop | exact Sub.tailApp _ _))
theorem atM_small {st : List One1} (h : smallS st) (i : Int) : smallM (atM st i).2 := by
  cases hb : hasB st i with
  | false => rw [(atM_none hb).1]; simp [smallM, Msg.zero]
  | true =>
    obtain ⟨n, rfl⟩ := Int.eq_ofNat_of_zero_le (show 0 ≤ i by unfold hasB at hb; simp at hb; omega)
    have hn : n < st.length := by unfold hasB at hb; simp at hb; omega
    rw [(atM_some (x := st[n]) (by simp)).1]
    exact h _ (List.getElem_mem hn)
def twL (st : List One1) (last i : Int) : List One1 := if hasB st i then st ++ numb last [(atM st i).2] else st
def twN (st : List One1) (last i : Int) : Int := if hasB st i then last + 1 else last
theorem netTwice_t {R : Hp} (b : Nat) (v : Value) (last : Int) (st : List One1) (css : List (List Value)) (hk : Els oneE R st css) (hsm : smallS st) (hst : st.length ≤ 100000) (hl : 0 ≤ last ∧ last ≤ 100000) (i : Int) :
    Tri Try.prog 16 [.pointer (some ⟨b, 0, none⟩), .int .i64 i] R [netB b v last, netS v st css]
      (fun r R' L' => r = .bool (hasB st i) ∧ ∃ v' css', Els oneE R' (twL st last i) css' ∧ L' = [netB b v' (twN st last i), netS v' (twL st last i) css']) := by
  refine tri_of Try.func16 rfl Try.ntmps16 rfl (fun σ F Q hret hend hpan => ?_)
  try simp only [List.cons_append, List.nil_append]
  refine cj_env (Env.le_cons (t := 0) rfl (Env.le_cons (t := 1) rfl (Env.le_nil _))) ?_
  refine cj_seq (fun K1 hK1 => ?_)
  refine cj_region ?_
  refine rj_val (wn0 rfl) rfl rfl (y_assign rfl) ?_
  refine rj_nil ?_
  refine hK1 _ _ _ ?_
  refine cj_seq (fun K2 hK2 => ?_)
  refine cj_region ?_
  refine rj_val (wn0 rfl) rfl rfl (y_move rfl) ?_
  refine rj_val (wn0 rfl) rfl rfl (y_move rfl) ?_
  refine rj_call (wn0 rfl) rfl Try.call18 rfl (netAt_t b v last st css hk hsm i) (by (repeat (first | exact Split.nil _ | (apply Split.cons; focus (repeat (first | exact Find.head _ | apply Find.tail)))))) (fun _ _ _ _ h => h.elim) ?_
  rintro r R1 L' hR1 ⟨rfl, ve, rfl, hve⟩
  have hk1 := hk.mono hR1
  have hone : ∀ u ∈ msgC (atM st i).2 ve, u.oneCell' = true := msgE.one (R := R1) (x := (atM st i).2) ⟨ve, rfl, hve⟩
  try simp only [List.cons_append, List.nil_append]
  refine rj_val (wn0 rfl) rfl rfl (y_move rfl) ?_
  refine rj_val (wn0 rfl) rfl rfl (y_extract rfl rfl) ?_
  refine rj_val (wn0 rfl) rfl rfl (y_extract rfl rfl) ?_
  refine rj_val (wn0 rfl) rfl rfl (y_extract rfl rfl) ?_
  refine rj_alloc (wn0 rfl) rfl Try.zeroValue32 rfl (fun b5 => ?_)
  refine rj_stores ⟨Try.isAgg32, Try.sizeOf32⟩ rfl (wn0 rfl) rfl rfl hone (by ((repeat (first | exact Find.head _ | apply Find.tail)); done)) (by exact Nat.le_refl 10) rfl ?_
  refine rj_val (wn0 rfl) rfl rfl (y_assign rfl) ?_
  refine rj_val (wn0 rfl) rfl rfl (y_assign rfl) ?_
  refine rj_nil ?_
  refine hK2 _ _ _ ?_
  refine cj_env (Env.le_cons (t := 0) rfl (Env.le_cons (t := 5) rfl (Env.le_cons (t := 7) rfl (Env.le_nil _)))) ?_
  refine cj_seq (fun K3 hK3 => ?_)
  refine cj_seq (fun K4 hK4 => ?_)
  refine cj_region ?_
  refine rj_val (wn0 rfl) rfl rfl (y_move rfl) ?_
  refine rj_nil ?_
  refine hK4 _ _ _ ?_
  refine cj_cond rfl (fun hc15 => ?_) (fun hc15 => ?_)
  · try simp only [decide_eq_true_eq, decide_eq_false_iff_not, Bool.not_eq_true', Bool.not_eq_false', Bool.true_eq_false, Bool.false_eq_true] at hc15
    refine cj_region ?_
    refine rj_val (wn0 rfl) rfl rfl (y_move rfl) ?_
    refine rj_val (wn0 rfl) rfl rfl ((y_loads_blk (vs := msgC (atM st i).2 ve) ⟨Try.isAgg32, Try.sizeOf32⟩ rfl (by ((repeat (first | exact Find.head _ | apply Find.tail)); done)) rfl rfl)) ?_
    refine rj_buildSlice (sz := 10) (wn0 rfl) rfl Try.underlying64 Try.sizeOf32 Try.zeroValue32 rfl rfl rfl (by decide) (by decide) (fun bz => ?_)
    refine rj_freeze (e := 32) (sz := 10) (n := 1) (v := .slice (some ⟨bz, 0, none⟩) 1 1) (xs := msgC (atM st i).2 ve) (by ((repeat (first | exact Find.head _ | apply Find.tail)); done)) (fun R2 hR2 hfr hxl => ?_)
    have hfx : FrX msgE R2 [(atM st i).2] (.slice (some ⟨bz, 0, none⟩) 1 1) := FrozenS.frx (l := [(atM st i).2]) (css := [msgC (atM st i).2 ve]) (by simpa using hfr) (Els.single ⟨ve, rfl, hve.mono hR2⟩)
    refine rj_call (wn0 rfl) rfl Try.call11 rfl (netPut_t b v last st css (hk1.mono hR2) _ [(atM st i).2] hfx (fun m hm => by simp at hm; subst hm; exact atM_small hsm i) (by simp; omega) (by simp; omega)) (by (repeat (first | exact Split.nil _ | (apply Split.cons; focus (repeat (first | exact Find.head _ | apply Find.tail)))))) (fun _ _ _ _ h => h.elim) ?_
    rintro r R3 L' hR3 ⟨v3, css3, hk3, rfl⟩
    try simp only [List.cons_append, List.nil_append]
    refine rj_nil ?_
    refine hK3 _ _ _ ?_
    refine cj_env (Env.le_cons (t := 7) rfl (Env.le_nil _)) ?_
    refine cj_seq (fun K6 hK6 => ?_)
    refine cj_region ?_
    refine rj_val (wn0 rfl) rfl rfl (y_move rfl) ?_
    refine rj_val (wn0 rfl) rfl rfl (y_assign rfl) ?_
    refine rj_nil ?_
    refine hK6 _ _ _ ?_
    refine cj_ret ?_
    refine hret _ _ _ ?_
    apply ej_ret Try.results16 (.cons (rv_tmp rfl) .nil) _ [netB b v3 (last + ([(atM st i).2].length : Nat)), netS v3 (st ++ numb last [(atM st i).2]) css3] (by first | exact Hp.le_trans hR1 (Hp.le_trans hR2 hR3) | exact hR1) rfl
    case hp =>
      have e1 : twL st last i = st ++ numb last [(atM st i).2] := by unfold twL; rw [if_pos hc15]
      have e2 : twN st last i = last + 1 := by unfold twN; rw [if_pos hc15]
      rw [e1, e2]; exact ⟨rfl, v3, css3, hk3, rfl⟩
    case hS => (repeat (first | exact Sub.refl _ | (apply Sub.pick; focus (repeat (first | exact Find.head _ | apply Find.tail))) | apply Sub.drop | exact Sub.tailApp _ _))
  · try simp only [decide_eq_true_eq, decide_eq_false_iff_not, Bool.not_eq_true', Bool.not_eq_false', Bool.true_eq_false, Bool.false_eq_true] at hc15
    refine cj_skip ?_
    refine hK3 _ _ _ ?_
    refine cj_env (Env.le_cons (t := 7) rfl (Env.le_nil _)) ?_
    refine cj_seq (fun K7 hK7 => ?_)
    refine cj_region ?_
    refine rj_val (wn0 rfl) rfl rfl (y_move rfl) ?_
    refine rj_val (wn0 rfl) rfl rfl (y_assign rfl) ?_
    refine rj_nil ?_
    refine hK7 _ _ _ ?_
    refine cj_ret ?_
    refine hret _ _ _ ?_
    apply ej_ret Try.results16 (.cons (rv_tmp rfl) .nil) _ [netB b v last, netS v st css] (by first | exact Hp.le_trans hR1 (Hp.le_trans hR2 hR3) | exact hR1) rfl
    case hp =>
      have e1 : twL st last i = st := by unfold twL; rw [hc15]; rfl
      have e2 : twN st last i = last := by unfold twN; rw [hc15]; rfl
      rw [e1, e2]; exact ⟨rfl, v, css, hk1, rfl⟩
    case hS => (repeat (first | exact Sub.refl _ | (apply Sub.pick; focus (repeat (first | exact Find.head _ | apply Find.tail))) | apply Sub.drop | exact Sub.tailApp _ _))
def toAt (st : List One1) (node : Int) (i : Nat) : Bool := match st[i]? with | some x => decide (x.2.to = node) | none => false
def toL (st : List One1) (node : Int) (n : Nat) : List Nat := (List.range n).filter (toAt st node)
theorem toL_succ (st : List One1) (node : Int) (n : Nat) : toL st node (n + 1) = toL st node n ++ if toAt st node n then [n] else [] := by
  unfold toL
  rw [List.range_succ, List.filter_append]
  congr 1
  simp only [List.filter_cons, List.filter_nil]
def intsV (l : List Nat) : List Value := l.map fun (n : Nat) => Value.int .i64 (n : Int)
theorem toL_len (st : List One1) (node : Int) (n : Nat) : (toL st node n).length ≤ n := by
  unfold toL; have := List.length_filter_le (toAt st node) (List.range n); simpa using this
theorem partTo {xs : List Value} {i : Nat} {x : One1} {ve : Value} (h : (xs.drop (i * 11)).take 11 = oneC x ve) : nth xs ((i : Int).toNat * 11 + 1 + 2) = some (.int .i64 x.2.to) := by
  have : ((xs.drop (i * 11)).take 11)[3]? = some (.int .i64 x.2.to) := by rw [h]; rfl
  rw [Int.toNat_natCast, nth_eq]
  rw [List.getElem?_take, if_pos (by omega), List.getElem?_drop] at this
  exact this
theorem netTo_t {R : Hp} (b : Nat) (v : Value) (last : Int) (st : List One1) (css : List (List Value)) (hk : Els oneE R st css) (hst : st.length ≤ 1000000) (node : Int) :
    Tri Try.prog 23 [.pointer (some ⟨b, 0, none⟩), .int .i64 node] R [netB b v last, netS v st css]
      (fun r R' L' => R = R' ∧ L' = [netB b v last, netS v st css, slc 3 1 r (toL st node st.length).length (intsV (toL st node st.length))]) := by
  refine tri_of Try.func23 rfl Try.ntmps23 rfl (fun σ F Q hret hend hpan => ?_)
  try simp only [List.cons_append, List.nil_append]
  refine cj_env (Env.le_cons (t := 0) rfl (Env.le_cons (t := 1) rfl (Env.le_nil _))) ?_
  refine cj_seq (fun K1 hK1 => ?_)
  refine cj_region ?_
  refine rj_val (wn0 rfl) rfl rfl (y_assign rfl) ?_
  refine rj_nil ?_
  refine hK1 _ _ _ ?_
  refine cj_seq (fun K2 hK2 => ?_)
  refine cj_region ?_
  refine rj_val (wn0 rfl) rfl rfl (y_assign rfl) ?_
  refine rj_add (A := slc 3 1 (.slice none 0 0) 0 []) (slc_nil _ _) ?_
  refine rj_nil ?_
  refine hK2 _ _ _ ?_
  refine cj_seq (fun K3 hK3 => ?_)
  refine cj_seq (fun K4 hK4 => ?_)
  refine cj_region ?_
  refine rj_val (wn0 rfl) rfl rfl (y_move rfl) ?_
  refine rj_val (wn0 rfl) rfl rfl (y_call Try.call19 rfl (netLen_q b v last st css) (by (repeat (first | exact Split.nil _ | (apply Split.cons; focus (repeat (first | exact Find.head _ | apply Find.tail))))))) ?_
  refine rj_val (wn0 rfl) rfl rfl (y_move rfl) ?_
  refine rj_nil ?_
  refine hK4 _ _ _ ?_
  refine cj_block ?_
  refine cj_env (E' := (fun (x : Nat × Value) => [(0, .pointer (some ⟨b, 0, none⟩)), (1, .int .i64 node), (5, x.2), (8, .int .i64 (st.length : Int)), (9, .int .i64 (x.1 : Int))]) (0, .slice none 0 0)) (Env.le_cons rfl (Env.le_cons rfl (Env.le_cons rfl (Env.le_cons rfl (Env.le_cons rfl (Env.le_nil _)))))) ?_
  refine cj_sub (M := (fun (x : Nat × Value) => slc 3 1 x.2 (toL st node x.1).length (intsV (toL st node x.1)) :: netB b v last :: netS v st css :: F) (0, .slice none 0 0)) (by (repeat (first | exact Sub.refl _ | (apply Sub.pick; focus (repeat (first | exact Find.head _ | apply Find.tail))) | apply Sub.drop | exact Sub.tailApp _ _))) ?_
  refine cj_loop (fun (x : Nat × Value) => [(0, .pointer (some ⟨b, 0, none⟩)), (1, .int .i64 node), (5, x.2), (8, .int .i64 (st.length : Int)), (9, .int .i64 (x.1 : Int))]) (fun (x : Nat × Value) => R) (fun (x : Nat × Value) => slc 3 1 x.2 (toL st node x.1).length (intsV (toL st node x.1)) :: netB b v last :: netS v st css :: F) (fun (x : Nat × Value) => x.1 ≤ st.length ∧ x.2.oneCell' = true) (fun (x : Nat × Value) => st.length - x.1) (0, .slice none 0 0) (⟨by simp, rfl⟩) ?_
  rintro ⟨i, vl⟩ ⟨hi, hvo⟩
  try dsimp only
  dsimp only at hi hvo
  refine cj_seq (fun K5 hK5 => ?_)
  refine cj_region ?_
  refine rj_val (wn0 rfl) rfl rfl (y_lss rfl rfl) ?_
  refine rj_nil ?_
  refine hK5 _ _ _ ?_
  refine cj_seq (fun K6 hK6 => ?_)
  refine cj_cond rfl (fun hc10 => ?_) (fun hc10 => ?_)
  · try simp only [decide_eq_true_eq, decide_eq_false_iff_not, Bool.not_eq_true', Bool.not_eq_false', Bool.true_eq_false, Bool.false_eq_true] at hc10
    refine cj_skip ?_
    refine hK6 _ _ _ ?_
    refine cj_seq (fun K8 hK8 => ?_)
    refine cj_block ?_
    refine cj_seq (fun K9 hK9 => ?_)
    refine cj_region ?_
    refine rj_val (wn0 rfl) rfl rfl (y_move rfl) ?_
    refine rj_val (wn0 rfl) rfl rfl (y_assign rfl) ?_
    refine rj_nil ?_
    refine hK9 _ _ _ ?_
    refine cj_seq (fun K10 hK10 => ?_)
    refine cj_region ?_
    have hi2 : i < st.length := by (try simp at hc10); omega
    obtain ⟨⟨n, m⟩, hx⟩ : ∃ x, st[i]? = some x := ⟨st[i], by simp⟩
    obtain ⟨cs, hcs, ⟨ve, rfl, hve⟩, hpart⟩ := hk.get hx
    have hta : toAt st node i = decide (m.to = node) := by unfold toAt; rw [hx]
    have hsucc := toL_succ st node i
    have htl := toL_len st node i
    rw [hta] at hsucc
    refine rj_val (wn0 rfl) rfl rfl (y_move rfl) ?_
    refine rj_val (wn0 rfl) rfl rfl (y_nilCheck rfl) ?_
    refine rj_val (wn0 rfl) rfl rfl (y_fieldAddr (k := 0) Try.underlying63 rfl (n := 1) (by decide) Try.sizeOf61 rfl) ?_
    first | refine rj_val (wn0 rfl) rfl rfl (y_load ⟨Try.isAgg61, Try.sizeOf61⟩ rfl (by ((repeat (first | exact Find.head _ | apply Find.tail)); done)) rfl) ?_ | refine rj_val (wn0 rfl) rfl rfl (y_load_slc ⟨Try.isAgg61, Try.sizeOf61⟩ rfl (by ((repeat (first | exact Find.head _ | apply Find.tail)); done)) rfl) ?_
    refine rj_val (wn0 rfl) rfl rfl (y_move rfl) ?_
    refine rj_val (wn0 rfl) rfl rfl ((y_index_slc (sz := 11) (n := st.length) Try.underlying61 Try.sizeOf67 rfl rfl (by ((repeat (first | exact Find.head _ | apply Find.tail)); done)) (by omega))) ?_
    refine rj_val (wn0 rfl) rfl rfl ((y_fieldAddr_slc (k := 1) Try.underlying67 rfl (m := 10) (by decide) Try.sizeOf32 rfl (by ((repeat (first | exact Find.head _ | apply Find.tail)); done)) (by omega))) ?_
    refine rj_val (wn0 rfl) rfl rfl ((y_fieldAddr_slc (k := 2) Try.underlying32 rfl (m := 1) (by decide) Try.sizeOf3 rfl (by ((repeat (first | exact Find.head _ | apply Find.tail)); done)) (by omega))) ?_
    refine rj_val (wn0 rfl) rfl rfl ((y_load_slc ⟨Try.isAgg3, Try.sizeOf3⟩ rfl (by ((repeat (first | exact Find.head _ | apply Find.tail)); done)) (partTo hpart))) ?_
    refine rj_val (wn0 rfl) rfl rfl (y_move rfl) ?_
    refine rj_val (wn0 rfl) rfl rfl (y_eql rfl rfl) ?_
    refine rj_nil ?_
    refine hK10 _ _ _ ?_
    refine cj_env (Env.le_cons (t := 0) rfl (Env.le_cons (t := 1) rfl (Env.le_cons (t := 5) rfl (Env.le_cons (t := 6) rfl (Env.le_cons (t := 8) rfl (Env.le_cons (t := 9) rfl (Env.le_cons (t := 22) rfl (Env.le_nil _)))))))) ?_
    refine cj_cond rfl (fun hc22 => ?_) (fun hc22 => ?_)
    · (try simp only [decide_eq_true_eq, decide_eq_false_iff_not, Bool.not_eq_true', Bool.not_eq_false', Bool.true_eq_false, Bool.false_eq_true] at hc22); subst hc22
      rw [if_pos (by simp)] at hsucc
      refine cj_region ?_
      refine rj_val (wn0 rfl) rfl rfl (y_move rfl) ?_
      refine rj_val (wn0 rfl) rfl rfl (y_move rfl) ?_
      refine rj_buildSlice (sz := 1) (wn0 rfl) rfl Try.underlying52 Try.sizeOf3 Try.zeroValue3 rfl rfl rfl (by decide) (by decide) (fun bz => ?_)
      refine rj_append (sz := 1) (by_ := 8) ⟨Try.underlying52, _, _, rfl, rfl, rfl, rfl, rfl⟩ (wn0 rfl) rfl rfl rfl (by ((repeat (first | exact Find.head _ | apply Find.tail)); done)) (src_slc (xs := [.int .i64 (i : Int)]) Try.underlying52 (by ((repeat (first | exact Find.head _ | apply Find.tail)); done)) (by (first | (simp [Value.oneCell']; done) | (intro u hu; simp only [List.mem_cons, List.not_mem_nil, or_false] at hu; rcases hu with rfl | rfl | rfl | rfl <;> first | rfl | assumption)))) rfl (by (first | omega | (dsimp only; omega) | (simp; done) | (simp; omega))) (by simp only [maxLen]; omega) (fun v26 ho26 hh26 => ?_)
      rw [show intsV (toL st m.to i) ++ [Value.int .i64 (i : Int)] = intsV (toL st m.to (i + 1)) by rw [hsucc]; simp [intsV], show (toL st m.to i).length + 1 = (toL st m.to (i + 1)).length by rw [hsucc]; simp]
      refine rj_val (wn0 rfl) rfl rfl (y_assign rfl) ?_
      refine rj_nil ?_
      refine hK8 _ _ _ ?_
      refine cj_env (Env.le_cons (t := 0) rfl (Env.le_cons (t := 1) rfl (Env.le_cons (t := 5) rfl (Env.le_cons (t := 8) rfl (Env.le_cons (t := 9) rfl (Env.le_nil _)))))) ?_
      refine cj_region ?_
      first | refine rj_val (wn0 rfl) rfl rfl (y_add64 rfl rfl (by (first | omega | (dsimp only; omega) | (simp; done) | (simp; omega)))) ?_ | refine rj_val (wn0 rfl) rfl rfl (y_add rfl rfl) ?_
      refine rj_val (wn0 rfl) rfl rfl (y_move rfl) ?_
      refine rj_nil ?_
      refine ej_on (q' := roundK _ _ _ _ _ _ _) rfl ?_
      refine ej_round ((i + 1, v26)) (⟨by dsimp only; omega, by assumption⟩) (by dsimp only; omega) (Env.le_cons rfl (Env.le_cons rfl (Env.le_cons rfl (Env.le_cons rfl (Env.le_cons rfl (Env.le_nil _)))))) rfl (by (repeat (first | exact Sub.refl _ | (apply Sub.pick; focus (repeat (first | exact Find.head _ | apply Find.tail))) | apply Sub.drop | exact Sub.tailApp _ _)))
    · (try simp only [decide_eq_true_eq, decide_eq_false_iff_not, Bool.not_eq_true', Bool.not_eq_false', Bool.true_eq_false, Bool.false_eq_true] at hc22); rw [if_neg (by simpa using hc22), List.append_nil] at hsucc
      rw [← hsucc]
      refine cj_skip ?_
      refine hK8 _ _ _ ?_
      refine cj_region ?_
      first | refine rj_val (wn0 rfl) rfl rfl (y_add64 rfl rfl (by (first | omega | (dsimp only; omega) | (simp; done) | (simp; omega)))) ?_ | refine rj_val (wn0 rfl) rfl rfl (y_add rfl rfl) ?_
      refine rj_val (wn0 rfl) rfl rfl (y_move rfl) ?_
      refine rj_nil ?_
      refine ej_on (q' := roundK _ _ _ _ _ _ _) rfl ?_
      refine ej_round ((i + 1, vl)) (⟨by dsimp only; omega, hvo⟩) (by dsimp only; omega) (Env.le_cons rfl (Env.le_cons rfl (Env.le_cons rfl (Env.le_cons rfl (Env.le_cons rfl (Env.le_nil _)))))) rfl (by (repeat (first | exact Sub.refl _ | (apply Sub.pick; focus (repeat (first | exact Find.head _ | apply Find.tail))) | apply Sub.drop | exact Sub.tailApp _ _)))
  · try simp only [decide_eq_true_eq, decide_eq_false_iff_not, Bool.not_eq_true', Bool.not_eq_false', Bool.true_eq_false, Bool.false_eq_true] at hc10
    refine cj_exit ?_
    refine hK3 _ _ _ ?_
    refine cj_env (Env.le_cons (t := 5) rfl (Env.le_nil _)) ?_
    refine cj_seq (fun K12 hK12 => ?_)
    refine cj_region ?_
    obtain rfl : i = st.length := by (try simp at hc10); omega
    refine rj_val (wn0 rfl) rfl rfl (y_move rfl) ?_
    refine rj_val (wn0 rfl) rfl rfl (y_assign rfl) ?_
    refine rj_nil ?_
    refine hK12 _ _ _ ?_
    refine cj_ret ?_
    refine hret _ _ _ ?_
    apply ej_ret Try.results23 (.cons (rv_tmp rfl) .nil) _ [netB b v last, netS v st css, slc 3 1 vl (toL st node st.length).length (intsV (toL st node st.length))] (by (first | exact Hp.le_refl _ | assumption | exact Hp.le_trans ‹_› ‹_›)) rfl
    case hp => exact ⟨rfl, rfl⟩
    case hS => (repeat (first | exact Sub.refl _ | (apply Sub.pick; focus (repeat (first | exact Find.head _ | apply Find.tail))) | apply Sub.drop | exact Sub.tailApp _ _))
end V
end Go.Proofs.Ythdmbdbncbdmiaa
