/- The program's net, walked: messages of one's own, what is put, taken, doubled and lost. -/
import Derived.Test.YthdmbdbncbdmiaaT10a
set_option linter.unusedSimpArgs false
set_option linter.unusedVariables false
set_option maxRecDepth 100000
namespace Go.Proofs.Ythdmbdbncbdmiaa
open Go.RowKit
namespace V
set_option maxHeartbeats 4000000
theorem flatt_snoc (css : List (List Value)) (cy : List Value) : css.flatten ++ cy = (css ++ [cy]).flatten := by simp
theorem cloneE_t {R : Hp} (v : Value) (l : List Ent) (hl : FrX entE R l v) (hn : l.length ≤ 1000000) : Tri Try.prog 37 [v] R []
    (fun r R' L' => R = R' ∧ r.oneCell' = true ∧ ∃ css, Els entE R l css ∧ L' = [slc 60 2 r l.length css.flatten]) := by
  obtain ⟨css, he, hfr⟩ := hl
  obtain ⟨q, cap, rfl, h1, h2, h3⟩ := id hfr
  have hq0 : q.isNone = true → l = [] := fun h => by
    rcases h3 with h0 | ⟨b, off, rfl, _⟩
    · exact List.eq_nil_of_length_eq_zero h0
    · cases h
  refine tri_of Try.func37 rfl Try.ntmps37 rfl (fun σ F Q hret hend hpan => ?_)
  try simp only [List.cons_append, List.nil_append]
  refine cj_env (Env.le_cons (t := 0) rfl (Env.le_nil _)) ?_
  refine cj_seq (fun K1 hK1 => ?_)
  refine cj_region ?_
  refine rj_val (wn0 rfl) rfl rfl (y_assign rfl) ?_
  refine rj_nil ?_
  refine hK1 _ _ _ ?_
  refine cj_seq (fun K2 hK2 => ?_)
  refine cj_seq (fun K3 hK3 => ?_)
  refine cj_region ?_
  refine rj_val (wn0 rfl) rfl rfl (y_move rfl) ?_
  refine rj_val (wn0 rfl) rfl rfl (y_sleql Try.underlying30 rfl rfl) ?_
  refine rj_nil ?_
  refine hK3 _ _ _ ?_
  refine cj_cond rfl (fun hc4 => ?_) (fun hc4 => ?_)
  · obtain rfl := hq0 hc4
    refine cj_add (A := slc 60 2 (.slice none 0 0) 0 []) (slc_nil _ _) ?_
    have hcss : css = [] := List.eq_nil_of_length_eq_zero he.1
    subst hcss
    refine cj_seq (fun K5 hK5 => ?_)
    refine cj_region ?_
    refine rj_val (wn0 rfl) rfl rfl (y_assign rfl) ?_
    refine rj_nil ?_
    refine hK5 _ _ _ ?_
    refine cj_env (Env.le_cons (t := 2) rfl (Env.le_nil _)) ?_
    refine cj_ret ?_
    refine hret _ _ _ ?_
    apply ej_ret Try.results37 (.cons (rv_tmp rfl) .nil) _ [slc 60 2 (.slice none 0 0) 0 []] (by (first | exact Hp.le_refl _ | assumption | exact Hp.le_trans ‹_› ‹_›)) rfl
    case hp => exact ⟨rfl, rfl, [], he, rfl⟩
    case hS => (repeat (first | exact Sub.refl _ | (apply Sub.pick; focus (repeat (first | exact Find.head _ | apply Find.tail))) | apply Sub.drop | exact Sub.tailApp _ _))
  · try simp only [decide_eq_true_eq, decide_eq_false_iff_not, Bool.not_eq_true', Bool.not_eq_false', Bool.true_eq_false, Bool.false_eq_true] at hc4
    refine cj_skip ?_
    refine hK2 _ _ _ ?_
    refine cj_env (Env.le_cons (t := 0) rfl (Env.le_nil _)) ?_
    refine cj_seq (fun K6 hK6 => ?_)
    refine cj_region ?_
    refine rj_buildSlice (sz := 2) (wn0 rfl) rfl Try.underlying30 Try.sizeOf60 Try.zeroValue60 rfl rfl rfl (by decide) (by decide) (fun b5 => ?_)
    refine rj_val (wn0 rfl) rfl rfl (y_move rfl) ?_
    refine rj_append (sz := 2) (by_ := 24) ⟨Try.underlying30, _, _, rfl, rfl, rfl, rfl, rfl⟩ (wn0 rfl) rfl rfl rfl (by ((repeat (first | exact Find.head _ | apply Find.tail)); done)) (FrX.src (T := entE) Try.underlying30 he hfr) rfl (by (first | omega | (dsimp only; omega) | (simp; done) | (simp; omega))) (by simp only [maxLen]; omega) (fun v7 ho7 hh7 => ?_)
    rw [Nat.zero_add, List.nil_append]
    refine rj_val (wn0 rfl) rfl rfl (y_assign rfl) ?_
    refine rj_nil ?_
    refine hK6 _ _ _ ?_
    refine cj_env (Env.le_cons (t := 2) rfl (Env.le_nil _)) ?_
    refine cj_ret ?_
    refine hret _ _ _ ?_
    apply ej_ret Try.results37 (.cons (rv_tmp rfl) .nil) _ [slc 60 2 v7 l.length css.flatten] (by (first | exact Hp.le_refl _ | assumption | exact Hp.le_trans ‹_› ‹_›)) rfl
    case hp => exact ⟨rfl, by assumption, css, he, rfl⟩
    case hS => (repeat (first | exact Sub.refl _ | (apply Sub.pick; focus (repeat (first | exact Find.head _ | apply Find.tail))) | apply Sub.drop | exact Sub.tailApp _ _))
theorem own_t {R : Hp} (m : Msg) (ve : Value) (hve : FrX entE R m.es ve) (hn : m.es.length ≤ 1000000) : Tri Try.prog 24 [.agg ⟨msgC m ve⟩] R []
    (fun r R' L' => L' = [] ∧ ∃ ve', r = .agg ⟨msgC m ve'⟩ ∧ FrX entE R' m.es ve') := by
  unfold msgC
  have hveo := hve.one
  refine tri_of Try.func24 rfl Try.ntmps24 rfl (fun σ F Q hret hend hpan => ?_)
  try simp only [List.cons_append, List.nil_append]
  refine cj_env (Env.le_cons (t := 0) rfl (Env.le_nil _)) ?_
  refine cj_seq (fun K1 hK1 => ?_)
  refine cj_region ?_
  refine rj_box (wn0 rfl) rfl rfl rfl (fun b1 => ?_)
  refine rj_alloc (wn0 rfl) rfl Try.zeroValue32 rfl (fun b2 => ?_)
  refine rj_nil ?_
  refine hK1 _ _ _ ?_
  refine cj_seq (fun K2 hK2 => ?_)
  refine cj_region ?_
  refine rj_val (wn0 rfl) rfl rfl (y_fieldAddr (k := 8) Try.underlying32 rfl (n := 1) (by decide) Try.sizeOf30 rfl) ?_
  first | refine rj_val (wn0 rfl) rfl rfl (y_load ⟨Try.isAgg30, Try.sizeOf30⟩ rfl (by ((repeat (first | exact Find.head _ | apply Find.tail)); done)) rfl) ?_ | refine rj_val (wn0 rfl) rfl rfl (y_load_slc ⟨Try.isAgg30, Try.sizeOf30⟩ rfl (by ((repeat (first | exact Find.head _ | apply Find.tail)); done)) rfl) ?_
  refine rj_call (wn0 rfl) rfl Try.call37 rfl (cloneE_t ve m.es hve hn) (by (repeat (first | exact Split.nil _ | (apply Split.cons; focus (repeat (first | exact Find.head _ | apply Find.tail)))))) (fun _ _ _ _ h => h.elim) ?_
  rintro r R1 L' hR1 ⟨rfl, hro, css, he, rfl⟩
  refine rj_freeze (e := 60) (sz := 2) (n := m.es.length) (v := r) (xs := css.flatten) (by ((repeat (first | exact Find.head _ | apply Find.tail)); done)) (fun R2 hR2 hfr hxl => ?_)
  have hfx := FrozenS.frx hfr (he.mono hR2)
  try simp only [List.cons_append, List.nil_append]
  refine rj_val (wn0 rfl) rfl rfl (y_fieldAddr (k := 8) Try.underlying32 rfl (n := 1) (by decide) Try.sizeOf30 rfl) ?_
  refine rj_store ⟨Try.isAgg30, Try.sizeOf30⟩ (wn0 rfl) rfl rfl (by (first | rfl | assumption | (apply cutV_one; assumption))) (by ((repeat (first | exact Find.head _ | apply Find.tail)); done)) rfl rfl ?_
  refine rj_nil ?_
  refine hK2 _ _ _ ?_
  refine cj_env (Env.le_cons (t := 1) rfl (Env.le_cons (t := 2) rfl (Env.le_nil _))) ?_
  refine cj_seq (fun K3 hK3 => ?_)
  refine cj_region ?_
  first | refine rj_val (wn0 rfl) rfl rfl (y_loads_blk ⟨Try.isAgg32, Try.sizeOf32⟩ rfl (by ((repeat (first | exact Find.head _ | apply Find.tail)); done)) rfl rfl) ?_ | refine rj_val (wn0 rfl) rfl rfl (y_loads_slc ⟨Try.isAgg32, Try.sizeOf32⟩ rfl (by ((repeat (first | exact Find.head _ | apply Find.tail)); done)) rfl rfl (by (first | omega | (dsimp only; omega) | (simp; done) | (simp; omega)))) ?_
  refine rj_stores ⟨Try.isAgg32, Try.sizeOf32⟩ rfl (wn0 rfl) rfl rfl (msgE.one (R := R2) (x := m) ⟨r, rfl, hfx⟩) (by ((repeat (first | exact Find.head _ | apply Find.tail)); done)) (by exact Nat.le_refl 10) rfl ?_
  refine rj_nil ?_
  refine hK3 _ _ _ ?_
  refine cj_ret ?_
  refine hret _ _ _ ?_
  apply ej_ret Try.results24 (.cons (rv_cells ⟨Try.isAgg32, Try.sizeOf32⟩ rfl (by ((repeat (first | exact Find.head _ | apply Find.tail)); done)) rfl rfl) .nil) _ [] (by (first | exact Hp.le_refl _ | assumption | exact Hp.le_trans ‹_› ‹_›)) rfl
  case hp => exact ⟨rfl, r, rfl, hfx⟩
  case hS => (repeat (first | exact Sub.refl _ | (apply Sub.pick; focus (repeat (first | exact Find.head _ | apply Find.tail))) | apply Sub.drop | exact Sub.tailApp _ _))
/-! ### a net in memory -/
def numb (k : Int) : List Msg → List One1
  | [] => []
  | m :: l => (k + 1, m) :: numb (k + 1) l
theorem numb_len : ∀ (l : List Msg) (k : Int), (numb k l).length = l.length
  | [], _ => rfl
  | m :: l, k => by rw [numb, List.length_cons, numb_len l, List.length_cons]
theorem numb_take : ∀ (l : List Msg) (k : Int) (i : Nat) (m : Msg), l[i]? = some m → numb k (l.take (i + 1)) = numb k (l.take i) ++ [(k + ((i + 1 : Nat) : Int), m)]
  | [], _, i, m, h => by simp at h
  | x :: l, k, 0, m, h => by simp at h; subst h; simp [numb]
  | x :: l, k, i + 1, m, h => by
    rw [List.take_succ_cons, List.take_succ_cons, numb, numb, numb_take l (k + 1) i m (by simpa using h)]
    simp only [List.cons_append, List.cons.injEq, Prod.mk.injEq, and_true, true_and, List.append_cancel_left_eq]
    push_cast
    omega
@[reducible] def netB (b : Nat) (v : Value) (last : Int) : Asn := blk b [v, .int .u64 last] 63
@[reducible] def netS (v : Value) (st : List One1) (css : List (List Value)) : Asn := slc 67 11 v st.length css.flatten
theorem netNew_t {R : Hp} : Tri Try.prog 8 [] R [] (fun r R' L' => R = R' ∧ ∃ b, r = .pointer (some ⟨b, 0, none⟩) ∧ L' = [netB b (.slice none 0 0) 0, netS (.slice none 0 0) [] []]) := by
  refine tri_of Try.func8 rfl Try.ntmps8 rfl (fun σ F Q hret hend hpan => ?_)
  try simp only [List.cons_append, List.nil_append]
  refine cj_env (Env.le_nil _) ?_
  refine cj_seq (fun K1 hK1 => ?_)
  refine cj_region ?_
  refine rj_val (wn0 rfl) rfl rfl (y_assign rfl) ?_
  refine rj_nil ?_
  refine hK1 _ _ _ ?_
  refine cj_seq (fun K2 hK2 => ?_)
  refine cj_region ?_
  refine rj_add (A := netS (.slice none 0 0) [] []) (slc_nil _ _) ?_
  refine rj_val (wn0 rfl) rfl rfl (y_build (cells := [_, _]) [(0, 1), (1, 1)] Try.underlying63 Try.zeroValue63 (fun _ => rfl) rfl rfl) ?_
  refine rj_box (wn0 rfl) rfl rfl rfl (fun b => ?_)
  refine rj_val (wn0 rfl) rfl rfl (y_assign rfl) ?_
  refine rj_nil ?_
  refine hK2 _ _ _ ?_
  refine cj_ret ?_
  refine hret _ _ _ ?_
  apply ej_ret Try.results8 (.cons (rv_tmp rfl) .nil) _ [netB b (.slice none 0 0) 0, netS (.slice none 0 0) [] []] (by (first | exact Hp.le_refl _ | assumption | exact Hp.le_trans ‹_› ‹_›)) rfl
  case hp => exact ⟨rfl, b, rfl, rfl⟩
  case hS => (repeat (first | exact Sub.refl _ | (apply Sub.pick; focus (repeat (first | exact Find.head _ | apply Find.tail))) | apply Sub.drop | exact Sub.tailApp _ _))
def smallM (m : Msg) : Prop := m.es.length ≤ 1000000
theorem netPut_t {R : Hp} (b : Nat) (v : Value) (last : Int) (st : List One1) (css : List (List Value)) (hk : Els oneE R st css) (vl : Value) (ms : List Msg) (hms : FrX msgE R ms vl) (hsm : ∀ m ∈ ms, smallM m)
    (hl : 0 ≤ last ∧ last + ms.length ≤ 1000000) (hst : st.length + ms.length ≤ 1000000) :
    Tri Try.prog 11 [.pointer (some ⟨b, 0, none⟩), vl] R [netB b v last, netS v st css]
      (fun r R' L' => ∃ v' css', Els oneE R' (st ++ numb last ms) css' ∧ L' = [netB b v' (last + ms.length), netS v' (st ++ numb last ms) css']) := by
  obtain ⟨q, cap, rfl, hcap, hcm⟩ := hms.shape
  refine tri_of Try.func11 rfl Try.ntmps11 rfl (fun σ F Q hret hend hpan => ?_)
  try simp only [List.cons_append, List.nil_append]
  refine cj_env (Env.le_cons (t := 0) rfl (Env.le_cons (t := 1) rfl (Env.le_nil _))) ?_
  refine cj_pure (A := netS v st css) (by ((repeat (first | exact Find.head _ | apply Find.tail)); done)) slc_one (fun hvo => ?_)
  refine cj_seq (fun K1 hK1 => ?_)
  refine cj_seq (fun K2 hK2 => ?_)
  refine cj_region ?_
  refine rj_val (wn0 rfl) rfl rfl (y_move rfl) ?_
  refine rj_val (wn0 rfl) rfl rfl (y_peql Try.underlying24 rfl rfl) ?_
  refine rj_nil ?_
  refine hK2 _ _ _ ?_
  refine cj_cond_f rfl ?_
  refine cj_skip ?_
  refine hK1 _ _ _ ?_
  refine cj_seq (fun K3 hK3 => ?_)
  refine cj_region ?_
  refine rj_val (wn0 rfl) rfl rfl (y_move rfl) ?_
  first | refine rj_val (wn0 rfl) rfl rfl (y_len_sl Try.underlying64 rfl) ?_ | refine rj_val (wn0 rfl) rfl rfl (y_len_slc Try.underlying64 rfl (by ((repeat (first | exact Find.head _ | apply Find.tail)); done))) ?_
  refine rj_val (wn0 rfl) rfl rfl (y_move rfl) ?_
  refine rj_nil ?_
  refine hK3 _ _ _ ?_
  refine cj_env (Env.le_cons (t := 0) rfl (Env.le_cons (t := 8) rfl (Env.le_cons (t := 9) rfl (Env.le_cons (t := 10) rfl (Env.le_nil _))))) ?_
  refine cj_block ?_
  rw [show last = last + ((0 : Nat) : Int) by simp, show st = st ++ numb last (ms.take 0) by simp [numb]]
  refine cj_env (E' := (fun (x : Nat × Value × List (List Value) × Hp) => [(0, .pointer (some ⟨b, 0, none⟩)), (8, .slice q ms.length cap), (9, .int .i64 (ms.length : Int)), (10, .int .i64 (x.1 : Int))]) (0, v, css, R)) (Env.le_cons rfl (Env.le_cons rfl (Env.le_cons rfl (Env.le_cons rfl (Env.le_nil _))))) ?_
  refine cj_sub (M := (fun (x : Nat × Value × List (List Value) × Hp) => netB b x.2.1 (last + x.1) :: netS x.2.1 (st ++ numb last (ms.take x.1)) x.2.2.1 :: F) (0, v, css, R)) (by (repeat (first | exact Sub.refl _ | (apply Sub.pick; focus (repeat (first | exact Find.head _ | apply Find.tail))) | apply Sub.drop | exact Sub.tailApp _ _))) ?_
  refine cj_loop (fun (x : Nat × Value × List (List Value) × Hp) => [(0, .pointer (some ⟨b, 0, none⟩)), (8, .slice q ms.length cap), (9, .int .i64 (ms.length : Int)), (10, .int .i64 (x.1 : Int))]) (fun (x : Nat × Value × List (List Value) × Hp) => x.2.2.2) (fun (x : Nat × Value × List (List Value) × Hp) => netB b x.2.1 (last + x.1) :: netS x.2.1 (st ++ numb last (ms.take x.1)) x.2.2.1 :: F) (fun (x : Nat × Value × List (List Value) × Hp) => x.1 ≤ ms.length ∧ R.le x.2.2.2 ∧ Els oneE x.2.2.2 (st ++ numb last (ms.take x.1)) x.2.2.1 ∧ x.2.1.oneCell' = true) (fun (x : Nat × Value × List (List Value) × Hp) => ms.length - x.1) (0, v, css, R) (⟨by simp, Hp.le_refl R, by simpa [numb] using hk, hvo⟩) ?_
  rintro ⟨i, v1, css1, R1⟩ ⟨hi, hR1, hk1, hvo1⟩
  try dsimp only
  dsimp only at hi hR1 hk1 hvo1
  refine cj_seq (fun K4 hK4 => ?_)
  refine cj_region ?_
  refine rj_val (wn0 rfl) rfl rfl (y_lss rfl rfl) ?_
  refine rj_nil ?_
  refine hK4 _ _ _ ?_
  refine cj_seq (fun K5 hK5 => ?_)
  refine cj_cond rfl (fun hc11 => ?_) (fun hc11 => ?_)
  · try simp only [decide_eq_true_eq, decide_eq_false_iff_not, Bool.not_eq_true', Bool.not_eq_false', Bool.true_eq_false, Bool.false_eq_true] at hc11
    refine cj_skip ?_
    refine hK5 _ _ _ ?_
    refine cj_seq (fun K7 hK7 => ?_)
    refine cj_block ?_
    refine cj_seq (fun K8 hK8 => ?_)
    refine cj_region ?_
    obtain ⟨m, hm⟩ : ∃ m, ms[i]? = some m := ⟨ms[i]'(by omega), by simp⟩
    obtain ⟨bm, off, cap', cs, he, ⟨ve, rfl, hve⟩, hcl, hcell⟩ := (hms.mono hR1).at hm
    obtain ⟨rfl, rfl⟩ : q = some ⟨bm, off, none⟩ ∧ cap = cap' := by cases he; exact ⟨rfl, rfl⟩
    unfold msgC at hcell
    have hveo := hve.one
    have hmm := hsm m (List.mem_of_getElem? hm)
    have hlen : (st ++ numb last (ms.take i)).length = st.length + i := by rw [List.length_append, numb_len, List.length_take]; omega
    first | refine rj_val (wn0 rfl) rfl rfl (y_indexAddr Try.underlying64 Try.sizeOf32 rfl rfl (by (first | omega | (dsimp only; omega) | (simp; done) | (simp; omega)))) ?_ | refine rj_val (wn0 rfl) rfl rfl (y_index_slc Try.underlying64 Try.sizeOf32 rfl rfl (by ((repeat (first | exact Find.head _ | apply Find.tail)); done)) (by (first | omega | (dsimp only; omega) | (simp; done) | (simp; omega)))) ?_
    refine rj_val (wn0 rfl) rfl rfl ((y_loads_ro ⟨Try.isAgg32, Try.sizeOf32⟩ (vs := msgC m ve) rfl rfl (fun j u hj => hcell j u hj))) ?_
    refine rj_alloc (wn0 rfl) rfl Try.zeroValue32 rfl (fun b5 => ?_)
    refine rj_stores ⟨Try.isAgg32, Try.sizeOf32⟩ rfl (wn0 rfl) rfl rfl (msgE.one (R := R1) (x := m) ⟨ve, rfl, hve⟩) (by ((repeat (first | exact Find.head _ | apply Find.tail)); done)) (by exact Nat.le_refl 10) rfl ?_
    refine rj_nil ?_
    refine hK8 _ _ _ ?_
    refine cj_env (Env.le_cons (t := 0) rfl (Env.le_cons (t := 5) rfl (Env.le_cons (t := 8) rfl (Env.le_cons (t := 9) rfl (Env.le_cons (t := 10) rfl (Env.le_nil _)))))) ?_
    refine cj_seq (fun K9 hK9 => ?_)
    refine cj_region ?_
    refine rj_val (wn0 rfl) rfl rfl (y_move rfl) ?_
    refine rj_val (wn0 rfl) rfl rfl (y_nilCheck rfl) ?_
    refine rj_val (wn0 rfl) rfl rfl (y_fieldAddr (k := 1) Try.underlying63 rfl (n := 1) (by decide) Try.sizeOf27 rfl) ?_
    first | refine rj_val (wn0 rfl) rfl rfl (y_load ⟨Try.isAgg27, Try.sizeOf27⟩ rfl (by ((repeat (first | exact Find.head _ | apply Find.tail)); done)) rfl) ?_ | refine rj_val (wn0 rfl) rfl rfl (y_load_slc ⟨Try.isAgg27, Try.sizeOf27⟩ rfl (by ((repeat (first | exact Find.head _ | apply Find.tail)); done)) rfl) ?_
    first | refine rj_val (wn0 rfl) rfl rfl (y_addu rfl rfl (by (first | omega | (dsimp only; omega) | (simp; done) | (simp; omega)))) ?_ | refine rj_val (wn0 rfl) rfl rfl (y_add rfl rfl) ?_
    refine rj_eq 18 rfl (v' := .int .u64 (last + ((i + 1 : Nat) : Int))) (by congr 1; push_cast; omega) ?_
    refine rj_val (wn0 rfl) rfl rfl (y_nilCheck rfl) ?_
    refine rj_val (wn0 rfl) rfl rfl (y_fieldAddr (k := 1) Try.underlying63 rfl (n := 1) (by decide) Try.sizeOf27 rfl) ?_
    refine rj_store ⟨Try.isAgg27, Try.sizeOf27⟩ (wn0 rfl) rfl rfl (by (first | rfl | assumption | (apply cutV_one; assumption))) (by ((repeat (first | exact Find.head _ | apply Find.tail)); done)) rfl rfl ?_
    refine rj_nil ?_
    refine hK9 _ _ _ ?_
    refine cj_env (Env.le_cons (t := 0) rfl (Env.le_cons (t := 5) rfl (Env.le_cons (t := 8) rfl (Env.le_cons (t := 9) rfl (Env.le_cons (t := 10) rfl (Env.le_nil _)))))) ?_
    refine cj_mixg (L := [netB b v1 (last + ((i + 1 : Nat) : Int)), blk b5 (msgC m ve) 32]) [0, 1, 2, 3, 4, 5, 6, 7, 8, 9] [10, 11, 12, 13] [14, 15, 16] _ (by (repeat (first | exact Sub.refl _ | (apply Sub.pick; focus (repeat (first | exact Find.head _ | apply Find.tail))) | apply Sub.drop | exact Sub.tailApp _ _))) (by kernel_rfl) (by kernel_rfl) (by kernel_rfl) rfl ?_
    refine fj_val rfl rfl rfl (wn0 rfl) (fun R1 hR1 G => (y_move rfl)) ?_
    refine fj_val rfl rfl rfl (wn0 rfl) (fun R1 hR1 G => (y_move rfl)) ?_
    refine fj_val rfl rfl rfl (wn0 rfl) (fun R1 hR1 G => (y_nilCheck rfl)) ?_
    refine fj_val rfl rfl rfl (wn0 rfl) (fun R1 hR1 G => (y_fieldAddr (k := 0) Try.underlying63 rfl (n := 1) (by decide) Try.sizeOf61 rfl)) ?_
    first | refine fj_val rfl rfl rfl (wn0 rfl) (fun R1 hR1 G => (y_load ⟨Try.isAgg61, Try.sizeOf61⟩ rfl (by ((repeat (first | exact Find.head _ | apply Find.tail)); done)) rfl)) ?_ | refine fj_val rfl rfl rfl (wn0 rfl) (fun R1 hR1 G => (y_load_slc ⟨Try.isAgg61, Try.sizeOf61⟩ rfl (by ((repeat (first | exact Find.head _ | apply Find.tail)); done)) rfl)) ?_
    refine fj_val rfl rfl rfl (wn0 rfl) (fun R1 hR1 G => (y_move rfl)) ?_
    refine fj_val rfl rfl rfl (wn0 rfl) (fun R1 hR1 G => (y_nilCheck rfl)) ?_
    refine fj_val rfl rfl rfl (wn0 rfl) (fun R1 hR1 G => (y_fieldAddr (k := 1) Try.underlying63 rfl (n := 1) (by decide) Try.sizeOf27 rfl)) ?_
    first | refine fj_val rfl rfl rfl (wn0 rfl) (fun R1 hR1 G => (y_load ⟨Try.isAgg27, Try.sizeOf27⟩ rfl (by ((repeat (first | exact Find.head _ | apply Find.tail)); done)) rfl)) ?_ | refine fj_val rfl rfl rfl (wn0 rfl) (fun R1 hR1 G => (y_load_slc ⟨Try.isAgg27, Try.sizeOf27⟩ rfl (by ((repeat (first | exact Find.head _ | apply Find.tail)); done)) rfl)) ?_
    first | refine fj_val rfl rfl rfl (wn0 rfl) (fun R1 hR1 G => (y_loads_blk ⟨Try.isAgg32, Try.sizeOf32⟩ rfl (by ((repeat (first | exact Find.head _ | apply Find.tail)); done)) rfl rfl)) ?_ | refine fj_val rfl rfl rfl (wn0 rfl) (fun R1 hR1 G => (y_loads_slc ⟨Try.isAgg32, Try.sizeOf32⟩ rfl (by ((repeat (first | exact Find.head _ | apply Find.tail)); done)) rfl rfl (by (first | omega | (dsimp only; omega) | (simp; done) | (simp; omega))))) ?_
    refine fj_nil ?_
    refine xj_rj rfl ?_
    try simp only [List.cons_append, List.nil_append, List.append_nil]
    refine rj_call (wn0 rfl) rfl Try.call24 rfl (own_t m ve hve hmm) (by (repeat (first | exact Split.nil _ | (apply Split.cons; focus (repeat (first | exact Find.head _ | apply Find.tail)))))) (fun _ _ _ _ h => h.elim) ?_
    rintro r R2 L' hR2 ⟨rfl, ve', rfl, hve'⟩
    have hkn : Els oneE R2 (st ++ numb last (ms.take (i + 1))) (css1 ++ [oneC (last + ((i + 1 : Nat) : Int), m) ve']) := by rw [numb_take ms last i m hm, ← List.append_assoc]; exact (hk1.mono hR2).snoc ⟨ve', rfl, hve'⟩
    try simp only [List.cons_append, List.nil_append]
    refine rj_xk (by (first | exact Hp.le_refl _ | assumption | exact Hp.le_trans ‹_› ‹_›)) (by (repeat (first | exact Sub.refl _ | (apply Sub.pick; focus (repeat (first | exact Find.head _ | apply Find.tail))) | apply Sub.drop | exact Sub.tailApp _ _))) ?_
    refine xj_rj rfl ?_
    try simp only [List.cons_append, List.nil_append, List.append_nil]
    refine rj_val (wn0 rfl) rfl rfl (y_build (cells := [_, _, _, _, _, _, _, _, _, _, _]) [(0, 1), (1, 10)] Try.underlying67 Try.zeroValue67 (fun _ => rfl) rfl rfl) ?_
    refine rj_xk (by (first | exact Hp.le_refl _ | assumption | exact Hp.le_trans ‹_› ‹_›)) (by (repeat (first | exact Sub.refl _ | (apply Sub.pick; focus (repeat (first | exact Find.head _ | apply Find.tail))) | apply Sub.drop | exact Sub.tailApp _ _))) ?_
    refine xj_rj rfl ?_
    try simp only [List.cons_append, List.nil_append, List.append_nil]
    refine rj_buildSlice (sz := 11) (wn0 rfl) rfl Try.underlying61 Try.sizeOf67 Try.zeroValue67 rfl rfl rfl (by decide) (by decide) (fun bz => ?_)
    refine rj_xk (by (first | exact Hp.le_refl _ | assumption | exact Hp.le_trans ‹_› ‹_›)) (by (repeat (first | exact Sub.refl _ | (apply Sub.pick; focus (repeat (first | exact Find.head _ | apply Find.tail))) | apply Sub.drop | exact Sub.tailApp _ _))) ?_
    refine xj_rj rfl ?_
    try simp only [List.cons_append, List.nil_append, List.append_nil]
    refine rj_append (sz := 11) (by_ := 112) ⟨Try.underlying61, _, _, rfl, rfl, rfl, rfl, rfl⟩ (wn0 rfl) rfl rfl rfl (by ((repeat (first | exact Find.head _ | apply Find.tail)); done)) (src_slc (xs := oneC (last + ((i + 1 : Nat) : Int), m) ve') Try.underlying61 (by ((repeat (first | exact Find.head _ | apply Find.tail)); done)) (oneE.one (R := R2) (x := (last + ((i + 1 : Nat) : Int), m)) ⟨ve', rfl, hve'⟩)) rfl (by (first | omega | (dsimp only; omega) | (simp; done) | (simp; omega))) (by simp only [maxLen]; omega) (fun v34 ho34 hh34 => ?_)
    rw [flatt_snoc]
    rw [show (st ++ numb last (ms.take i)).length + 1 = (st ++ numb last (ms.take (i + 1))).length by rw [numb_take ms last i m hm]; simp; omega]
    refine rj_xk (by (first | exact Hp.le_refl _ | assumption | exact Hp.le_trans ‹_› ‹_›)) (by (repeat (first | exact Sub.refl _ | (apply Sub.pick; focus (repeat (first | exact Find.head _ | apply Find.tail))) | apply Sub.drop | exact Sub.tailApp _ _))) ?_
    refine xj_nil ?_
    try simp only [List.cons_append, List.nil_append, List.append_nil]
    refine rj_val (wn0 rfl) rfl rfl (y_nilCheck rfl) ?_
    refine rj_val (wn0 rfl) rfl rfl (y_fieldAddr (k := 0) Try.underlying63 rfl (n := 1) (by decide) Try.sizeOf61 rfl) ?_
    refine rj_store ⟨Try.isAgg61, Try.sizeOf61⟩ (wn0 rfl) rfl rfl (by (first | rfl | assumption | (apply cutV_one; assumption))) (by ((repeat (first | exact Find.head _ | apply Find.tail)); done)) rfl rfl ?_
    refine rj_nil ?_
    refine hK7 _ _ _ ?_
    refine cj_env (Env.le_cons (t := 0) rfl (Env.le_cons (t := 8) rfl (Env.le_cons (t := 9) rfl (Env.le_cons (t := 10) rfl (Env.le_nil _))))) ?_
    refine cj_region ?_
    first | refine rj_val (wn0 rfl) rfl rfl (y_add64 rfl rfl (by (first | omega | (dsimp only; omega) | (simp; done) | (simp; omega)))) ?_ | refine rj_val (wn0 rfl) rfl rfl (y_add rfl rfl) ?_
    refine rj_val (wn0 rfl) rfl rfl (y_move rfl) ?_
    refine rj_nil ?_
    refine ej_on (q' := roundK _ _ _ _ _ _ _) rfl ?_
    refine ej_round ((i + 1, v34, css1 ++ [oneC (last + ((i + 1 : Nat) : Int), m) ve'], R2)) (⟨by dsimp only; omega, Hp.le_trans hR1 hR2, hkn, by assumption⟩) (by dsimp only; omega) (Env.le_cons rfl (Env.le_cons rfl (Env.le_cons rfl (Env.le_cons rfl (Env.le_nil _))))) rfl (by (repeat (first | exact Sub.refl _ | (apply Sub.pick; focus (repeat (first | exact Find.head _ | apply Find.tail))) | apply Sub.drop | exact Sub.tailApp _ _)))
  · try simp only [decide_eq_true_eq, decide_eq_false_iff_not, Bool.not_eq_true', Bool.not_eq_false', Bool.true_eq_false, Bool.false_eq_true] at hc11
    refine cj_exit ?_
    refine hend _ _ _ ?_
    apply ej_end Try.results11 .nil _ [netB b v1 (last + i), netS v1 (st ++ numb last (ms.take i)) css1] (by (first | exact Hp.le_refl _ | assumption | exact Hp.le_trans ‹_› ‹_›)) rfl
    case hp =>
      have e : i = ms.length := by (try simp at hc11); omega
      subst e; rw [List.take_of_length_le (Nat.le_refl _)] at hk1 ⊢; exact ⟨v1, css1, hk1, rfl⟩
    case hS => (repeat (first | exact Sub.refl _ | (apply Sub.pick; focus (repeat (first | exact Find.head _ | apply Find.tail))) | apply Sub.drop | exact Sub.tailApp _ _))
theorem netLen_q {R : Hp} (b : Nat) (v : Value) (last : Int) (st : List One1) (css : List (List Value)) :
    QTri Try.prog 19 [.pointer (some ⟨b, 0, none⟩)] R [netB b v last, netS v st css] (.int .i64 (st.length : Int)) := by
  refine Tri.q ?_
  refine tri_of Try.func19 rfl Try.ntmps19 rfl (fun σ F Q hret hend hpan => ?_)
  try simp only [List.cons_append, List.nil_append]
  refine cj_env (Env.le_cons (t := 0) rfl (Env.le_nil _)) ?_
  refine cj_seq (fun K1 hK1 => ?_)
  refine cj_region ?_
  refine rj_val (wn0 rfl) rfl rfl (y_assign rfl) ?_
  refine rj_nil ?_
  refine hK1 _ _ _ ?_
  refine cj_seq (fun K2 hK2 => ?_)
  refine cj_seq (fun K3 hK3 => ?_)
  refine cj_region ?_
  refine rj_val (wn0 rfl) rfl rfl (y_move rfl) ?_
  refine rj_val (wn0 rfl) rfl rfl (y_peql Try.underlying24 rfl rfl) ?_
  refine rj_nil ?_
  refine hK3 _ _ _ ?_
  refine cj_cond_f rfl ?_
  refine cj_skip ?_
  refine hK2 _ _ _ ?_
  refine cj_env (Env.le_cons (t := 0) rfl (Env.le_nil _)) ?_
  refine cj_seq (fun K4 hK4 => ?_)
  refine cj_region ?_
  refine rj_val (wn0 rfl) rfl rfl (y_move rfl) ?_
  refine rj_val (wn0 rfl) rfl rfl (y_nilCheck rfl) ?_
  refine rj_val (wn0 rfl) rfl rfl (y_fieldAddr (k := 0) Try.underlying63 rfl (n := 1) (by decide) Try.sizeOf61 rfl) ?_
  first | refine rj_val (wn0 rfl) rfl rfl (y_load ⟨Try.isAgg61, Try.sizeOf61⟩ rfl (by ((repeat (first | exact Find.head _ | apply Find.tail)); done)) rfl) ?_ | refine rj_val (wn0 rfl) rfl rfl (y_load_slc ⟨Try.isAgg61, Try.sizeOf61⟩ rfl (by ((repeat (first | exact Find.head _ | apply Find.tail)); done)) rfl) ?_
  first | refine rj_val (wn0 rfl) rfl rfl (y_len_sl Try.underlying61 rfl) ?_ | refine rj_val (wn0 rfl) rfl rfl (y_len_slc Try.underlying61 rfl (by ((repeat (first | exact Find.head _ | apply Find.tail)); done))) ?_
  refine rj_val (wn0 rfl) rfl rfl (y_assign rfl) ?_
  refine rj_nil ?_
  refine hK4 _ _ _ ?_
  refine cj_env (Env.le_cons (t := 2) rfl (Env.le_nil _)) ?_
  refine cj_ret ?_
  refine hret _ _ _ ?_
  apply ej_ret Try.results19 (.cons (rv_tmp rfl) .nil) _ [netB b v last, netS v st css] (by (first | exact Hp.le_refl _ | assumption | exact Hp.le_trans ‹_› ‹_›)) rfl
  case hp => exact ⟨rfl, rfl, rfl⟩
  case hS => (repeat (first | exact Sub.refl _ | (apply Sub.pick; focus (repeat (first | exact Find.head _ | apply Find.tail))) | apply Sub.drop | exact Sub.tailApp _ _))
def hasB (st : List One1) (i : Int) : Bool := decide (0 ≤ i ∧ i < st.length)
def atM (st : List One1) (i : Int) : One1 := if hasB st i then st.getD i.toNat (0, Msg.zero) else (0, Msg.zero)
def dropL (st : List One1) (i : Int) : List One1 := if hasB st i then st.eraseIdx i.toNat else st
theorem atM_some {st : List One1} {i : Nat} {x : One1} (h : st[i]? = some x) : atM st i = x ∧ hasB st i = true := by
  have hi := (List.getElem?_eq_some_iff.1 h).1
  have hb : hasB st i = true := by unfold hasB; simp; omega
  refine ⟨?_, hb⟩
  unfold atM
  rw [if_pos hb, List.getD_eq_getElem?_getD, Int.toNat_natCast, h]; rfl
theorem atM_none {st : List One1} {i : Int} (h : hasB st i = false) : atM st i = (0, Msg.zero) ∧ dropL st i = st := by
  unfold atM dropL; rw [h]; exact ⟨rfl, rfl⟩
theorem part1 {xs : List Value} {i : Nat} {x : One1} {ve : Value} (h : (xs.drop (i * 11)).take 11 = oneC x ve) : (xs.drop ((i : Int).toNat * 11 + 1)).take 10 = msgC x.2 ve := by
  have : ((xs.drop (i * 11)).take 11).drop 1 = msgC x.2 ve := by rw [h]; rfl
  rw [Int.toNat_natCast, ← this, List.drop_take, List.drop_drop]
theorem part0 {xs : List Value} {i : Nat} {x : One1} {ve : Value} (h : (xs.drop (i * 11)).take 11 = oneC x ve) : nth xs ((i : Int).toNat * 11 + 0) = some (.int .u64 x.1) := by
  have : ((xs.drop (i * 11)).take 11)[0]? = some (.int .u64 x.1) := by rw [h]; rfl
  rw [Int.toNat_natCast, nth_eq]
  rw [List.getElem?_take, if_pos (by omega), List.getElem?_drop] at this
  exact this
def smallS (st : List One1) : Prop := ∀ x ∈ st, smallM x.2
theorem netAt_t {R : Hp} (b : Nat) (v : Value) (last : Int) (st : List One1) (css : List (List Value)) (hk : Els oneE R st css) (hsm : smallS st) (i : Int) :
    Tri Try.prog 18 [.pointer (some ⟨b, 0, none⟩), .int .i64 i] R [netB b v last, netS v st css]
      (fun r R' L' => L' = [netB b v last, netS v st css] ∧ ∃ ve, r = .tuple #[.agg ⟨msgC (atM st i).2 ve⟩, .int .u64 (atM st i).1, .bool (hasB st i)] ∧ FrX entE R' (atM st i).2.es ve) := by
  refine tri_of Try.func18 rfl Try.ntmps18 rfl (fun σ F Q hret hend hpan => ?_)
  try simp only [List.cons_append, List.nil_append]
  refine cj_env (Env.le_cons (t := 0) rfl (Env.le_cons (t := 1) rfl (Env.le_nil _))) ?_
  refine cj_seq (fun K1 hK1 => ?_)
  refine cj_region ?_
  refine rj_alloc (wn0 rfl) rfl Try.zeroValue32 rfl (fun bo => ?_)
  refine rj_val (wn0 rfl) rfl rfl (y_assign rfl) ?_
  refine rj_val (wn0 rfl) rfl rfl (y_assign rfl) ?_
  refine rj_nil ?_
  refine hK1 _ _ _ ?_
  refine cj_seq (fun K2 hK2 => ?_)
  refine cj_seq (fun K3 hK3 => ?_)
  refine cj_region ?_
  refine rj_val (wn0 rfl) rfl rfl (y_move rfl) ?_
  refine rj_val (wn0 rfl) rfl rfl (y_lss rfl rfl) ?_
  refine rj_val (wn0 rfl) rfl rfl (y_move rfl) ?_
  refine rj_part 9 rfl (fun hg9 => ?_) (fun hg9 => ?_)
  · try simp only [decide_eq_true_eq, decide_eq_false_iff_not, Bool.not_eq_true', Bool.not_eq_false', Bool.true_eq_false, Bool.false_eq_true] at hg9
    refine rj_skip (wn2 rfl rfl rfl rfl rfl) rfl rfl ?_
    refine rj_skip (wn2 rfl rfl rfl rfl rfl) rfl rfl ?_
    refine rj_skip (wn2 rfl rfl rfl rfl rfl) rfl rfl ?_
    refine rj_skip (wn2 rfl rfl rfl rfl rfl) rfl rfl ?_
    refine rj_val (wn0 rfl) rfl rfl (y_pick_t rfl rfl) ?_
    refine rj_nil ?_
    refine hK3 _ _ _ ?_
    refine cj_env (Env.le_cons (t := 0) rfl (Env.le_cons (t := 1) rfl (Env.le_cons (t := 4) rfl (Env.le_cons (t := 14) rfl (Env.le_nil _))))) ?_
    refine cj_cond_t rfl ?_
    refine cj_seq (fun K4 hK4 => ?_)
    refine cj_region ?_
    refine rj_val (wn0 rfl) rfl rfl (y_build (cells := [_, _, _, _, _, _, _, _, _, _]) [(0, 1), (1, 1), (2, 1), (3, 1), (4, 1), (5, 1), (6, 1), (7, 1), (8, 1), (9, 1)] Try.underlying32 Try.zeroValue32 (fun _ => rfl) rfl rfl) ?_
    refine rj_stores ⟨Try.isAgg32, Try.sizeOf32⟩ rfl (wn0 rfl) rfl rfl (by (first | (simp [Value.oneCell']; done) | (intro u hu; simp only [List.mem_cons, List.not_mem_nil, or_false] at hu; rcases hu with rfl | rfl | rfl | rfl <;> first | rfl | assumption))) (by ((repeat (first | exact Find.head _ | apply Find.tail)); done)) (by (simp)) rfl ?_
    refine rj_val (wn0 rfl) rfl rfl (y_assign rfl) ?_
    refine rj_val (wn0 rfl) rfl rfl (y_assign rfl) ?_
    refine rj_nil ?_
    refine hK4 _ _ _ ?_
    refine cj_env (Env.le_cons (t := 4) rfl (Env.le_cons (t := 5) rfl (Env.le_cons (t := 6) rfl (Env.le_nil _)))) ?_
    refine cj_ret ?_
    refine hret _ _ _ ?_
    apply ej_ret Try.results18 (.cons (rv_cells ⟨Try.isAgg32, Try.sizeOf32⟩ rfl (by ((repeat (first | exact Find.head _ | apply Find.tail)); done)) rfl rfl) (.cons (rv_tmp rfl) (.cons (rv_tmp rfl) .nil))) _ [netB b v last, netS v st css] (by (first | exact Hp.le_refl _ | assumption | exact Hp.le_trans ‹_› ‹_›)) rfl
    case hp =>
      have hb : hasB st i = false := by unfold hasB; simp; omega
      rw [(atM_none hb).1, hb]; exact ⟨rfl, _, rfl, FrX.nil⟩
    case hS => (repeat (first | exact Sub.refl _ | (apply Sub.pick; focus (repeat (first | exact Find.head _ | apply Find.tail))) | apply Sub.drop | exact Sub.tailApp _ _))
  · try simp only [decide_eq_true_eq, decide_eq_false_iff_not, Bool.not_eq_true', Bool.not_eq_false', Bool.true_eq_false, Bool.false_eq_true] at hg9
    refine rj_val (wn1 rfl rfl rfl rfl) rfl rfl (y_move rfl) ?_
    refine rj_val (wn1 rfl rfl rfl rfl) rfl rfl (y_move rfl) ?_
    refine rj_val (wn1 rfl rfl rfl rfl) rfl rfl (y_call Try.call19 rfl (netLen_q b v last st css) (by (repeat (first | exact Split.nil _ | (apply Split.cons; focus (repeat (first | exact Find.head _ | apply Find.tail))))))) ?_
    refine rj_val (wn1 rfl rfl rfl rfl) rfl rfl (y_geq rfl rfl) ?_
    refine rj_val (wn0 rfl) rfl rfl (y_pick_f rfl rfl) ?_
    refine rj_nil ?_
    refine hK3 _ _ _ ?_
    refine cj_env (Env.le_cons (t := 0) rfl (Env.le_cons (t := 1) rfl (Env.le_cons (t := 4) rfl (Env.le_cons (t := 14) rfl (Env.le_nil _))))) ?_
    refine cj_cond rfl (fun hc14 => ?_) (fun hc14 => ?_)
    · try simp only [decide_eq_true_eq, decide_eq_false_iff_not, Bool.not_eq_true', Bool.not_eq_false', Bool.true_eq_false, Bool.false_eq_true] at hc14
      refine cj_seq (fun K6 hK6 => ?_)
      refine cj_region ?_
      refine rj_val (wn0 rfl) rfl rfl (y_build (cells := [_, _, _, _, _, _, _, _, _, _]) [(0, 1), (1, 1), (2, 1), (3, 1), (4, 1), (5, 1), (6, 1), (7, 1), (8, 1), (9, 1)] Try.underlying32 Try.zeroValue32 (fun _ => rfl) rfl rfl) ?_
      refine rj_stores ⟨Try.isAgg32, Try.sizeOf32⟩ rfl (wn0 rfl) rfl rfl (by (first | (simp [Value.oneCell']; done) | (intro u hu; simp only [List.mem_cons, List.not_mem_nil, or_false] at hu; rcases hu with rfl | rfl | rfl | rfl <;> first | rfl | assumption))) (by ((repeat (first | exact Find.head _ | apply Find.tail)); done)) (by (simp)) rfl ?_
      refine rj_val (wn0 rfl) rfl rfl (y_assign rfl) ?_
      refine rj_val (wn0 rfl) rfl rfl (y_assign rfl) ?_
      refine rj_nil ?_
      refine hK6 _ _ _ ?_
      refine cj_env (Env.le_cons (t := 4) rfl (Env.le_cons (t := 5) rfl (Env.le_cons (t := 6) rfl (Env.le_nil _)))) ?_
      refine cj_ret ?_
      refine hret _ _ _ ?_
      apply ej_ret Try.results18 (.cons (rv_cells ⟨Try.isAgg32, Try.sizeOf32⟩ rfl (by ((repeat (first | exact Find.head _ | apply Find.tail)); done)) rfl rfl) (.cons (rv_tmp rfl) (.cons (rv_tmp rfl) .nil))) _ [netB b v last, netS v st css] (by (first | exact Hp.le_refl _ | assumption | exact Hp.le_trans ‹_› ‹_›)) rfl
      case hp =>
        have hb : hasB st i = false := by unfold hasB; simp; omega
        rw [(atM_none hb).1, hb]; exact ⟨rfl, _, rfl, FrX.nil⟩
      case hS => (repeat (first | exact Sub.refl _ | (apply Sub.pick; focus (repeat (first | exact Find.head _ | apply Find.tail))) | apply Sub.drop | exact Sub.tailApp _ _))
    · try simp only [decide_eq_true_eq, decide_eq_false_iff_not, Bool.not_eq_true', Bool.not_eq_false', Bool.true_eq_false, Bool.false_eq_true] at hc14
      refine cj_skip ?_
      refine hK2 _ _ _ ?_
      refine cj_seq (fun K7 hK7 => ?_)
      obtain ⟨i, rfl⟩ := Int.eq_ofNat_of_zero_le (show 0 ≤ i by (try simp at hg9 hc14); omega)
      have hi : i < st.length := by (try simp at hc14); omega
      obtain ⟨⟨n, m⟩, hx⟩ : ∃ x, st[i]? = some x := ⟨st[i], by simp⟩
      obtain ⟨cs, hcs, ⟨ve, rfl, hve⟩, hpart⟩ := hk.get hx
      obtain ⟨ea, eb⟩ := atM_some hx
      have hmm : smallM m := hsm (n, m) (List.mem_of_getElem? hx)
      refine cj_mixg (L := [netB b v last, netS v st css]) [0, 1, 2, 3, 4, 5, 6, 7, 9, 10, 11, 12, 13, 14, 15, 16] [8, 17] [18, 19] _ (by (repeat (first | exact Sub.refl _ | (apply Sub.pick; focus (repeat (first | exact Find.head _ | apply Find.tail))) | apply Sub.drop | exact Sub.tailApp _ _))) (by kernel_rfl) (by kernel_rfl) (by kernel_rfl) rfl ?_
      refine fj_val rfl rfl rfl (wn0 rfl) (fun R1 hR1 G => (y_move rfl)) ?_
      refine fj_val rfl rfl rfl (wn0 rfl) (fun R1 hR1 G => (y_nilCheck rfl)) ?_
      refine fj_val rfl rfl rfl (wn0 rfl) (fun R1 hR1 G => (y_fieldAddr (k := 0) Try.underlying63 rfl (n := 1) (by decide) Try.sizeOf61 rfl)) ?_
      first | refine fj_val rfl rfl rfl (wn0 rfl) (fun R1 hR1 G => (y_load ⟨Try.isAgg61, Try.sizeOf61⟩ rfl (by ((repeat (first | exact Find.head _ | apply Find.tail)); done)) rfl)) ?_ | refine fj_val rfl rfl rfl (wn0 rfl) (fun R1 hR1 G => (y_load_slc ⟨Try.isAgg61, Try.sizeOf61⟩ rfl (by ((repeat (first | exact Find.head _ | apply Find.tail)); done)) rfl)) ?_
      refine fj_val rfl rfl rfl (wn0 rfl) (fun R1 hR1 G => (y_move rfl)) ?_
      refine fj_val rfl rfl rfl (wn0 rfl) (fun R1 hR1 G => (y_index_slc (sz := 11) (n := st.length) Try.underlying61 Try.sizeOf67 rfl rfl (by ((repeat (first | exact Find.head _ | apply Find.tail)); done)) (by omega))) ?_
      refine fj_val rfl rfl rfl (wn0 rfl) (fun R1 hR1 G => (y_fieldAddr_slc (k := 1) Try.underlying67 rfl (m := 10) (by decide) Try.sizeOf32 rfl (by ((repeat (first | exact Find.head _ | apply Find.tail)); done)) (by omega))) ?_
      refine fj_val rfl rfl rfl (wn0 rfl) (fun R1 hR1 G => (y_loads_slc (sz := 11) (n := st.length) (vs := msgC m ve) ⟨Try.isAgg32, Try.sizeOf32⟩ rfl (by ((repeat (first | exact Find.head _ | apply Find.tail)); done)) (part1 hpart) rfl (by omega))) ?_
      refine fj_val rfl rfl rfl (wn0 rfl) (fun R1 hR1 G => (y_move rfl)) ?_
      refine fj_val rfl rfl rfl (wn0 rfl) (fun R1 hR1 G => (y_nilCheck rfl)) ?_
      refine fj_val rfl rfl rfl (wn0 rfl) (fun R1 hR1 G => (y_fieldAddr (k := 0) Try.underlying63 rfl (n := 1) (by decide) Try.sizeOf61 rfl)) ?_
      first | refine fj_val rfl rfl rfl (wn0 rfl) (fun R1 hR1 G => (y_load ⟨Try.isAgg61, Try.sizeOf61⟩ rfl (by ((repeat (first | exact Find.head _ | apply Find.tail)); done)) rfl)) ?_ | refine fj_val rfl rfl rfl (wn0 rfl) (fun R1 hR1 G => (y_load_slc ⟨Try.isAgg61, Try.sizeOf61⟩ rfl (by ((repeat (first | exact Find.head _ | apply Find.tail)); done)) rfl)) ?_
      refine fj_val rfl rfl rfl (wn0 rfl) (fun R1 hR1 G => (y_move rfl)) ?_
      refine fj_val rfl rfl rfl (wn0 rfl) (fun R1 hR1 G => (y_index_slc (sz := 11) (n := st.length) Try.underlying61 Try.sizeOf67 rfl rfl (by ((repeat (first | exact Find.head _ | apply Find.tail)); done)) (by omega))) ?_
      refine fj_val rfl rfl rfl (wn0 rfl) (fun R1 hR1 G => (y_fieldAddr_slc (k := 0) Try.underlying67 rfl (m := 1) (by decide) Try.sizeOf27 rfl (by ((repeat (first | exact Find.head _ | apply Find.tail)); done)) (by omega))) ?_
      refine fj_val rfl rfl rfl (wn0 rfl) (fun R1 hR1 G => (y_load_slc ⟨Try.isAgg27, Try.sizeOf27⟩ rfl (by ((repeat (first | exact Find.head _ | apply Find.tail)); done)) (part0 hpart))) ?_
      refine fj_nil ?_
      refine xj_rj rfl ?_
      try simp only [List.cons_append, List.nil_append, List.append_nil]
      refine rj_call (wn0 rfl) rfl Try.call24 rfl (own_t m ve hve hmm) (by (repeat (first | exact Split.nil _ | (apply Split.cons; focus (repeat (first | exact Find.head _ | apply Find.tail)))))) (fun _ _ _ _ h => h.elim) ?_
      rintro r R2 L' hR2 ⟨rfl, ve', rfl, hve'⟩
      try simp only [List.cons_append, List.nil_append]
      refine rj_xk (by (first | exact Hp.le_refl _ | assumption | exact Hp.le_trans ‹_› ‹_›)) (by (repeat (first | exact Sub.refl _ | (apply Sub.pick; focus (repeat (first | exact Find.head _ | apply Find.tail))) | apply Sub.drop | exact Sub.tailApp _ _))) ?_
      refine xj_rj rfl ?_
      try simp only [List.cons_append, List.nil_append, List.append_nil]
      refine rj_stores ⟨Try.isAgg32, Try.sizeOf32⟩ rfl (wn0 rfl) rfl rfl (msgE.one (R := R2) (x := m) ⟨ve', rfl, hve'⟩) (by ((repeat (first | exact Find.head _ | apply Find.tail)); done)) (by exact Nat.le_refl 10) rfl ?_
      refine rj_xk (by (first | exact Hp.le_refl _ | assumption | exact Hp.le_trans ‹_› ‹_›)) (by (repeat (first | exact Sub.refl _ | (apply Sub.pick; focus (repeat (first | exact Find.head _ | apply Find.tail))) | apply Sub.drop | exact Sub.tailApp _ _))) ?_
      refine xj_nil ?_
      try simp only [List.cons_append, List.nil_append, List.append_nil]
      refine rj_val (wn0 rfl) rfl rfl (y_assign rfl) ?_
      refine rj_val (wn0 rfl) rfl rfl (y_assign rfl) ?_
      refine rj_nil ?_
      refine hK7 _ _ _ ?_
      refine cj_env (Env.le_cons (t := 4) rfl (Env.le_cons (t := 5) rfl (Env.le_cons (t := 6) rfl (Env.le_nil _)))) ?_
      refine cj_ret ?_
      refine hret _ _ _ ?_
      apply ej_ret Try.results18 (.cons (rv_cells ⟨Try.isAgg32, Try.sizeOf32⟩ rfl (by ((repeat (first | exact Find.head _ | apply Find.tail)); done)) rfl rfl) (.cons (rv_tmp rfl) (.cons (rv_tmp rfl) .nil))) _ [netB b v last, netS v st css] (by (first | exact Hp.le_refl _ | assumption | exact Hp.le_trans ‹_› ‹_›)) rfl
      case hp => rw [ea, eb]; exact ⟨rfl, ve', rfl, hve'⟩
      case hS => (repeat (first | exact Sub.refl _ | (apply Sub.pick; focus (repeat (first | exact Find.head _ | apply Find.tail))) | apply Sub.drop | exact Sub.tailApp _ _))
end V
end Go.Proofs.Ythdmbdbncbdmiaa
