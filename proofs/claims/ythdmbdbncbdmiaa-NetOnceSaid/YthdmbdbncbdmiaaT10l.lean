/- The laws of layer 10 walked: what awakes, NetBytes, NetTo. -/
import Derived.Test.YthdmbdbncbdmiaaT10g
set_option linter.unusedSimpArgs false
set_option linter.unusedVariables false
set_option maxRecDepth 100000
namespace Go.Proofs.Ythdmbdbncbdmiaa
open Go.RowKit
namespace V
set_option maxHeartbeats 4000000
def am1 : Msg := ⟨0, 0, 1, 7, 0, 0, 0, false, [(0, [97])], []⟩
def am2 : Msg := ⟨0, 0, 2, 0, 0, 0, 0, false, [], []⟩
theorem am1_bd : am1.Bd := ⟨by simp [i64B, am1], by simp [i64B, am1], by simp [i64B, am1], by simp [u64B, am1], by simp [u64B, am1], by simp [u64B, am1], by simp [u64B, am1], fun e he => by simp [am1] at he; subst he; simp [u64B, maxLen], by simp [am1, maxLen]⟩
theorem am_small : ∀ m ∈ [am1, am2], smallM m := fun m hm => by
  simp at hm
  rcases hm with rfl | rfl
  · simp [smallM, am1]
  · simp [smallM, am2]
theorem am_smallS {st : List One1} (h : ∀ x ∈ st, x.2 ∈ [am1, am2]) : smallS st := fun x hx => am_small _ (h x hx)
theorem am1_fits : Fits am1 := ⟨am1_bd, by decide, fun e he => by simp [am1] at he; subst he; simp [big], by simp [am1, big]⟩
theorem awake_t {R : Hp} : Tri Try.prog 7 [] R [] (fun v R' L' => v = .bool true ∧ L' = []) := by
  have hrd := readMsg_bytes am1_bd (by decide) (by decide) (by decide) (by decide) (by decide)
  refine tri_of Try.func7 rfl Try.ntmps7 rfl (fun σ F Q hret hend hpan => ?_)
  try simp only [List.cons_append, List.nil_append]
  refine cj_env (Env.le_nil _) ?_
  refine cj_seq (fun K1 hK1 => ?_)
  refine cj_region ?_
  refine rj_val (wn0 rfl) rfl rfl (y_assign rfl) ?_
  refine rj_nil ?_
  refine hK1 _ _ _ ?_
  refine cj_seq (fun K2 hK2 => ?_)
  refine cj_region ?_
  refine rj_call (wn0 rfl) rfl Try.call8 rfl (netNew_t) (by (repeat (first | exact Split.nil _ | (apply Split.cons; focus (repeat (first | exact Find.head _ | apply Find.tail)))))) (fun _ _ _ _ h => h.elim) ?_
  rintro r R1 L' hR1 ⟨rfl, bn, rfl, rfl⟩
  try simp only [List.cons_append, List.nil_append]
  refine rj_val (wn0 rfl) rfl rfl (y_assign rfl) ?_
  refine rj_nil ?_
  refine hK2 _ _ _ ?_
  refine cj_seq (fun K3 hK3 => ?_)
  refine cj_region ?_
  refine rj_val (wn0 rfl) rfl rfl (y_move rfl) ?_
  refine rj_val (wn0 rfl) rfl rfl (y_build (cells := [_, _]) [(0, 1), (1, 1)] Try.underlying60 Try.zeroValue60 (fun _ => rfl) rfl rfl) ?_
  refine rj_buildSlice (sz := 2) (wn0 rfl) rfl Try.underlying30 Try.sizeOf60 Try.zeroValue60 rfl rfl rfl (by decide) (by decide) (fun be => ?_)
  refine rj_freeze (e := 60) (sz := 2) (n := 1) (v := .slice (some ⟨be, 0, none⟩) 1 1) (xs := [.int .u64 0, .string (str [97])]) (by ((repeat (first | exact Find.head _ | apply Find.tail)); done)) (fun R2 hR2 hfr hxl => ?_)
  have hfe : FrX entE R2 am1.es (.slice (some ⟨be, 0, none⟩) 1 1) := FrozenS.frx (l := [(0, [97])]) (css := [[.int .u64 0, .string (str [97])]]) hfr (Els.single (T := entE) rfl)
  refine rj_val (wn0 rfl) rfl rfl (y_build (cells := [_, _, _, _, _, _, _, _, _, _]) [(0, 1), (1, 1), (2, 1), (3, 1), (4, 1), (5, 1), (6, 1), (7, 1), (8, 1), (9, 1)] Try.underlying32 Try.zeroValue32 (fun _ => rfl) rfl rfl) ?_
  refine rj_val (wn0 rfl) rfl rfl (y_build (cells := [_, _, _, _, _, _, _, _, _, _]) [(0, 1), (1, 1), (2, 1), (3, 1), (4, 1), (5, 1), (6, 1), (7, 1), (8, 1), (9, 1)] Try.underlying32 Try.zeroValue32 (fun _ => rfl) rfl rfl) ?_
  refine rj_buildSlice (sz := 10) (wn0 rfl) rfl Try.underlying64 Try.sizeOf32 Try.zeroValue32 rfl rfl rfl (by decide) (by decide) (fun bm => ?_)
  refine rj_freeze (e := 32) (sz := 10) (n := 2) (v := .slice (some ⟨bm, 0, none⟩) 2 2) (xs := [msgC am1 (.slice (some ⟨be, 0, none⟩) 1 1), msgC am2 (.slice none 0 0)].flatten) (by ((repeat (first | exact Find.head _ | apply Find.tail)); done)) (fun R3 hR3 hfr3 hxl3 => ?_)
  have hfm : FrX msgE R3 [am1, am2] (.slice (some ⟨bm, 0, none⟩) 2 2) := FrozenS.frx (l := [am1, am2]) hfr3 ((Els.single (T := msgE) (y := am1) ⟨_, rfl, hfe.mono hR3⟩).snoc (y := am2) ⟨_, rfl, FrX.nil⟩)
  refine rj_call (wn0 rfl) rfl Try.call11 rfl (netPut_t bn _ 0 [] [] Els.nil _ [am1, am2] hfm am_small (by simp) (by simp)) (by (repeat (first | exact Split.nil _ | (apply Split.cons; focus (repeat (first | exact Find.head _ | apply Find.tail)))))) (fun _ _ _ _ h => h.elim) ?_
  rintro r R4 L' hR4 ⟨v4, css4, hk4, rfl⟩
  rw [show ([] : List One1) ++ numb 0 [am1, am2] = [(1, am1), (2, am2)] from rfl] at hk4 ⊢
  rw [show (0 : Int) + (([am1, am2].length : Nat) : Int) = 2 from rfl]
  try simp only [List.cons_append, List.nil_append]
  refine rj_nil ?_
  refine hK3 _ _ _ ?_
  refine cj_env (Env.le_cons (t := 1) rfl (Env.le_nil _)) ?_
  refine cj_seq (fun K4 hK4 => ?_)
  refine cj_region ?_
  refine rj_val (wn0 rfl) rfl rfl (y_move rfl) ?_
  refine rj_call (wn0 rfl) rfl Try.call16 rfl (netTwice_t bn v4 2 [(1, am1), (2, am2)] css4 hk4 (am_smallS (by decide)) (by simp) (by simp) 0) (by (repeat (first | exact Split.nil _ | (apply Split.cons; focus (repeat (first | exact Find.head _ | apply Find.tail)))))) (fun _ _ _ _ h => h.elim) ?_
  rintro r R5 L' hR5 ⟨rfl, v5, css5, hk5, rfl⟩
  rw [show twL [(1, am1), (2, am2)] 2 0 = [(1, am1), (2, am2), (3, am1)] by decide] at hk5 ⊢
  rw [show twN [(1, am1), (2, am2)] 2 0 = 3 by decide, show hasB [(1, am1), (2, am2)] 0 = true by decide]
  try simp only [List.cons_append, List.nil_append]
  refine rj_val (wn0 rfl) rfl rfl (y_assign rfl) ?_
  refine rj_nil ?_
  refine hK4 _ _ _ ?_
  refine cj_seq (fun K5 hK5 => ?_)
  refine cj_region ?_
  refine rj_val (wn0 rfl) rfl rfl (y_move rfl) ?_
  refine rj_call (wn0 rfl) rfl Try.call13 rfl (netTake_t bn v5 3 [(1, am1), (2, am2), (3, am1)] css5 hk5 (am_smallS (by decide)) (by simp) 0) (by (repeat (first | exact Split.nil _ | (apply Split.cons; focus (repeat (first | exact Find.head _ | apply Find.tail)))))) (fun _ _ _ _ h => h.elim) ?_
  rintro r R6 L' hR6 ⟨⟨ve6, rfl, hve6⟩, v6, css6, hk6, rfl⟩
  rw [show dropL [(1, am1), (2, am2), (3, am1)] 0 = [(2, am2), (3, am1)] by decide] at hk6 ⊢
  rw [show atM [(1, am1), (2, am2), (3, am1)] 0 = (1, am1) by decide] at hve6 ⊢
  rw [show hasB [(1, am1), (2, am2), (3, am1)] 0 = true by decide]
  dsimp only at hve6 ⊢
  try simp only [List.cons_append, List.nil_append]
  refine rj_val (wn0 rfl) rfl rfl (y_move rfl) ?_
  refine rj_val (wn0 rfl) rfl rfl (y_extract rfl rfl) ?_
  refine rj_val (wn0 rfl) rfl rfl (y_extract rfl rfl) ?_
  refine rj_alloc (wn0 rfl) rfl Try.zeroValue32 rfl (fun b3 => ?_)
  refine rj_stores ⟨Try.isAgg32, Try.sizeOf32⟩ rfl (wn0 rfl) rfl rfl (msgE.one (R := R6) (x := am1) ⟨_, rfl, hve6⟩) (by ((repeat (first | exact Find.head _ | apply Find.tail)); done)) (by exact Nat.le_refl 10) rfl ?_
  refine rj_val (wn0 rfl) rfl rfl (y_assign rfl) ?_
  refine rj_nil ?_
  refine hK5 _ _ _ ?_
  refine cj_env (Env.le_cons (t := 1) rfl (Env.le_cons (t := 2) rfl (Env.le_cons (t := 3) rfl (Env.le_cons (t := 4) rfl (Env.le_nil _))))) ?_
  refine cj_seq (fun K6 hK6 => ?_)
  refine cj_region ?_
  refine rj_val (wn0 rfl) rfl rfl ((y_loads_blk (vs := msgC am1 ve6) ⟨Try.isAgg32, Try.sizeOf32⟩ rfl (by ((repeat (first | exact Find.head _ | apply Find.tail)); done)) rfl rfl)) ?_
  refine rj_val (wn0 rfl) rfl rfl (y_call Try.call20 rfl (bytes_q am1 ve6 hve6 am1_fits) (by (repeat (first | exact Split.nil _ | (apply Split.cons; focus (repeat (first | exact Find.head _ | apply Find.tail))))))) ?_
  refine rj_call (wn0 rfl) rfl Try.call22 rfl (readNet_t (bytesM am1) (by have := hrd.2; unfold big; omega)) (by (repeat (first | exact Split.nil _ | (apply Split.cons; focus (repeat (first | exact Find.head _ | apply Find.tail)))))) (fun _ _ _ _ h => h.elim) ?_
  rintro r R7 L' hR7 ⟨rfl, ve7, rfl, hve7⟩
  rw [hrd.1] at hve7 ⊢
  dsimp only at hve7 ⊢
  obtain ⟨q7, cap7, rfl, _, _⟩ := hve7.shape
  try simp only [List.cons_append, List.nil_append]
  refine rj_val (wn0 rfl) rfl rfl (y_move rfl) ?_
  refine rj_val (wn0 rfl) rfl rfl (y_extract rfl rfl) ?_
  refine rj_val (wn0 rfl) rfl rfl (y_extract rfl rfl) ?_
  refine rj_alloc (wn0 rfl) rfl Try.zeroValue32 rfl (fun b5 => ?_)
  refine rj_stores ⟨Try.isAgg32, Try.sizeOf32⟩ rfl (wn0 rfl) rfl rfl (msgE.one (R := R7) (x := am1) ⟨_, rfl, hve7⟩) (by ((repeat (first | exact Find.head _ | apply Find.tail)); done)) (by exact Nat.le_refl 10) rfl ?_
  refine rj_val (wn0 rfl) rfl rfl (y_assign rfl) ?_
  refine rj_nil ?_
  refine hK6 _ _ _ ?_
  refine cj_env (Env.le_cons (t := 1) rfl (Env.le_cons (t := 2) rfl (Env.le_cons (t := 3) rfl (Env.le_cons (t := 4) rfl (Env.le_cons (t := 5) rfl (Env.le_cons (t := 6) rfl (Env.le_nil _))))))) ?_
  refine cj_seq (fun K7 hK7 => ?_)
  refine cj_region ?_
  refine rj_val (wn0 rfl) rfl rfl (y_move rfl) ?_
  refine rj_val (wn0 rfl) rfl rfl (y_move rfl) ?_
  refine rj_val (wn1 rfl rfl rfl rfl) rfl rfl (y_move rfl) ?_
  refine rj_val (wn0 rfl) rfl rfl (y_pick_t rfl rfl) ?_
  refine rj_val (wn0 rfl) rfl rfl (y_move rfl) ?_
  refine rj_val (wn1 rfl rfl rfl rfl) rfl rfl (y_move rfl) ?_
  refine rj_val (wn0 rfl) rfl rfl (y_pick_t rfl rfl) ?_
  refine rj_val (wn0 rfl) rfl rfl (y_move rfl) ?_
  refine rj_val (wn1 rfl rfl rfl rfl) rfl rfl (y_move rfl) ?_
  refine rj_val (wn1 rfl rfl rfl rfl) rfl rfl (y_call Try.call19 rfl (netLen_q bn v6 3 [(2, am2), (3, am1)] css6) (by (repeat (first | exact Split.nil _ | (apply Split.cons; focus (repeat (first | exact Find.head _ | apply Find.tail))))))) ?_
  refine rj_val (wn1 rfl rfl rfl rfl) rfl rfl (y_eql rfl rfl) ?_
  refine rj_val (wn0 rfl) rfl rfl (y_pick_t rfl rfl) ?_
  refine rj_val (wn0 rfl) rfl rfl (y_move rfl) ?_
  refine rj_val (wn1 rfl rfl rfl rfl) rfl rfl (y_fieldAddr (k := 3) Try.underlying32 rfl (n := 1) (by decide) Try.sizeOf27 rfl) ?_
  first | refine rj_val (wn1 rfl rfl rfl rfl) rfl rfl (y_load ⟨Try.isAgg27, Try.sizeOf27⟩ rfl (by ((repeat (first | exact Find.head _ | apply Find.tail)); done)) rfl) ?_ | refine rj_val (wn1 rfl rfl rfl rfl) rfl rfl (y_load_slc ⟨Try.isAgg27, Try.sizeOf27⟩ rfl (by ((repeat (first | exact Find.head _ | apply Find.tail)); done)) rfl) ?_
  refine rj_val (wn1 rfl rfl rfl rfl) rfl rfl (y_eql rfl rfl) ?_
  refine rj_val (wn0 rfl) rfl rfl (y_pick_t rfl rfl) ?_
  refine rj_val (wn0 rfl) rfl rfl (y_move rfl) ?_
  refine rj_val (wn1 rfl rfl rfl rfl) rfl rfl (y_fieldAddr (k := 3) Try.underlying32 rfl (n := 1) (by decide) Try.sizeOf27 rfl) ?_
  first | refine rj_val (wn1 rfl rfl rfl rfl) rfl rfl (y_load ⟨Try.isAgg27, Try.sizeOf27⟩ rfl (by ((repeat (first | exact Find.head _ | apply Find.tail)); done)) rfl) ?_ | refine rj_val (wn1 rfl rfl rfl rfl) rfl rfl (y_load_slc ⟨Try.isAgg27, Try.sizeOf27⟩ rfl (by ((repeat (first | exact Find.head _ | apply Find.tail)); done)) rfl) ?_
  refine rj_val (wn1 rfl rfl rfl rfl) rfl rfl (y_eql rfl rfl) ?_
  refine rj_val (wn0 rfl) rfl rfl (y_pick_t rfl rfl) ?_
  refine rj_val (wn0 rfl) rfl rfl (y_move rfl) ?_
  refine rj_val (wn1 rfl rfl rfl rfl) rfl rfl (y_fieldAddr (k := 8) Try.underlying32 rfl (n := 1) (by decide) Try.sizeOf30 rfl) ?_
  first | refine rj_val (wn1 rfl rfl rfl rfl) rfl rfl (y_load ⟨Try.isAgg30, Try.sizeOf30⟩ rfl (by ((repeat (first | exact Find.head _ | apply Find.tail)); done)) rfl) ?_ | refine rj_val (wn1 rfl rfl rfl rfl) rfl rfl (y_load_slc ⟨Try.isAgg30, Try.sizeOf30⟩ rfl (by ((repeat (first | exact Find.head _ | apply Find.tail)); done)) rfl) ?_
  first | refine rj_val (wn1 rfl rfl rfl rfl) rfl rfl (y_len_sl Try.underlying30 rfl) ?_ | refine rj_val (wn1 rfl rfl rfl rfl) rfl rfl (y_len_slc Try.underlying30 rfl (by ((repeat (first | exact Find.head _ | apply Find.tail)); done))) ?_
  refine rj_val (wn1 rfl rfl rfl rfl) rfl rfl (y_eql rfl rfl) ?_
  refine rj_val (wn0 rfl) rfl rfl (y_pick_t rfl rfl) ?_
  refine rj_val (wn0 rfl) rfl rfl (y_move rfl) ?_
  refine rj_val (wn1 rfl rfl rfl rfl) rfl rfl (y_move rfl) ?_
  refine rj_call (wn1 rfl rfl rfl rfl) rfl Try.call23 rfl (netTo_t bn v6 3 [(2, am2), (3, am1)] css6 (hk6.mono hR7) (by simp) 1) (by (repeat (first | exact Split.nil _ | (apply Split.cons; focus (repeat (first | exact Find.head _ | apply Find.tail)))))) (fun _ _ _ _ h => h.elim) ?_
  rintro r R8 L' hR8 ⟨rfl, rfl⟩
  rw [show toL [(2, am2), (3, am1)] 1 ([(2, am2), (3, am1)] : List One1).length = [1] by decide]
  try simp only [List.cons_append, List.nil_append]
  first | refine rj_val (wn1 rfl rfl rfl rfl) rfl rfl (y_len_sl Try.underlying52 rfl) ?_ | refine rj_val (wn1 rfl rfl rfl rfl) rfl rfl (y_len_slc Try.underlying52 rfl (by ((repeat (first | exact Find.head _ | apply Find.tail)); done))) ?_
  refine rj_val (wn1 rfl rfl rfl rfl) rfl rfl (y_eql rfl rfl) ?_
  refine rj_val (wn0 rfl) rfl rfl (y_pick_t rfl rfl) ?_
  refine rj_val (wn0 rfl) rfl rfl (y_assign rfl) ?_
  refine rj_nil ?_
  refine hK7 _ _ _ ?_
  refine cj_env (Env.le_cons (t := 0) rfl (Env.le_nil _)) ?_
  refine cj_ret ?_
  refine hret _ _ _ ?_
  apply ej_ret Try.results7 (.cons (rv_tmp rfl) .nil) _ [] (by first | exact Hp.le_trans hR2 (Hp.le_trans hR3 (Hp.le_trans hR4 (Hp.le_trans hR5 (Hp.le_trans hR6 hR7))))) rfl
  case hp => exact ⟨rfl, rfl⟩
  case hS => (repeat (first | exact Sub.refl _ | (apply Sub.pick; focus (repeat (first | exact Find.head _ | apply Find.tail))) | apply Sub.drop | exact Sub.tailApp _ _))
theorem small_fits {m : Msg} (h : m.Bd) (hs : smallB m = true) : Fits m := by
  obtain ⟨h1, h2, h3⟩ : m.es.length ≤ 12 ∧ m.state.length ≤ 100 ∧ ∀ e ∈ m.es, e.2.length ≤ 100 := of_decide_eq_true hs
  exact ⟨h, by omega, fun e he => by have := h3 e he; unfold big; omega, by unfold big; omega⟩
theorem bytes_has {m : Msg} (h : ¬ bytesM m = []) : hasBytes m = true := by
  cases hb : hasBytes m with
  | true => rfl
  | false => exact absurd (by unfold bytesM; rw [hb]; rfl) h
theorem readMsg_no {s : List UInt8} (h : (readMsg s).2 = false) : (readMsg s).1 = Msg.zero := by
  unfold readMsg at h ⊢
  cases hr : (readM s).2 with
  | false => simp
  | true =>
    rw [hr] at h
    simp only [if_true] at h ⊢
    cases hm : msgOfN (readM s).1 with
    | none => rfl
    | some m => rw [hm] at h; cases h
theorem netBytes_t {R : Hp} (cm : List Value) (y : MsgY) (hcl : cm.length = 10) (hy : msgR R cm y) (s : List UInt8) (hs : s.length ≤ maxLen) :
    Tri Try.prog 4 [.agg ⟨cm⟩, .string (str s)] R [] (fun v _ _ => v = .bool true) := by
  obtain ⟨⟨ve, rfl, hve⟩, hbd⟩ := msgR_E hcl hy
  obtain ⟨m, hm⟩ : ∃ m, m = msgOf y := ⟨_, rfl⟩
  rw [← hm] at hve hbd ⊢
  have hs2 : s.length ≤ 9223372036854775807 := by simp only [maxLen] at hs; omega
  obtain ⟨qv, capv, rfl, _, _⟩ := hve.shape
  refine tri_of Try.func4 rfl Try.ntmps4 rfl (fun σ F Q hret hend hpan => ?_)
  try simp only [List.cons_append, List.nil_append]
  refine cj_env (Env.le_cons (t := 0) rfl (Env.le_cons (t := 1) rfl (Env.le_nil _))) ?_
  refine cj_seq (fun K1 hK1 => ?_)
  refine cj_region ?_
  refine rj_box (wn0 rfl) rfl rfl rfl (fun b2 => ?_)
  refine rj_val (wn0 rfl) rfl rfl (y_assign rfl) ?_
  refine rj_nil ?_
  refine hK1 _ _ _ ?_
  refine cj_seq (fun K2 hK2 => ?_)
  refine cj_seq (fun K3 hK3 => ?_)
  refine cj_region ?_
  refine rj_call (wn0 rfl) rfl Try.call7 rfl (awake_t) (by (repeat (first | exact Split.nil _ | (apply Split.cons; focus (repeat (first | exact Find.head _ | apply Find.tail)))))) (fun _ _ _ _ h => h.elim) ?_
  rintro v R0 L' hR0 ⟨rfl, rfl⟩
  replace hve := hve.mono hR0
  try simp only [List.cons_append, List.nil_append]
  refine rj_val (wn0 rfl) rfl rfl (y_not rfl) ?_
  refine rj_nil ?_
  refine hK3 _ _ _ ?_
  refine cj_env (Env.le_cons (t := 1) rfl (Env.le_cons (t := 2) rfl (Env.le_cons (t := 11) rfl (Env.le_nil _)))) ?_
  refine cj_cond_f rfl ?_
  refine cj_skip ?_
  refine hK2 _ _ _ ?_
  refine cj_seq (fun K4 hK4 => ?_)
  refine cj_seq (fun K5 hK5 => ?_)
  refine cj_region ?_
  refine rj_val (wn0 rfl) rfl rfl ((y_loads_blk (vs := msgC m (.slice qv m.es.length capv)) ⟨Try.isAgg32, Try.sizeOf32⟩ rfl (by ((repeat (first | exact Find.head _ | apply Find.tail)); done)) rfl rfl)) ?_
  refine rj_val (wn0 rfl) rfl rfl (y_call Try.call9 rfl (small_q m _ hve) (by (repeat (first | exact Split.nil _ | (apply Split.cons; focus (repeat (first | exact Find.head _ | apply Find.tail))))))) ?_
  refine rj_val (wn0 rfl) rfl rfl (y_not rfl) ?_
  refine rj_val (wn0 rfl) rfl rfl (y_move rfl) ?_
  refine rj_part 15 rfl (fun hg15 => ?_) (fun hg15 => ?_)
  · try simp only [decide_eq_true_eq, decide_eq_false_iff_not, Bool.not_eq_true', Bool.not_eq_false', Bool.true_eq_false, Bool.false_eq_true] at hg15
    refine rj_skip (wn2 rfl rfl rfl rfl rfl) rfl rfl ?_
    refine rj_skip (wn2 rfl rfl rfl rfl rfl) rfl rfl ?_
    refine rj_skip (wn2 rfl rfl rfl rfl rfl) rfl rfl ?_
    refine rj_val (wn0 rfl) rfl rfl (y_pick_t rfl rfl) ?_
    refine rj_nil ?_
    refine hK5 _ _ _ ?_
    refine cj_env (Env.le_cons (t := 1) rfl (Env.le_cons (t := 2) rfl (Env.le_cons (t := 19) rfl (Env.le_nil _)))) ?_
    refine cj_cond_t rfl ?_
    refine cj_seq (fun K6 hK6 => ?_)
    refine cj_region ?_
    refine rj_val (wn0 rfl) rfl rfl (y_assign rfl) ?_
    refine rj_nil ?_
    refine hK6 _ _ _ ?_
    refine cj_env (Env.le_cons (t := 4) rfl (Env.le_nil _)) ?_
    refine cj_ret ?_
    refine hret _ _ _ ?_
    apply ej_ret Try.results4 (.cons (rv_tmp rfl) .nil) _ [] (by first | exact hR0 | exact Hp.le_trans hR0 hR2 | exact Hp.le_trans hR1 hR3) rfl
    case hp => rfl
    case hS => (repeat (first | exact Sub.refl _ | (apply Sub.pick; focus (repeat (first | exact Find.head _ | apply Find.tail))) | apply Sub.drop | exact Sub.tailApp _ _))
  · try simp only [decide_eq_true_eq, decide_eq_false_iff_not, Bool.not_eq_true', Bool.not_eq_false', Bool.true_eq_false, Bool.false_eq_true] at hg15
    refine rj_val (wn1 rfl rfl rfl rfl) rfl rfl (y_move rfl) ?_
    refine rj_val (wn1 rfl rfl rfl rfl) rfl rfl (y_slen Try.underlying9 rfl) ?_
    refine rj_val (wn1 rfl rfl rfl rfl) rfl rfl (y_gtr rfl rfl) ?_
    refine rj_val (wn0 rfl) rfl rfl (y_pick_f rfl rfl) ?_
    refine rj_nil ?_
    refine hK5 _ _ _ ?_
    refine cj_env (Env.le_cons (t := 1) rfl (Env.le_cons (t := 2) rfl (Env.le_cons (t := 19) rfl (Env.le_nil _)))) ?_
    refine cj_cond rfl (fun hc19 => ?_) (fun hc19 => ?_)
    · try simp only [decide_eq_true_eq, decide_eq_false_iff_not, Bool.not_eq_true', Bool.not_eq_false', Bool.true_eq_false, Bool.false_eq_true] at hc19
      refine cj_seq (fun K8 hK8 => ?_)
      refine cj_region ?_
      refine rj_val (wn0 rfl) rfl rfl (y_assign rfl) ?_
      refine rj_nil ?_
      refine hK8 _ _ _ ?_
      refine cj_env (Env.le_cons (t := 4) rfl (Env.le_nil _)) ?_
      refine cj_ret ?_
      refine hret _ _ _ ?_
      apply ej_ret Try.results4 (.cons (rv_tmp rfl) .nil) _ [] (by first | exact hR0 | exact Hp.le_trans hR0 hR2 | exact Hp.le_trans hR1 hR3) rfl
      case hp => rfl
      case hS => (repeat (first | exact Sub.refl _ | (apply Sub.pick; focus (repeat (first | exact Find.head _ | apply Find.tail))) | apply Sub.drop | exact Sub.tailApp _ _))
    · try simp only [decide_eq_true_eq, decide_eq_false_iff_not, Bool.not_eq_true', Bool.not_eq_false', Bool.true_eq_false, Bool.false_eq_true] at hc19
      refine cj_skip ?_
      refine hK4 _ _ _ ?_
      refine cj_seq (fun K9 hK9 => ?_)
      refine cj_region ?_
      have hsm : smallB m = true := by simpa using hg15
      have hfit := small_fits hbd hsm
      have hsl : s.length ≤ 2000 := by (try simp at hc19); omega
      refine rj_val (wn0 rfl) rfl rfl ((y_loads_blk (vs := msgC m (.slice qv m.es.length capv)) ⟨Try.isAgg32, Try.sizeOf32⟩ rfl (by ((repeat (first | exact Find.head _ | apply Find.tail)); done)) rfl rfl)) ?_
      refine rj_val (wn0 rfl) rfl rfl (y_call Try.call20 rfl (bytes_q m _ hve hfit) (by (repeat (first | exact Split.nil _ | (apply Split.cons; focus (repeat (first | exact Find.head _ | apply Find.tail))))))) ?_
      refine rj_val (wn0 rfl) rfl rfl (y_assign rfl) ?_
      refine rj_nil ?_
      refine hK9 _ _ _ ?_
      refine cj_env (Env.le_cons (t := 1) rfl (Env.le_cons (t := 2) rfl (Env.le_cons (t := 5) rfl (Env.le_nil _)))) ?_
      refine cj_seq (fun K10 hK10 => ?_)
      refine cj_seq (fun K11 hK11 => ?_)
      refine cj_region ?_
      refine rj_val (wn0 rfl) rfl rfl (y_move rfl) ?_
      refine rj_val (wn0 rfl) rfl rfl ((y_loads_blk (vs := msgC m (.slice qv m.es.length capv)) ⟨Try.isAgg32, Try.sizeOf32⟩ rfl (by ((repeat (first | exact Find.head _ | apply Find.tail)); done)) rfl rfl)) ?_
      refine rj_val (wn0 rfl) rfl rfl (y_call Try.call21 rfl (rbytesM_q m _ hve hfit hsm) (by (repeat (first | exact Split.nil _ | (apply Split.cons; focus (repeat (first | exact Find.head _ | apply Find.tail))))))) ?_
      refine rj_val (wn0 rfl) rfl rfl (y_sneq rfl rfl) ?_
      refine rj_eq 25 rfl (v' := .bool false) (by simp) ?_
      refine rj_nil ?_
      refine hK11 _ _ _ ?_
      refine cj_env (Env.le_cons (t := 1) rfl (Env.le_cons (t := 2) rfl (Env.le_cons (t := 5) rfl (Env.le_cons (t := 25) rfl (Env.le_nil _))))) ?_
      refine cj_cond_f rfl ?_
      refine cj_skip ?_
      refine hK10 _ _ _ ?_
      refine cj_seq (fun K12 hK12 => ?_)
      have hJ12 : ∀ (x : Hp), R.le x → EJ ⟨Try.prog, 77, σ⟩ K12 [(1, .string (str s))] x (F) := by
        rintro R1 hR1
        try dsimp only
        refine hK12 _ _ _ ?_
        refine cj_seq (fun K13 hK13 => ?_)
        refine cj_region ?_
        refine rj_val (wn0 rfl) rfl rfl (y_move rfl) ?_
        refine rj_call (wn0 rfl) rfl Try.call22 rfl (readNet_t s (by unfold big; omega)) (by (repeat (first | exact Split.nil _ | (apply Split.cons; focus (repeat (first | exact Find.head _ | apply Find.tail)))))) (fun _ _ _ _ h => h.elim) ?_
        rintro r R3 L' hR3 ⟨rfl, ve3, rfl, hve3⟩
        obtain ⟨rm, hrm⟩ : ∃ rm, rm = (readMsg s).1 := ⟨_, rfl⟩
        obtain ⟨rok, hrok⟩ : ∃ rok, rok = (readMsg s).2 := ⟨_, rfl⟩
        rw [← hrm] at hve3 ⊢
        rw [← hrok]
        have hb1 : rok = true → bytesM rm = s ∧ Fits rm := fun h => by rw [hrm]; exact read_back hsl (by rw [← hrok]; exact h)
        have hb2 : rok = false → rm = Msg.zero := fun h => by rw [hrm]; exact readMsg_no (by rw [← hrok]; exact h)
        obtain ⟨q3, cap3, rfl, _, _⟩ := hve3.shape
        try simp only [List.cons_append, List.nil_append]
        refine rj_val (wn0 rfl) rfl rfl (y_move rfl) ?_
        refine rj_val (wn0 rfl) rfl rfl (y_extract rfl rfl) ?_
        refine rj_val (wn0 rfl) rfl rfl (y_extract rfl rfl) ?_
        refine rj_alloc (wn0 rfl) rfl Try.zeroValue32 rfl (fun b8 => ?_)
        refine rj_stores ⟨Try.isAgg32, Try.sizeOf32⟩ rfl (wn0 rfl) rfl rfl (msgE.one (R := R3) (x := rm) ⟨_, rfl, hve3⟩) (by ((repeat (first | exact Find.head _ | apply Find.tail)); done)) (by exact Nat.le_refl 10) rfl ?_
        refine rj_val (wn0 rfl) rfl rfl (y_assign rfl) ?_
        refine rj_nil ?_
        refine hK13 _ _ _ ?_
        refine cj_env (Env.le_cons (t := 1) rfl (Env.le_cons (t := 8) rfl (Env.le_cons (t := 9) rfl (Env.le_nil _)))) ?_
        refine cj_seq (fun K14 hK14 => ?_)
        refine cj_region ?_
        refine rj_val (wn0 rfl) rfl rfl (y_move rfl) ?_
        refine rj_val (wn0 rfl) rfl rfl (y_move rfl) ?_
        refine rj_part 62 rfl (fun hg62 => ?_) (fun hg62 => ?_)
        · try simp only [decide_eq_true_eq, decide_eq_false_iff_not, Bool.not_eq_true', Bool.not_eq_false', Bool.true_eq_false, Bool.false_eq_true] at hg62
          refine rj_val (wn1 rfl rfl rfl rfl) rfl rfl (y_loads_blk (vs := msgC rm (.slice q3 rm.es.length cap3)) ⟨Try.isAgg32, Try.sizeOf32⟩ rfl (by ((repeat (first | exact Find.head _ | apply Find.tail)); done)) rfl rfl) ?_
          refine rj_val (wn1 rfl rfl rfl rfl) rfl rfl (y_call Try.call20 rfl (bytes_q rm _ hve3 (hb1 hg62).2) (by (repeat (first | exact Split.nil _ | (apply Split.cons; focus (repeat (first | exact Find.head _ | apply Find.tail))))))) ?_
          refine rj_val (wn1 rfl rfl rfl rfl) rfl rfl (y_move rfl) ?_
          refine rj_val (wn1 rfl rfl rfl rfl) rfl rfl (y_seql rfl rfl) ?_
          refine rj_eq 66 rfl (v' := .bool true) (by simp [(hb1 hg62).1]) ?_
          refine rj_val (wn0 rfl) rfl rfl (y_pick_t rfl rfl) ?_
          refine rj_val (wn0 rfl) rfl rfl (y_move rfl) ?_
          refine rj_skip (wn2 rfl rfl rfl rfl rfl) rfl rfl ?_
          refine rj_skip (wn2 rfl rfl rfl rfl rfl) rfl rfl ?_
          refine rj_skip (wn2 rfl rfl rfl rfl rfl) rfl rfl ?_
          refine rj_skip (wn3 rfl rfl rfl rfl) rfl rfl ?_
          refine rj_skip (wn3 rfl rfl rfl rfl) rfl rfl ?_
          refine rj_skip (wn3 rfl rfl rfl rfl) rfl rfl ?_
          refine rj_skip (wn2 rfl rfl rfl rfl rfl) rfl rfl ?_
          refine rj_val (wn0 rfl) rfl rfl (y_pick_t rfl rfl) ?_
          refine rj_val (wn0 rfl) rfl rfl (y_assign rfl) ?_
          refine rj_nil ?_
          refine hK14 _ _ _ ?_
          refine cj_env (Env.le_cons (t := 4) rfl (Env.le_nil _)) ?_
          refine cj_ret ?_
          refine hret _ _ _ ?_
          apply ej_ret Try.results4 (.cons (rv_tmp rfl) .nil) _ [] (by first | exact hR0 | exact Hp.le_trans hR0 hR2 | exact Hp.le_trans hR1 hR3) rfl
          case hp => rfl
          case hS => (repeat (first | exact Sub.refl _ | (apply Sub.pick; focus (repeat (first | exact Find.head _ | apply Find.tail))) | apply Sub.drop | exact Sub.tailApp _ _))
        · subst hg62
          refine rj_skip (wn2 rfl rfl rfl rfl rfl) rfl rfl ?_
          refine rj_skip (wn2 rfl rfl rfl rfl rfl) rfl rfl ?_
          refine rj_skip (wn2 rfl rfl rfl rfl rfl) rfl rfl ?_
          refine rj_skip (wn2 rfl rfl rfl rfl rfl) rfl rfl ?_
          refine rj_val (wn0 rfl) rfl rfl (y_pick_f rfl rfl) ?_
          refine rj_val (wn0 rfl) rfl rfl (y_move rfl) ?_
          refine rj_val (wn1 rfl rfl rfl rfl) rfl rfl (y_move rfl) ?_
          refine rj_val (wn1 rfl rfl rfl rfl) rfl rfl (y_not rfl) ?_
          refine rj_val (wn1 rfl rfl rfl rfl) rfl rfl (y_move rfl) ?_
          refine rj_val (wn1 rfl rfl rfl rfl) rfl rfl (y_loads_blk (vs := msgC rm (.slice q3 rm.es.length cap3)) ⟨Try.isAgg32, Try.sizeOf32⟩ rfl (by ((repeat (first | exact Find.head _ | apply Find.tail)); done)) rfl rfl) ?_
          refine rj_val (wn1 rfl rfl rfl rfl) rfl rfl (y_build (cells := [_, _, _, _, _, _, _, _, _, _]) [(0, 1), (1, 1), (2, 1), (3, 1), (4, 1), (5, 1), (6, 1), (7, 1), (8, 1), (9, 1)] Try.underlying32 Try.zeroValue32 (fun _ => rfl) rfl rfl) ?_
          refine rj_val (wn1 rfl rfl rfl rfl) rfl rfl (y_call Try.call14 rfl (msgSame_q rm Msg.zero _ (.slice none 0 0) hve3 FrX.nil) (by (repeat (first | exact Split.nil _ | (apply Split.cons; focus (repeat (first | exact Find.head _ | apply Find.tail))))))) ?_
          refine rj_eq 74 rfl (v' := .bool true) (by simp [hb2 rfl]) ?_
          refine rj_val (wn1 rfl rfl rfl rfl) rfl rfl (y_pick_t rfl rfl) ?_
          refine rj_val (wn0 rfl) rfl rfl (y_pick_f rfl rfl) ?_
          refine rj_val (wn0 rfl) rfl rfl (y_assign rfl) ?_
          refine rj_nil ?_
          refine hK14 _ _ _ ?_
          refine cj_env (Env.le_cons (t := 4) rfl (Env.le_nil _)) ?_
          refine cj_ret ?_
          refine hret _ _ _ ?_
          apply ej_ret Try.results4 (.cons (rv_tmp rfl) .nil) _ [] (by first | exact hR0 | exact Hp.le_trans hR0 hR2 | exact Hp.le_trans hR1 hR3) rfl
          case hp => rfl
          case hS => (repeat (first | exact Sub.refl _ | (apply Sub.pick; focus (repeat (first | exact Find.head _ | apply Find.tail))) | apply Sub.drop | exact Sub.tailApp _ _))
      refine cj_seq (fun K15 hK15 => ?_)
      refine cj_region ?_
      refine rj_val (wn0 rfl) rfl rfl (y_move rfl) ?_
      refine rj_val (wn0 rfl) rfl rfl (y_sneq rfl rfl) ?_
      refine rj_val (wn0 rfl) rfl rfl (y_move rfl) ?_
      refine rj_part 28 rfl (fun hg28 => ?_) (fun hg28 => ?_)
      · try simp only [decide_eq_true_eq, decide_eq_false_iff_not, Bool.not_eq_true', Bool.not_eq_false', Bool.true_eq_false, Bool.false_eq_true] at hg28
        refine rj_val (wn1 rfl rfl rfl rfl) rfl rfl (y_fieldAddr (k := 0) Try.underlying32 rfl (n := 1) (by decide) Try.sizeOf3 rfl) ?_
        first | refine rj_val (wn1 rfl rfl rfl rfl) rfl rfl (y_load ⟨Try.isAgg3, Try.sizeOf3⟩ rfl (by ((repeat (first | exact Find.head _ | apply Find.tail)); done)) rfl) ?_ | refine rj_val (wn1 rfl rfl rfl rfl) rfl rfl (y_load_slc ⟨Try.isAgg3, Try.sizeOf3⟩ rfl (by ((repeat (first | exact Find.head _ | apply Find.tail)); done)) rfl) ?_
        refine rj_val (wn1 rfl rfl rfl rfl) rfl rfl (y_leq rfl rfl) ?_
        refine rj_val (wn0 rfl) rfl rfl (y_pick_t rfl rfl) ?_
        refine rj_val (wn0 rfl) rfl rfl (y_move rfl) ?_
        refine rj_part 33 rfl (fun hg33 => ?_) (fun hg33 => ?_)
        · try simp only [decide_eq_true_eq, decide_eq_false_iff_not, Bool.not_eq_true', Bool.not_eq_false', Bool.true_eq_false, Bool.false_eq_true] at hg33
          refine rj_val (wn1 rfl rfl rfl rfl) rfl rfl (y_fieldAddr (k := 1) Try.underlying32 rfl (n := 1) (by decide) Try.sizeOf3 rfl) ?_
          first | refine rj_val (wn1 rfl rfl rfl rfl) rfl rfl (y_load ⟨Try.isAgg3, Try.sizeOf3⟩ rfl (by ((repeat (first | exact Find.head _ | apply Find.tail)); done)) rfl) ?_ | refine rj_val (wn1 rfl rfl rfl rfl) rfl rfl (y_load_slc ⟨Try.isAgg3, Try.sizeOf3⟩ rfl (by ((repeat (first | exact Find.head _ | apply Find.tail)); done)) rfl) ?_
          refine rj_val (wn1 rfl rfl rfl rfl) rfl rfl (y_lss rfl rfl) ?_
          refine rj_val (wn0 rfl) rfl rfl (y_pick_t rfl rfl) ?_
          refine rj_val (wn0 rfl) rfl rfl (y_move rfl) ?_
          refine rj_part 38 rfl (fun hg38 => ?_) (fun hg38 => ?_)
          · try simp only [decide_eq_true_eq, decide_eq_false_iff_not, Bool.not_eq_true', Bool.not_eq_false', Bool.true_eq_false, Bool.false_eq_true] at hg38
            refine rj_val (wn1 rfl rfl rfl rfl) rfl rfl (y_fieldAddr (k := 2) Try.underlying32 rfl (n := 1) (by decide) Try.sizeOf3 rfl) ?_
            first | refine rj_val (wn1 rfl rfl rfl rfl) rfl rfl (y_load ⟨Try.isAgg3, Try.sizeOf3⟩ rfl (by ((repeat (first | exact Find.head _ | apply Find.tail)); done)) rfl) ?_ | refine rj_val (wn1 rfl rfl rfl rfl) rfl rfl (y_load_slc ⟨Try.isAgg3, Try.sizeOf3⟩ rfl (by ((repeat (first | exact Find.head _ | apply Find.tail)); done)) rfl) ?_
            refine rj_val (wn1 rfl rfl rfl rfl) rfl rfl (y_lss rfl rfl) ?_
            refine rj_val (wn0 rfl) rfl rfl (y_pick_t rfl rfl) ?_
            refine rj_nil ?_
            refine hK15 _ _ _ ?_
            refine cj_env (Env.le_cons (t := 1) rfl (Env.le_cons (t := 2) rfl (Env.le_cons (t := 5) rfl (Env.le_cons (t := 42) rfl (Env.le_nil _))))) ?_
            refine cj_cond rfl (fun hc42 => ?_) (fun hc42 => ?_)
            · try simp only [decide_eq_true_eq, decide_eq_false_iff_not, Bool.not_eq_true', Bool.not_eq_false', Bool.true_eq_false, Bool.false_eq_true] at hc42
              refine cj_seq (fun K17 hK17 => ?_)
              refine cj_region ?_
              have hb : hasBytes m = true := bytes_has (by simpa using hg28)
              have hrd := readMsg_bytes hbd hb hsm (by simpa using hg33) (by simpa using hg38) (by simpa using hc42)
              refine rj_val (wn0 rfl) rfl rfl (y_move rfl) ?_
              refine rj_call (wn0 rfl) rfl Try.call22 rfl (readNet_t (bytesM m) (by have := hrd.2; unfold big; omega)) (by (repeat (first | exact Split.nil _ | (apply Split.cons; focus (repeat (first | exact Find.head _ | apply Find.tail)))))) (fun _ _ _ _ h => h.elim) ?_
              rintro r R2 L' hR2 ⟨rfl, ve2, rfl, hve2⟩
              rw [hrd.1] at hve2 ⊢
              dsimp only at hve2 ⊢
              try simp only [List.cons_append, List.nil_append]
              refine rj_val (wn0 rfl) rfl rfl (y_move rfl) ?_
              refine rj_val (wn0 rfl) rfl rfl (y_extract rfl rfl) ?_
              refine rj_val (wn0 rfl) rfl rfl (y_extract rfl rfl) ?_
              refine rj_alloc (wn0 rfl) rfl Try.zeroValue32 rfl (fun b6 => ?_)
              refine rj_stores ⟨Try.isAgg32, Try.sizeOf32⟩ rfl (wn0 rfl) rfl rfl (msgE.one (R := R2) (x := m) ⟨_, rfl, hve2⟩) (by ((repeat (first | exact Find.head _ | apply Find.tail)); done)) (by exact Nat.le_refl 10) rfl ?_
              refine rj_val (wn0 rfl) rfl rfl (y_assign rfl) ?_
              refine rj_nil ?_
              refine hK17 _ _ _ ?_
              refine cj_env (Env.le_cons (t := 1) rfl (Env.le_cons (t := 2) rfl (Env.le_cons (t := 6) rfl (Env.le_cons (t := 7) rfl (Env.le_nil _))))) ?_
              refine cj_seq (fun K18 hK18 => ?_)
              refine cj_region ?_
              refine rj_val (wn0 rfl) rfl rfl (y_move rfl) ?_
              refine rj_val (wn0 rfl) rfl rfl (y_not rfl) ?_
              refine rj_val (wn0 rfl) rfl rfl (y_move rfl) ?_
              refine rj_val (wn1 rfl rfl rfl rfl) rfl rfl (y_loads_blk (vs := msgC m ve2) ⟨Try.isAgg32, Try.sizeOf32⟩ rfl (by ((repeat (first | exact Find.head _ | apply Find.tail)); done)) rfl rfl) ?_
              refine rj_val (wn1 rfl rfl rfl rfl) rfl rfl (y_loads_blk (vs := msgC m (.slice qv m.es.length capv)) ⟨Try.isAgg32, Try.sizeOf32⟩ rfl (by ((repeat (first | exact Find.head _ | apply Find.tail)); done)) rfl rfl) ?_
              refine rj_val (wn1 rfl rfl rfl rfl) rfl rfl (y_call Try.call14 rfl (msgSame_q m m _ _ hve2 (hve.mono hR2)) (by (repeat (first | exact Split.nil _ | (apply Split.cons; focus (repeat (first | exact Find.head _ | apply Find.tail))))))) ?_
              refine rj_eq 53 rfl (v' := .bool true) (by simp) ?_
              refine rj_val (wn1 rfl rfl rfl rfl) rfl rfl (y_not rfl) ?_
              refine rj_val (wn0 rfl) rfl rfl (y_pick_f rfl rfl) ?_
              refine rj_nil ?_
              refine hK18 _ _ _ ?_
              refine cj_env (Env.le_cons (t := 1) rfl (Env.le_cons (t := 55) rfl (Env.le_nil _))) ?_
              refine cj_cond_f rfl ?_
              refine cj_skip ?_
              refine ej_join hJ12 (R2) (Hp.le_trans hR0 hR2) (Env.le_cons rfl (Env.le_nil _)) rfl (by (repeat (first | exact Sub.refl _ | (apply Sub.pick; focus (repeat (first | exact Find.head _ | apply Find.tail))) | apply Sub.drop | exact Sub.tailApp _ _)))
            · try simp only [decide_eq_true_eq, decide_eq_false_iff_not, Bool.not_eq_true', Bool.not_eq_false', Bool.true_eq_false, Bool.false_eq_true] at hc42
              refine cj_skip ?_
              refine ej_join hJ12 (R0) (hR0) (Env.le_cons rfl (Env.le_nil _)) rfl (by (repeat (first | exact Sub.refl _ | (apply Sub.pick; focus (repeat (first | exact Find.head _ | apply Find.tail))) | apply Sub.drop | exact Sub.tailApp _ _)))
          · try simp only [decide_eq_true_eq, decide_eq_false_iff_not, Bool.not_eq_true', Bool.not_eq_false', Bool.true_eq_false, Bool.false_eq_true] at hg38
            refine rj_skip (wn2 rfl rfl rfl rfl rfl) rfl rfl ?_
            refine rj_skip (wn2 rfl rfl rfl rfl rfl) rfl rfl ?_
            refine rj_skip (wn2 rfl rfl rfl rfl rfl) rfl rfl ?_
            refine rj_val (wn0 rfl) rfl rfl (y_pick_f rfl rfl) ?_
            refine rj_nil ?_
            refine hK15 _ _ _ ?_
            refine cj_env (Env.le_cons (t := 1) rfl (Env.le_cons (t := 2) rfl (Env.le_cons (t := 5) rfl (Env.le_cons (t := 42) rfl (Env.le_nil _))))) ?_
            refine cj_cond_f rfl ?_
            refine cj_skip ?_
            refine ej_join hJ12 (R0) (hR0) (Env.le_cons rfl (Env.le_nil _)) rfl (by (repeat (first | exact Sub.refl _ | (apply Sub.pick; focus (repeat (first | exact Find.head _ | apply Find.tail))) | apply Sub.drop | exact Sub.tailApp _ _)))
        · try simp only [decide_eq_true_eq, decide_eq_false_iff_not, Bool.not_eq_true', Bool.not_eq_false', Bool.true_eq_false, Bool.false_eq_true] at hg33
          refine rj_skip (wn2 rfl rfl rfl rfl rfl) rfl rfl ?_
          refine rj_skip (wn2 rfl rfl rfl rfl rfl) rfl rfl ?_
          refine rj_skip (wn2 rfl rfl rfl rfl rfl) rfl rfl ?_
          refine rj_val (wn0 rfl) rfl rfl (y_pick_f rfl rfl) ?_
          refine rj_val (wn0 rfl) rfl rfl (y_move rfl) ?_
          refine rj_skip (wn2 rfl rfl rfl rfl rfl) rfl rfl ?_
          refine rj_skip (wn2 rfl rfl rfl rfl rfl) rfl rfl ?_
          refine rj_skip (wn2 rfl rfl rfl rfl rfl) rfl rfl ?_
          refine rj_val (wn0 rfl) rfl rfl (y_pick_f rfl rfl) ?_
          refine rj_nil ?_
          refine hK15 _ _ _ ?_
          refine cj_env (Env.le_cons (t := 1) rfl (Env.le_cons (t := 2) rfl (Env.le_cons (t := 5) rfl (Env.le_cons (t := 42) rfl (Env.le_nil _))))) ?_
          refine cj_cond_f rfl ?_
          refine cj_skip ?_
          refine ej_join hJ12 (R0) (hR0) (Env.le_cons rfl (Env.le_nil _)) rfl (by (repeat (first | exact Sub.refl _ | (apply Sub.pick; focus (repeat (first | exact Find.head _ | apply Find.tail))) | apply Sub.drop | exact Sub.tailApp _ _)))
      · try simp only [decide_eq_true_eq, decide_eq_false_iff_not, Bool.not_eq_true', Bool.not_eq_false', Bool.true_eq_false, Bool.false_eq_true] at hg28
        refine rj_skip (wn2 rfl rfl rfl rfl rfl) rfl rfl ?_
        refine rj_skip (wn2 rfl rfl rfl rfl rfl) rfl rfl ?_
        refine rj_skip (wn2 rfl rfl rfl rfl rfl) rfl rfl ?_
        refine rj_val (wn0 rfl) rfl rfl (y_pick_f rfl rfl) ?_
        refine rj_val (wn0 rfl) rfl rfl (y_move rfl) ?_
        refine rj_skip (wn2 rfl rfl rfl rfl rfl) rfl rfl ?_
        refine rj_skip (wn2 rfl rfl rfl rfl rfl) rfl rfl ?_
        refine rj_skip (wn2 rfl rfl rfl rfl rfl) rfl rfl ?_
        refine rj_val (wn0 rfl) rfl rfl (y_pick_f rfl rfl) ?_
        refine rj_val (wn0 rfl) rfl rfl (y_move rfl) ?_
        refine rj_skip (wn2 rfl rfl rfl rfl rfl) rfl rfl ?_
        refine rj_skip (wn2 rfl rfl rfl rfl rfl) rfl rfl ?_
        refine rj_skip (wn2 rfl rfl rfl rfl rfl) rfl rfl ?_
        refine rj_val (wn0 rfl) rfl rfl (y_pick_f rfl rfl) ?_
        refine rj_nil ?_
        refine hK15 _ _ _ ?_
        refine cj_env (Env.le_cons (t := 1) rfl (Env.le_cons (t := 2) rfl (Env.le_cons (t := 5) rfl (Env.le_cons (t := 42) rfl (Env.le_nil _))))) ?_
        refine cj_cond_f rfl ?_
        refine cj_skip ?_
        refine ej_join hJ12 (R0) (hR0) (Env.le_cons rfl (Env.le_nil _)) rfl (by (repeat (first | exact Sub.refl _ | (apply Sub.pick; focus (repeat (first | exact Find.head _ | apply Find.tail))) | apply Sub.drop | exact Sub.tailApp _ _)))
end V
end Go.Proofs.Ythdmbdbncbdmiaa
