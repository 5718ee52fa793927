/- Records, walked: lists of entries, a record's bytes, what is written. -/
import Derived.Test.YtcgjlhhfldkdaaaT8a
set_option linter.unusedSimpArgs false
set_option linter.unusedVariables false
set_option maxRecDepth 100000
namespace Go.Proofs.Ytcgjlhhfldkdaaa
open Go.RowKit
namespace V
set_option maxHeartbeats 4000000
theorem rep_num {R : Hp} {n : Int} (h : u64B n) : RepN R (numN n.toNat) [.int .i64 0, .int .u64 n, .string (str []), .slice none 0 0] := by
  have := RepL.node (R := R) (k := 0) (n := n.toNat) (s := []) (by simp [big]) (RepL.nil R)
  rw [(toNat64 h).2] at this
  exact this
theorem rep_str {R : Hp} {s : Bs} (h : s.length ≤ big) : RepN R (strN s) [.int .i64 1, .int .u64 0, .string (str s), .slice none 0 0] :=
  RepL.node (R := R) (k := 1) (n := 0) (s := s) h (RepL.nil R)
theorem kids2 {R : Hp} {x y : Nd} {cx cy : List Value} (hx : RepN R x cx) (hy : RepN R y cy) : Kids R [x, y] [cx, cy] := ⟨rfl, fun i z cs h1 h2 => by
  match i with
  | 0 => cases h1; cases h2; exact hx
  | 1 => cases h1; cases h2; exact hy
  | i + 2 => simp at h1⟩
theorem kids3 {R : Hp} {x y z : Nd} {cx cy cz : List Value} (hx : RepN R x cx) (hy : RepN R y cy) (hz : RepN R z cz) : Kids R [x, y, z] [cx, cy, cz] := ⟨rfl, fun i w cs h1 h2 => by
  match i with
  | 0 => cases h1; cases h2; exact hx
  | 1 => cases h1; cases h2; exact hy
  | 2 => cases h1; cases h2; exact hz
  | i + 3 => simp at h1⟩
theorem clone0_q {R : Hp} : QTri Try.prog 47 [.slice none 0 0] R [] (.slice none 0 0) := by
  refine Tri.q2 ?_
  refine tri_of Try.func47 rfl Try.ntmps47 rfl (fun σ F Q hret hend hpan => ?_)
  try simp only [List.cons_append, List.nil_append]
  refine cj_env (eL 0 rfl eN) ?_
  refine cj_seq (fun K1 hK1 => ?_)
  refine cj_region ?_
  refine rv0 rfl rfl rfl (y_assign rfl) ?_
  refine rj_nil ?_
  refine hK1 _ _ _ ?_
  refine cj_seq (fun K2 hK2 => ?_)
  refine cj_seq (fun K3 hK3 => ?_)
  refine cj_region ?_
  refine rv0 rfl rfl rfl (y_move rfl) ?_
  refine rv0 rfl rfl rfl ((y_sleql Try.underlying60 rfl rfl)) ?_
  refine rj_nil ?_
  refine hK3 _ _ _ ?_
  refine cj_cond_t rfl ?_
  refine cj_seq (fun K4 hK4 => ?_)
  refine cj_region ?_
  refine rv0 rfl rfl rfl (y_assign rfl) ?_
  refine rj_nil ?_
  refine hK4 _ _ _ ?_
  refine cj_env (eL 2 rfl eN) ?_
  refine cj_ret ?_
  refine hret _ _ _ ?_
  apply ej_ret Try.results47 (.cons (rv_tmp rfl) .nil) _ [] (by (first | exact Hp.le_refl _ | assumption | exact Hp.le_trans ‹_› ‹_›)) rfl
  case hp => exact ⟨rfl, rfl⟩
  case hS => (repeat (first|exact zR _|(apply zP;focus (repeat (first|exact zH _|apply zT)))|apply zD|exact zA _ _))
theorem mkL0_q {R : Hp} : QTri Try.prog 39 [.slice none 0 0] R [] (.agg ⟨[.int .i64 2, .int .u64 0, .string (str []), .slice none 0 0]⟩) := by
  refine Tri.q2 ?_
  refine tri_of Try.func39 rfl Try.ntmps39 rfl (fun σ F Q hret hend hpan => ?_)
  try simp only [List.cons_append, List.nil_append]
  refine cj_env (eL 0 rfl eN) ?_
  refine cj_seq (fun K1 hK1 => ?_)
  refine cj_region ?_
  refine rj_alloc (wn0 rfl) rfl Try.zeroValue62 rfl (fun b2 => ?_)
  refine rj_nil ?_
  refine hK1 _ _ _ ?_
  refine cj_seq (fun K2 hK2 => ?_)
  refine cj_region ?_
  refine rv0 rfl rfl rfl (y_move rfl) ?_
  refine rv0 rfl rfl rfl (y_call Try.call47 rfl (clone0_q) (by (repeat (first|exact zN _|(apply zS;focus (repeat (first|exact zH _|apply zT))))))) ?_
  refine rv0 rfl rfl rfl (y_build (cells := [_, _, _, _]) [(0, 1), (1, 1), (2, 1), (3, 1)] Try.underlying62 Try.zeroValue62 (fun _ => rfl) rfl rfl) ?_
  refine rj_stores ⟨Try.isAgg62, Try.sizeOf62⟩ rfl (wn0 rfl) rfl rfl (by (first | (simp [Value.oneCell']; done) | (intro u hu; simp only [List.mem_cons, List.not_mem_nil, or_false] at hu; rcases hu with rfl | rfl | rfl | rfl <;> first | rfl | assumption))) (by (repeat (first|exact zH _|apply zT));done) (by (simp)) rfl ?_
  refine rj_nil ?_
  refine hK2 _ _ _ ?_
  refine cj_env (eL 2 rfl eN) ?_
  refine cj_ret ?_
  refine hret _ _ _ ?_
  apply ej_ret Try.results39 (.cons (rv_cells ⟨Try.isAgg62, Try.sizeOf62⟩ rfl (by (repeat (first|exact zH _|apply zT));done) rfl rfl) .nil) _ [] (by (first | exact Hp.le_refl _ | assumption | exact Hp.le_trans ‹_› ‹_›)) rfl
  case hp => exact ⟨rfl, rfl⟩
  case hS => (repeat (first|exact zR _|(apply zP;focus (repeat (first|exact zH _|apply zT)))|apply zD|exact zA _ _))
theorem map_snoc {α β : Type} {f : α → β} {l : List α} {i : Nat} {x : α} (h : l[i]? = some x) : (l.take (i + 1)).map f = (l.take i).map f ++ [f x] := by
  rw [List.take_add_one, h]; simp
theorem list_t {R : Hp} (l : List Ent) (v : Value) (hl : FrX entE R l v) (hb : ∀ e ∈ l, u64B e.1 ∧ e.2.length ≤ 1000000) (hn : l.length ≤ 100000) : Tri Try.prog 25 [v] R [] (fun r R' L' => (∃ cy, r = .agg ⟨cy⟩ ∧ RepN R' (listN l) cy) ∧ L' = []) := by
  obtain ⟨q, cap, rfl, hcap, hcm⟩ := hl.shape
  refine tri_of Try.func25 rfl Try.ntmps25 rfl (fun σ F Q hret hend hpan => ?_)
  try simp only [List.cons_append, List.nil_append]
  refine cj_env (eL 0 rfl eN) ?_
  refine cj_seq (fun K1 hK1 => ?_)
  refine cj_region ?_
  refine rj_alloc (wn0 rfl) rfl Try.zeroValue62 rfl (fun b2 => ?_)
  refine rj_nil ?_
  refine hK1 _ _ _ ?_
  refine cj_seq (fun K2 hK2 => ?_)
  refine cj_region ?_
  refine rv0 rfl rfl rfl (y_call Try.call39 rfl (mkL0_q) (by (repeat (first|exact zN _|(apply zS;focus (repeat (first|exact zH _|apply zT))))))) ?_
  refine rj_alloc (wn0 rfl) rfl Try.zeroValue62 rfl (fun b3 => ?_)
  refine rj_stores ⟨Try.isAgg62, Try.sizeOf62⟩ rfl (wn0 rfl) rfl rfl (by (first | (simp [Value.oneCell']; done) | (intro u hu; simp only [List.mem_cons, List.not_mem_nil, or_false] at hu; rcases hu with rfl | rfl | rfl | rfl <;> first | rfl | assumption))) (by (repeat (first|exact zH _|apply zT));done) (by (simp)) rfl ?_
  refine rj_add (A := slc 62 4 (.slice none 0 0) 0 ([] : List (List Value)).flatten) (slc_nil _ _) ?_
  refine rj_nil ?_
  refine hK2 _ _ _ ?_
  refine cj_seq (fun K3 hK3 => ?_)
  refine cj_seq (fun K4 hK4 => ?_)
  refine cj_region ?_
  refine rv0 rfl rfl rfl (y_move rfl) ?_
  first | refine rv0 rfl rfl rfl (y_len_sl Try.underlying22 rfl) ?_ | refine rv0 rfl rfl rfl (y_len_slc Try.underlying22 rfl (by (repeat (first|exact zH _|apply zT));done)) ?_
  refine rv0 rfl rfl rfl (y_move rfl) ?_
  refine rj_nil ?_
  refine hK4 _ _ _ ?_
  refine cj_block ?_
  refine cj_env (E' := (fun (x1 : Nat × Value × Hp × List (List Value)) => [(2, .pointer (some ⟨b2, 0, none⟩)), (3, .pointer (some ⟨b3, 0, none⟩)), (7, .slice q l.length cap), (8, .int .i64 (l.length : Int)), (9, .int .i64 (x1.1 : Int))]) (0, .slice none 0 0, R, [])) (eC rfl (eC rfl (eC rfl (eC rfl (eC rfl eN))))) ?_
  refine cj_sub (M := (fun (x1 : Nat × Value × Hp × List (List Value)) => slc 62 4 x1.2.1 x1.2.2.2.length x1.2.2.2.flatten :: blk b3 [.int .i64 2, .int .u64 0, .string (str []), x1.2.1] 62 :: blk b2 [.int .i64 0, .int .u64 0, .string (str []), .slice none 0 0] 62 :: F) (0, .slice none 0 0, R, [])) (by (repeat (first|exact zR _|(apply zP;focus (repeat (first|exact zH _|apply zT)))|apply zD|exact zA _ _))) ?_
  refine cj_loop (fun (x1 : Nat × Value × Hp × List (List Value)) => [(2, .pointer (some ⟨b2, 0, none⟩)), (3, .pointer (some ⟨b3, 0, none⟩)), (7, .slice q l.length cap), (8, .int .i64 (l.length : Int)), (9, .int .i64 (x1.1 : Int))]) (fun (x1 : Nat × Value × Hp × List (List Value)) => x1.2.2.1) (fun (x1 : Nat × Value × Hp × List (List Value)) => slc 62 4 x1.2.1 x1.2.2.2.length x1.2.2.2.flatten :: blk b3 [.int .i64 2, .int .u64 0, .string (str []), x1.2.1] 62 :: blk b2 [.int .i64 0, .int .u64 0, .string (str []), .slice none 0 0] 62 :: F) (fun (x1 : Nat × Value × Hp × List (List Value)) => x1.1 ≤ l.length ∧ x1.2.1.oneCell' = true ∧ R.le x1.2.2.1 ∧ Kids x1.2.2.1 ((l.take x1.1).map entN) x1.2.2.2) (fun (x1 : Nat × Value × Hp × List (List Value)) => l.length - x1.1) (0, .slice none 0 0, R, []) (⟨by simp, rfl, Hp.le_refl _, rfl, fun i x cs h => by simp at h⟩) ?_
  rintro ⟨i, vl, R3, css⟩ ⟨hi, hvl, hR3, hk⟩
  try dsimp only
  dsimp only at hi hvl hR3 hk
  refine cj_seq (fun K5 hK5 => ?_)
  refine cj_region ?_
  refine rv0 rfl rfl rfl (y_lss rfl rfl) ?_
  refine rj_nil ?_
  refine hK5 _ _ _ ?_
  refine cj_seq (fun K6 hK6 => ?_)
  refine cj_cond rfl (fun hc10 => ?_) (fun hc10 => ?_)
  ·try simp only [dT, dF, nT, nF, tF, fT] at hc10
   refine cj_skip ?_
   refine hK6 _ _ _ ?_
   refine cj_seq (fun K8 hK8 => ?_)
   refine cj_block ?_
   refine cj_seq (fun K9 hK9 => ?_)
   refine cj_region ?_
   have hi2 : i < l.length := by (try simp at hc10); omega
   obtain ⟨e, hx⟩ : ∃ x, l[i]? = some x := ⟨_, List.getElem?_eq_getElem hi2⟩
   obtain ⟨be, oe, ce, cse, hee, rfl, _, hcell⟩ := (hl.mono hR3).at hx
   obtain ⟨rfl, rfl⟩ : q = some ⟨be, oe, none⟩ ∧ cap = ce := by cases hee; exact ⟨rfl, rfl⟩
   obtain ⟨hb1, hb2⟩ := hb e (List.mem_of_getElem? hx)
   have hcssl : css.length = i := by have := hk.1; simp at this; omega
   first | refine rv0 rfl rfl rfl (y_indexAddr Try.underlying22 Try.sizeOf37 rfl rfl (by (first | omega | (dsimp only; omega) | (simp; done) | (simp; omega)))) ?_ | refine rv0 rfl rfl rfl (y_index_slc Try.underlying22 Try.sizeOf37 rfl rfl (by (repeat (first|exact zH _|apply zT));done) (by (first | omega | (dsimp only; omega) | (simp; done) | (simp; omega)))) ?_
   refine rv0 rfl rfl rfl ((y_loads_ro ⟨Try.isAgg37, Try.sizeOf37⟩ (vs := entC e) rfl rfl (fun j u hj => hcell j u hj))) ?_
   refine rj_alloc (wn0 rfl) rfl Try.zeroValue37 rfl (fun b5 => ?_)
   refine rj_stores_all (vs := entC e) ⟨Try.isAgg37, Try.sizeOf37⟩ rfl (wn0 rfl) rfl rfl (entE.one (R := R3) (x := e) rfl) (by (repeat (first|exact zH _|apply zT));done) rfl ?_
   refine rj_nil ?_
   refine hK9 _ _ _ ?_
   refine cj_env (eL 2 rfl (eL 3 rfl (eL 5 rfl (eL 7 rfl (eL 8 rfl (eL 9 rfl eN)))))) ?_
   refine cj_mixg (L := [blk b5 (entC e) 37, blk b3 [.int .i64 2, .int .u64 0, .string (str []), vl] 62]) [0, 1, 2, 3, 4, 5, 6, 7] [8, 9, 10] [11, 12, 13] _ (by (repeat (first|exact zR _|(apply zP;focus (repeat (first|exact zH _|apply zT)))|apply zD|exact zA _ _))) (by kernel_rfl) (by kernel_rfl) (by kernel_rfl) rfl ?_
   refine fj_val rfl rfl rfl (wn0 rfl) (fun R1 hR1 G => (y_fieldAddr (k := 3) Try.underlying62 rfl (n := 1) (by decide) Try.sizeOf60 rfl)) ?_
   first | refine fj_val rfl rfl rfl (wn0 rfl) (fun R1 hR1 G => (y_load ⟨Try.isAgg60, Try.sizeOf60⟩ rfl (by (repeat (first|exact zH _|apply zT));done) rfl)) ?_ | refine fj_val rfl rfl rfl (wn0 rfl) (fun R1 hR1 G => (y_load_slc ⟨Try.isAgg60, Try.sizeOf60⟩ rfl (by (repeat (first|exact zH _|apply zT));done) rfl)) ?_
   refine fj_val rfl rfl rfl (wn0 rfl) (fun R1 hR1 G => (y_fieldAddr (k := 0) Try.underlying37 rfl (n := 1) (by decide) Try.sizeOf25 rfl)) ?_
   refine fj_val rfl rfl rfl (wn0 rfl) (fun R1 hR1 G => (y_load ⟨Try.isAgg25, Try.sizeOf25⟩ rfl (by (repeat (first|exact zH _|apply zT));done) rfl)) ?_
   refine fj_val rfl rfl rfl (wn0 rfl) (fun R1 hR1 G => (y_call Try.call24 rfl (numN_q _) (by (repeat (first|exact zN _|(apply zS;focus (repeat (first|exact zH _|apply zT)))))))) ?_
   refine fj_val rfl rfl rfl (wn0 rfl) (fun R1 hR1 G => (y_fieldAddr (k := 1) Try.underlying37 rfl (n := 1) (by decide) Try.sizeOf9 rfl)) ?_
   refine fj_val rfl rfl rfl (wn0 rfl) (fun R1 hR1 G => (y_load ⟨Try.isAgg9, Try.sizeOf9⟩ rfl (by (repeat (first|exact zH _|apply zT));done) rfl)) ?_
   refine fj_val rfl rfl rfl (wn0 rfl) (fun R1 hR1 G => (y_call Try.call40 rfl (numS_q _) (by (repeat (first|exact zN _|(apply zS;focus (repeat (first|exact zH _|apply zT)))))))) ?_
   refine fj_nil ?_
   refine xj_rj rfl ?_
   try simp only [List.cons_append, List.nil_append, List.append_nil]
   refine rj_buildSlice (sz := 4) (wn0 rfl) rfl Try.underlying60 Try.sizeOf62 Try.zeroValue62 rfl rfl rfl (by decide) (by decide) (fun b21 => ?_)
   refine rj_xk (by (first | exact Hp.le_refl _ | assumption | exact Hp.le_trans ‹_› ‹_›)) (by (repeat (first|exact zR _|(apply zP;focus (repeat (first|exact zH _|apply zT)))|apply zD|exact zA _ _))) ?_
   refine xj_rj rfl ?_
   try simp only [List.cons_append, List.nil_append, List.append_nil]
   refine rj_call (wn0 rfl) rfl Try.call39 rfl (mkL_t (.slice (some ⟨b21, 0, none⟩) 2 2) [numN e.1.toNat, strN e.2] [[.int .i64 0, .int .u64 e.1, .string (str []), .slice none 0 0], [.int .i64 1, .int .u64 0, .string (str e.2), .slice none 0 0]] (kids2 (rep_num hb1) (rep_str (by unfold big; omega))) (by simp)) (by (repeat (first|exact zN _|(apply zS;focus (repeat (first|exact zH _|apply zT)))))) (fun _ _ _ _ h => h.elim) ?_
   rintro r R4 L' hR4 ⟨⟨cy, rfl, hrep⟩, rfl⟩
   obtain ⟨k0, n0, s0, l0, q0, cap0, _, rfl, _, _⟩ := hrep.inv
   replace hrep : RepN R4 (entN e) _ := hrep
   try simp only [List.cons_append, List.nil_append]
   refine rj_xk (by (first | exact Hp.le_refl _ | assumption | exact Hp.le_trans ‹_› ‹_›)) (by (repeat (first|exact zR _|(apply zP;focus (repeat (first|exact zH _|apply zT)))|apply zD|exact zA _ _))) ?_
   refine xj_rj rfl ?_
   try simp only [List.cons_append, List.nil_append, List.append_nil]
   refine rj_buildSlice (sz := 4) (wn0 rfl) rfl Try.underlying60 Try.sizeOf62 Try.zeroValue62 rfl rfl rfl (by decide) (by decide) (fun b23 => ?_)
   refine rj_xk (by (first | exact Hp.le_refl _ | assumption | exact Hp.le_trans ‹_› ‹_›)) (by (repeat (first|exact zR _|(apply zP;focus (repeat (first|exact zH _|apply zT)))|apply zD|exact zA _ _))) ?_
   refine xj_nil ?_
   try simp only [List.cons_append, List.nil_append, List.append_nil]
   refine rj_append (sz := 4) (by_ := 56) ⟨Try.underlying60, _, _, rfl, rfl, rfl, rfl, rfl⟩ (wn0 rfl) rfl rfl rfl (by (repeat (first|exact zH _|apply zT));done) (src_slc (xs := [.int .i64 k0, .int .u64 n0, .string (str s0), .slice q0 l0.length cap0]) Try.underlying60 (by (repeat (first|exact zH _|apply zT));done) (rep_one hrep)) rfl (by (first | omega | (dsimp only; omega) | (simp; done) | (simp; omega))) (by simp only [maxLen]; omega) (fun v24 ho24 hh24 => ?_)
   rw [flat_snoc, show css.length + 1 = (css ++ [[Value.int .i64 k0, .int .u64 n0, .string (str s0), .slice q0 l0.length cap0]]).length by simp]
   refine rv0 rfl rfl rfl (y_fieldAddr (k := 3) Try.underlying62 rfl (n := 1) (by decide) Try.sizeOf60 rfl) ?_
   refine rj_store ⟨Try.isAgg60, Try.sizeOf60⟩ (wn0 rfl) rfl rfl (by (first | rfl | assumption | (apply cutV_one; assumption))) (by (repeat (first|exact zH _|apply zT));done) rfl rfl ?_
   refine rj_nil ?_
   refine hK8 _ _ _ ?_
   refine cj_env (eL 2 rfl (eL 3 rfl (eL 7 rfl (eL 8 rfl (eL 9 rfl eN))))) ?_
   refine cj_region ?_
   first | refine rv0 rfl rfl rfl (y_add64 rfl rfl (by (first | omega | (dsimp only; omega) | (simp; done) | (simp; omega)))) ?_ | refine rv0 rfl rfl rfl (y_add rfl rfl) ?_
   refine rv0 rfl rfl rfl (y_move rfl) ?_
   refine rj_nil ?_
   refine ej_on (q' := roundK _ _ _ _ _ _ _) rfl ?_
   refine ej_round ((i + 1, v24, R4, css ++ [[.int .i64 k0, .int .u64 n0, .string (str s0), .slice q0 l0.length cap0]])) (⟨by dsimp only; omega, by assumption, Hp.le_trans hR3 hR4, by dsimp only; rw [map_snoc hx]; exact (hk.mono hR4).snoc hrep⟩) (by dsimp only; omega) (eC rfl (eC rfl (eC rfl (eC rfl (eC rfl eN))))) rfl (by (repeat (first|exact zR _|(apply zP;focus (repeat (first|exact zH _|apply zT)))|apply zD|exact zA _ _)))
  ·try simp only [dT, dF, nT, nF, tF, fT] at hc10
   refine cj_exit ?_
   refine hK3 _ _ _ ?_
   refine cj_env (eL 2 rfl (eL 3 rfl eN)) ?_
   refine cj_seq (fun K10 hK10 => ?_)
   refine cj_region ?_
   obtain rfl : i = l.length := by (try simp at hc10); omega
   rw [List.take_length] at hk
   refine rj_freeze (e := 62) (sz := 4) (n := css.length) (xs := css.flatten) (by (repeat (first|exact zH _|apply zT));done) (fun R4 hR4 hfr4 hxl4 => ?_)
   have hln : css.length = (l.map entN).length := hk.1
   rw [hln] at hfr4
   obtain ⟨q2, cap2, rfl, hrl⟩ := (hk.mono hR4).repL hfr4 (by unfold big; simp; omega)
   have hnode := hrl.node (k := 2) (n := 0) (s := []) (by simp [big])
   refine rv0 rfl rfl rfl ((y_loads_all (vs := [.int .i64 2, .int .u64 0, .string (str []), .slice q2 (l.map entN).length cap2]) ⟨Try.isAgg62, Try.sizeOf62⟩ rfl rfl (by (repeat (first|exact zH _|apply zT));done))) ?_
   refine rj_stores_all (vs := [.int .i64 2, .int .u64 0, .string (str []), .slice q2 (l.map entN).length cap2]) ⟨Try.isAgg62, Try.sizeOf62⟩ rfl (wn0 rfl) rfl rfl (rep_one hnode) (by (repeat (first|exact zH _|apply zT));done) rfl ?_
   refine rj_nil ?_
   refine hK10 _ _ _ ?_
   refine cj_ret ?_
   refine hret _ _ _ ?_
   apply ej_ret Try.results25 (.cons (rv_cells ⟨Try.isAgg62, Try.sizeOf62⟩ rfl (by (repeat (first|exact zH _|apply zT));done) rfl rfl) .nil) _ [] (by exact Hp.le_trans hR3 hR4) rfl
   case hp => exact ⟨⟨_, rfl, hnode⟩, rfl⟩
   case hS => (repeat (first|exact zR _|(apply zP;focus (repeat (first|exact zH _|apply zT)))|apply zD|exact zA _ _))
theorem bytes_be4 (n : Nat) (h : n ≤ 16777216) (x : Int) (hx : x = (n : Int)) : IntKind.u8.wrap (x.fdiv (2 ^ min (24 : Int).toNat IntKind.i64.bits)) = ((UInt8.ofNat (n / 16777216 % 256)).toNat : Int) ∧
    IntKind.u8.wrap (x.fdiv (2 ^ min (16 : Int).toNat IntKind.i64.bits)) = ((UInt8.ofNat (n / 65536 % 256)).toNat : Int) ∧
    IntKind.u8.wrap (x.fdiv (2 ^ min (8 : Int).toNat IntKind.i64.bits)) = ((UInt8.ofNat (n / 256 % 256)).toNat : Int) ∧ IntKind.u8.wrap x = ((UInt8.ofNat (n % 256)).toNat : Int) := by
  subst hx
  refine ⟨?_, ?_, ?_, wrap8 n⟩
  · rw [shr_nat n 24 24 rfl (by decide), wrap8]
  · rw [shr_nat n 16 16 rfl (by decide), wrap8]
  · rw [shr_nat n 8 8 rfl (by decide), wrap8]
theorem record_t {R : Hp} (v : Value) (ks : List Nd) (css : List (List Value)) (hk : Kids R ks css) (hn : ks.length ≤ 1000000) (hok : OkN (.mk 2 0 [] ks)) (hw : writeM (.mk 2 0 [] ks) = (wr (.mk 2 0 [] ks), true)) (hl : (wr (.mk 2 0 [] ks)).length ≤ 16777216) :
    Tri Try.prog 36 [v] R [slc 62 4 v ks.length css.flatten] (fun r R' L' => r = tupOf [.string (str (be4 (wr (.mk 2 0 [] ks)).length ++ wr (.mk 2 0 [] ks))), .bool true] ∧ L' = []) := by
  obtain ⟨s, hs⟩ : ∃ s, s = wr (.mk 2 0 [] ks) := ⟨_, rfl⟩
  obtain ⟨g1, g2, g3, g4⟩ := bytes_be4 s.length (by rw [hs]; exact hl) s.length rfl
  rw [← hs] at hl hw ⊢
  refine tri_of Try.func36 rfl Try.ntmps36 rfl (fun σ F Q hret hend hpan => ?_)
  try simp only [List.cons_append, List.nil_append]
  refine cj_env (eL 0 rfl eN) ?_
  refine cj_seq (fun K1 hK1 => ?_)
  refine cj_region ?_
  refine rv0 rfl rfl rfl (y_assign rfl) ?_
  refine rv0 rfl rfl rfl (y_assign rfl) ?_
  refine rj_nil ?_
  refine hK1 _ _ _ ?_
  refine cj_seq (fun K2 hK2 => ?_)
  refine cj_region ?_
  refine rv0 rfl rfl rfl (y_move rfl) ?_
  refine rj_call (wn0 rfl) rfl Try.call39 rfl (mkL_t v ks css hk hn) (by (repeat (first|exact zN _|(apply zS;focus (repeat (first|exact zH _|apply zT)))))) (fun _ _ _ _ h => h.elim) ?_
  rintro r R2 L' hR2 ⟨⟨cy, rfl, hrep⟩, rfl⟩
  try simp only [List.cons_append, List.nil_append]
  refine rv0 rfl rfl rfl (y_call Try.call46 rfl ((write_t _ cy hrep hok)) (by (repeat (first|exact zN _|(apply zS;focus (repeat (first|exact zH _|apply zT))))))) ?_
  refine rj_eq 10 rfl (v' := .tuple #[.string (str s), .bool true]) (by rw [hw]) ?_
  refine rv0 rfl rfl rfl (y_move rfl) ?_
  refine rv0 rfl rfl rfl (y_extract rfl rfl) ?_
  refine rv0 rfl rfl rfl (y_extract rfl rfl) ?_
  refine rv0 rfl rfl rfl (y_assign rfl) ?_
  refine rv0 rfl rfl rfl (y_assign rfl) ?_
  refine rj_nil ?_
  refine hK2 _ _ _ ?_
  refine cj_env (eL 4 rfl (eL 5 rfl eN)) ?_
  refine cj_seq (fun K3 hK3 => ?_)
  refine cj_region ?_
  refine rv0 rfl rfl rfl (y_move rfl) ?_
  refine rv0 rfl rfl rfl (y_slen Try.underlying9 rfl) ?_
  refine rv0 rfl rfl rfl (y_assign rfl) ?_
  refine rj_nil ?_
  refine hK3 _ _ _ ?_
  refine cj_seq (fun K4 hK4 => ?_)
  refine cj_region ?_
  refine rv0 rfl rfl rfl (y_move rfl) ?_
  refine rv0 rfl rfl rfl ((y_shr rfl rfl (by decide))) ?_
  refine rv0 rfl rfl rfl ((Yld.to (y_conv Try.underlying3 Try.underlying5 rfl) (congrArg (Value.int .u8) g1))) ?_
  refine rv0 rfl rfl rfl (y_move rfl) ?_
  refine rv0 rfl rfl rfl ((y_shr rfl rfl (by decide))) ?_
  refine rv0 rfl rfl rfl ((Yld.to (y_conv Try.underlying3 Try.underlying5 rfl) (congrArg (Value.int .u8) g2))) ?_
  refine rv0 rfl rfl rfl (y_move rfl) ?_
  refine rv0 rfl rfl rfl ((y_shr rfl rfl (by decide))) ?_
  refine rv0 rfl rfl rfl ((Yld.to (y_conv Try.underlying3 Try.underlying5 rfl) (congrArg (Value.int .u8) g3))) ?_
  refine rv0 rfl rfl rfl (y_move rfl) ?_
  refine rv0 rfl rfl rfl ((Yld.to (y_conv Try.underlying3 Try.underlying5 rfl) (congrArg (Value.int .u8) g4))) ?_
  refine rj_buildSlice (sz := 1) (wn0 rfl) rfl Try.underlying52 Try.sizeOf5 Try.zeroValue5 rfl rfl rfl (by decide) (by decide) (fun b26 => ?_)
  refine rj_turn (A := slc 5 1 (.slice (some ⟨b26, 0, none⟩) 4 4) 4 _) (B := slc 5 1 (.slice (some ⟨b26, 0, none⟩) 4 4) (be4 s.length).length (bytesV (be4 s.length))) (by (repeat (first|exact zH _|apply zT));done) (fun h hh => hh) ?_
  refine rv0 rfl rfl rfl (y_str_slc Try.underlying52 Try.underlying5 Try.underlying9 rfl (by (repeat (first|exact zH _|apply zT));done)) ?_
  refine rv0 rfl rfl rfl (y_move rfl) ?_
  refine rv0 rfl rfl rfl ((y_sadd rfl rfl (by rw [be4_len]; omega))) ?_
  refine rv0 rfl rfl rfl (y_move rfl) ?_
  refine rv0 rfl rfl rfl (y_assign rfl) ?_
  refine rv0 rfl rfl rfl (y_assign rfl) ?_
  refine rj_nil ?_
  refine hK4 _ _ _ ?_
  refine cj_env (eL 2 rfl (eL 3 rfl eN)) ?_
  refine cj_ret ?_
  refine hret _ _ _ ?_
  apply ej_ret Try.results36 (.cons (rv_tmp rfl) (.cons (rv_tmp rfl) .nil)) _ [] hR2 rfl
  case hp => exact ⟨rfl, rfl⟩
  case hS => (repeat (first|exact zR _|(apply zP;focus (repeat (first|exact zH _|apply zT)))|apply zD|exact zA _ _))
def DK.put (D : DK) (s : Bs) : Int × DK := if (D.append s).1 = 0 then (D.append s).2.sync else D.append s
theorem DK.append_ok {D : DK} {m : Nat} (h : D.ok m) (s : Bs) : (D.append s).2.ok (m + s.length) := by
  have h1 := DK.step_ok h
  unfold DK.append
  split
  · obtain ⟨a, b, c⟩ := h1
    exact ⟨by simp; omega, by simp; omega, c⟩
  · obtain ⟨a, b, c⟩ := h1
    exact ⟨a, Nat.le_trans b (by omega), c⟩
theorem DK.sync_ok {D : DK} {m : Nat} (h : D.ok m) : D.sync.2.ok m := by
  have h1 := DK.step_ok h
  unfold DK.sync
  split
  · obtain ⟨a, b, c⟩ := h1
    exact ⟨Nat.le_refl _, b, c⟩
  · exact h1
theorem DK.put_ok {D : DK} {m : Nat} (h : D.ok m) (s : Bs) : (D.put s).2.ok (m + s.length) := by
  unfold DK.put
  split
  · exact DK.sync_ok (DK.append_ok h s)
  · exact DK.append_ok h s
theorem lgWrite_t {R : Hp} (b bd : Nat) (v u : Value) (g : LG) (D : DK) (m : Nat) (r : Rec) (vk : Value) (css : List (List Value)) (hk : Kids R r.kids css) (hg : g.ok) (hr : r.may g) (hl : (wr r.nd).length ≤ 16777216) (hD : D.ok m) (hm : m ≤ 900000000) :
    Tri Try.prog 23 [.pointer (some ⟨b, 0, none⟩), vk] R [lgB b (some ⟨bd, 0, none⟩) v g, dkB bd u D, dkS u D, slc 62 4 vk r.kids.length css.flatten]
      (fun x R' L' => x = .int .i64 (D.put r.bytes).1 ∧ ∃ u', L' = [lgB b (some ⟨bd, 0, none⟩) v { g with down := g.down || !decide ((D.put r.bytes).1 = 0) }, dkB bd u' (D.put r.bytes).2, dkS u' (D.put r.bytes).2]) := by
  have hbl : r.bytes.length ≤ 16777220 := by unfold Rec.bytes; simp [be4_len]; omega
  have hap := DK.append_ok hD r.bytes
  have hkl : r.kids.length ≤ 1000000 := by cases r <;> simp [Rec.kids]
  unfold lgB lgC
  refine tri_of Try.func23 rfl Try.ntmps23 rfl (fun σ F Q hret hend hpan => ?_)
  try simp only [List.cons_append, List.nil_append]
  refine cj_env (eL 0 rfl (eL 1 rfl eN)) ?_
  refine cj_seq (fun K1 hK1 => ?_)
  refine cj_region ?_
  refine rv0 rfl rfl rfl (y_assign rfl) ?_
  refine rj_nil ?_
  refine hK1 _ _ _ ?_
  refine cj_seq (fun K2 hK2 => ?_)
  refine cj_region ?_
  refine rv0 rfl rfl rfl (y_move rfl) ?_
  refine rj_call (wn0 rfl) rfl Try.call36 rfl (record_t vk r.kids css hk hkl (Rec.okN hr hg) (Rec.write r hl) hl) (by (repeat (first|exact zN _|(apply zS;focus (repeat (first|exact zH _|apply zT)))))) (fun _ _ _ _ h => h.elim) ?_
  rintro x R2 L' hR2 ⟨rfl, rfl⟩
  rw [show be4 (wr (Nd.mk 2 0 [] r.kids)).length ++ wr (Nd.mk 2 0 [] r.kids) = r.bytes from rfl]
  try simp only [List.cons_append, List.nil_append]
  refine rv0 rfl rfl rfl (y_move rfl) ?_
  refine rv0 rfl rfl rfl (y_extract rfl rfl) ?_
  refine rv0 rfl rfl rfl (y_extract rfl rfl) ?_
  refine rv0 rfl rfl rfl (y_assign rfl) ?_
  refine rv0 rfl rfl rfl (y_assign rfl) ?_
  refine rj_nil ?_
  refine hK2 _ _ _ ?_
  refine cj_env (eL 0 rfl (eL 5 rfl (eL 6 rfl eN))) ?_
  refine cj_seq (fun K3 hK3 => ?_)
  refine cj_seq (fun K4 hK4 => ?_)
  refine cj_region ?_
  refine rv0 rfl rfl rfl (y_move rfl) ?_
  refine rv0 rfl rfl rfl (y_not rfl) ?_
  refine rj_nil ?_
  refine hK4 _ _ _ ?_
  refine cj_cond_f rfl ?_
  refine cj_skip ?_
  refine hK3 _ _ _ ?_
  refine cj_env (eL 0 rfl (eL 5 rfl eN)) ?_
  refine cj_seq (fun K5 hK5 => ?_)
  refine cj_region ?_
  refine rv0 rfl rfl rfl (y_move rfl) ?_
  refine rv0 rfl rfl rfl (y_nilCheck rfl) ?_
  refine rv0 rfl rfl rfl (y_fieldAddr (k := 0) Try.underlying58 rfl (n := 1) (by decide) Try.sizeOf29 rfl) ?_
  first | refine rv0 rfl rfl rfl (y_load ⟨Try.isAgg29, Try.sizeOf29⟩ rfl (by (repeat (first|exact zH _|apply zT));done) rfl) ?_ | refine rv0 rfl rfl rfl (y_load_slc ⟨Try.isAgg29, Try.sizeOf29⟩ rfl (by (repeat (first|exact zH _|apply zT));done) rfl) ?_
  refine rv0 rfl rfl rfl (y_move rfl) ?_
  refine rj_call (wn0 rfl) rfl Try.call37 rfl (append_t bd u D m hD r.bytes (by omega)) (by (repeat (first|exact zN _|(apply zS;focus (repeat (first|exact zH _|apply zT)))))) (fun _ _ _ _ h => h.elim) ?_
  rintro x R3 L' hR3 ⟨rfl, rfl, u2, rfl⟩
  try simp only [List.cons_append, List.nil_append]
  refine rv0 rfl rfl rfl (y_assign rfl) ?_
  refine rj_nil ?_
  refine hK5 _ _ _ ?_
  refine cj_env (eL 0 rfl (eL 7 rfl eN)) ?_
  refine cj_seq (fun K6 hK6 => ?_)
  have hJ7 : ∀ (x : Value × Int × DK), D.put r.bytes = x.2 → EJ ⟨Try.prog, 40, σ⟩ K6 [(0, .pointer (some ⟨b, 0, none⟩)), (7, .int .i64 x.2.1)] R2 (blk b [.pointer (some ⟨bd, 0, none⟩), .bool g.down, .int .u64 g.term, .int .i64 g.vote, .int .u64 g.base, .int .u64 g.baseT, .string (str g.state), v] 58 :: dkB bd x.1 x.2.2 :: dkS x.1 x.2.2 :: F) := by
   rintro ⟨u4, e4, D4⟩ hput
   try dsimp only
   dsimp only at hput
   refine hK6 _ _ _ ?_
   refine cj_seq (fun K7 hK7 => ?_)
   refine cj_region ?_
   refine rv0 rfl rfl rfl (y_move rfl) ?_
   refine rv0 rfl rfl rfl (y_move rfl) ?_
   refine rv0 rfl rfl rfl (y_nilCheck rfl) ?_
   refine rv0 rfl rfl rfl (y_fieldAddr (k := 1) Try.underlying58 rfl (n := 1) (by decide) Try.sizeOf4 rfl) ?_
   first | refine rv0 rfl rfl rfl (y_load ⟨Try.isAgg4, Try.sizeOf4⟩ rfl (by (repeat (first|exact zH _|apply zT));done) rfl) ?_ | refine rv0 rfl rfl rfl (y_load_slc ⟨Try.isAgg4, Try.sizeOf4⟩ rfl (by (repeat (first|exact zH _|apply zT));done) rfl) ?_
   refine rv0 rfl rfl rfl (y_move rfl) ?_
   refine rj_part 33 rfl (fun hg33 => ?_) (fun hg33 => ?_)
   ·have hgd : g.down = true := hg33
    refine rj_skip (wn2 rfl rfl rfl rfl rfl) rfl rfl ?_
    refine rj_skip (wn2 rfl rfl rfl rfl rfl) rfl rfl ?_
    refine rv0 rfl rfl rfl (y_pick_t rfl rfl) ?_
    refine rj_eq 36 rfl (v' := .bool (g.down || !decide (e4 = 0))) (by simp [hgd]) ?_
    refine rv0 rfl rfl rfl (y_nilCheck rfl) ?_
    refine rv0 rfl rfl rfl (y_fieldAddr (k := 1) Try.underlying58 rfl (n := 1) (by decide) Try.sizeOf4 rfl) ?_
    refine rj_store ⟨Try.isAgg4, Try.sizeOf4⟩ (wn0 rfl) rfl rfl (by (first | rfl | assumption | (apply cutV_one; assumption))) (by (repeat (first|exact zH _|apply zT));done) rfl rfl ?_
    refine rj_nil ?_
    refine hK7 _ _ _ ?_
    refine cj_env (eL 7 rfl eN) ?_
    refine cj_seq (fun K8 hK8 => ?_)
    refine cj_region ?_
    refine rv0 rfl rfl rfl (y_move rfl) ?_
    refine rv0 rfl rfl rfl (y_assign rfl) ?_
    refine rj_nil ?_
    refine hK8 _ _ _ ?_
    refine cj_ret ?_
    refine hret _ _ _ ?_
    apply ej_ret Try.results23 (.cons (rv_tmp rfl) .nil) _ [lgB b (some ⟨bd, 0, none⟩) v { g with down := or g.down (!decide (e4 = 0)) }, dkB bd u4 D4, dkS u4 D4] hR2 rfl
    case hp => rw [hput]; exact ⟨rfl, u4, rfl⟩
    case hS => (repeat (first|exact zR _|(apply zP;focus (repeat (first|exact zH _|apply zT)))|apply zD|exact zA _ _))
   ·have hgd : g.down = false := by simpa using hg33
    refine rj_val (wn1 rfl rfl rfl rfl) rfl rfl (y_move rfl) ?_
    refine rj_val (wn1 rfl rfl rfl rfl) rfl rfl (y_neq rfl rfl) ?_
    refine rv0 rfl rfl rfl (y_pick_f rfl rfl) ?_
    refine rj_eq 36 rfl (v' := .bool (g.down || !decide (e4 = 0))) (by simp [hgd]) ?_
    refine rv0 rfl rfl rfl (y_nilCheck rfl) ?_
    refine rv0 rfl rfl rfl (y_fieldAddr (k := 1) Try.underlying58 rfl (n := 1) (by decide) Try.sizeOf4 rfl) ?_
    refine rj_store ⟨Try.isAgg4, Try.sizeOf4⟩ (wn0 rfl) rfl rfl (by (first | rfl | assumption | (apply cutV_one; assumption))) (by (repeat (first|exact zH _|apply zT));done) rfl rfl ?_
    refine rj_nil ?_
    refine hK7 _ _ _ ?_
    refine cj_env (eL 7 rfl eN) ?_
    refine cj_seq (fun K9 hK9 => ?_)
    refine cj_region ?_
    refine rv0 rfl rfl rfl (y_move rfl) ?_
    refine rv0 rfl rfl rfl (y_assign rfl) ?_
    refine rj_nil ?_
    refine hK9 _ _ _ ?_
    refine cj_ret ?_
    refine hret _ _ _ ?_
    apply ej_ret Try.results23 (.cons (rv_tmp rfl) .nil) _ [lgB b (some ⟨bd, 0, none⟩) v { g with down := or g.down (!decide (e4 = 0)) }, dkB bd u4 D4, dkS u4 D4] hR2 rfl
    case hp => rw [hput]; exact ⟨rfl, u4, rfl⟩
    case hS => (repeat (first|exact zR _|(apply zP;focus (repeat (first|exact zH _|apply zT)))|apply zD|exact zA _ _))
  refine cj_seq (fun K10 hK10 => ?_)
  refine cj_region ?_
  refine rv0 rfl rfl rfl (y_move rfl) ?_
  refine rv0 rfl rfl rfl (y_eql rfl rfl) ?_
  refine rj_nil ?_
  refine hK10 _ _ _ ?_
  refine cj_cond rfl (fun hc22 => ?_) (fun hc22 => ?_)
  ·have f1 : (D.append r.bytes).1 = 0 := by simpa using hc22
   have f2 : D.put r.bytes = (D.append r.bytes).2.sync := by unfold DK.put; rw [if_pos f1]
   refine cj_region ?_
   refine rv0 rfl rfl rfl (y_move rfl) ?_
   refine rv0 rfl rfl rfl (y_nilCheck rfl) ?_
   refine rv0 rfl rfl rfl (y_fieldAddr (k := 0) Try.underlying58 rfl (n := 1) (by decide) Try.sizeOf29 rfl) ?_
   first | refine rv0 rfl rfl rfl (y_load ⟨Try.isAgg29, Try.sizeOf29⟩ rfl (by (repeat (first|exact zH _|apply zT));done) rfl) ?_ | refine rv0 rfl rfl rfl (y_load_slc ⟨Try.isAgg29, Try.sizeOf29⟩ rfl (by (repeat (first|exact zH _|apply zT));done) rfl) ?_
   refine rj_call (wn0 rfl) rfl Try.call38 rfl (sync_t bd u2 (D.append r.bytes).2 _ hap) (by (repeat (first|exact zN _|(apply zS;focus (repeat (first|exact zH _|apply zT)))))) (fun _ _ _ _ h => h.elim) ?_
   rintro x R4 L' hR4 ⟨rfl, rfl, u3, rfl⟩
   try simp only [List.cons_append, List.nil_append]
   refine rv0 rfl rfl rfl (y_assign rfl) ?_
   refine rj_nil ?_
   refine ej_join hJ7 ((u3, (D.append r.bytes).2.sync.1, (D.append r.bytes).2.sync.2)) (f2) (eC rfl (eC rfl eN)) rfl (by (repeat (first|exact zR _|(apply zP;focus (repeat (first|exact zH _|apply zT)))|apply zD|exact zA _ _)))
  ·have f1 : ¬ (D.append r.bytes).1 = 0 := by simpa using hc22
   have f2 : D.put r.bytes = D.append r.bytes := by unfold DK.put; rw [if_neg f1]
   refine cj_skip ?_
   refine ej_join hJ7 ((u2, (D.append r.bytes).1, (D.append r.bytes).2)) (f2) (eC rfl (eC rfl eN)) rfl (by (repeat (first|exact zR _|(apply zP;focus (repeat (first|exact zH _|apply zT)))|apply zD|exact zA _ _)))
end V
end Go.Proofs.Ytcgjlhhfldkdaaa
