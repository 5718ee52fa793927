/- The law EvalKinds, walked. -/
import Derived.Test.YtghgifgmacapcaaT18w
set_option linter.unusedSimpArgs false
set_option linter.unusedVariables false
set_option maxRecDepth 100000
namespace Go.Proofs.Ytghgifgmacapcaa
open Go.RowKit
namespace V
set_option maxHeartbeats 4000000
theorem evalKinds_t {R : Hp} (v0 : Value) (ys : List (Int × Int × List UInt8)) (h0 : slcR 3 vlR R [v0] ys) (c1 : List Value) (bs : List Bool) (h1 : arrR 3 1 boolR R c1 bs) (g : Bool) :
    Tri Try.prog 3 [v0, .agg ⟨c1⟩, .bool g] R [] (fun v _ _ => v = .bool true) := by
  obtain ⟨hst, hb⟩ := steps_in h0
  obtain ⟨rfl, hbl⟩ := bools_in h1
  have hvo := hst.one
  generalize ys.map stOf = l at hst hb
  refine tri_of Try.func3 rfl Try.ntmps3 rfl (fun σ F Q hret hend hpan => ?_)
  try simp only [List.cons_append, List.nil_append]
  refine cj_env (eL 0 rfl (eL 1 rfl (eL 2 rfl eN))) ?_
  refine cj_seq (fun K1 hK1 => ?_)
  refine cj_region ?_
  refine rj_box (wn0 rfl) rfl rfl rfl (fun b4 => ?_)
  refine rv0 rfl rfl rfl (y_assign rfl) ?_
  refine rj_nil ?_
  refine hK1 _ _ _ ?_
  refine cj_seq (fun K2 hK2 => ?_)
  refine cj_seq (fun K3 hK3 => ?_)
  refine cj_region ?_
  refine rj_call (wn0 rfl) rfl Try.call10 rfl (awake_t) (by (repeat (first|exact zN _|(apply zS;focus (repeat (first|exact zH _|apply zT)))))) (fun _ _ _ _ h => h.elim) ?_
  rintro v R0 L' hR0 ⟨rfl, rfl⟩
  replace hst := hst.mono hR0
  try simp only [List.cons_append, List.nil_append]
  refine rv0 rfl rfl rfl (y_not rfl) ?_
  refine rj_nil ?_
  refine hK3 _ _ _ ?_
  refine cj_env (eL 0 rfl (eL 2 rfl (eL 4 rfl (eL 14 rfl eN)))) ?_
  refine cj_cond_f rfl ?_
  refine cj_skip ?_
  refine hK2 _ _ _ ?_
  refine cj_seq (fun K4 hK4 => ?_)
  refine cj_region ?_
  refine rv0 rfl rfl rfl (y_move rfl) ?_
  refine rj_call (wn0 rfl) rfl Try.call11 rfl (pile_t l v0 hst hb) (by (repeat (first|exact zN _|(apply zS;focus (repeat (first|exact zH _|apply zT)))))) (fun _ _ _ _ h => h.elim) ?_
  rintro r R1 L' hR1 ⟨rfl, cs, ok, rfl, hcl, hco, hok⟩
  try simp only [List.cons_append, List.nil_append]
  refine rv0 rfl rfl rfl (y_move rfl) ?_
  refine rv0 rfl rfl rfl (y_extract rfl rfl) ?_
  refine rv0 rfl rfl rfl (y_extract rfl rfl) ?_
  refine rj_alloc (wn0 rfl) rfl Try.zeroValue29 rfl (fun b7 => ?_)
  refine rj_stores_all (vs := cs) ⟨Try.isAgg29, Try.sizeOf29⟩ hcl (wn0 rfl) rfl rfl hco (by (repeat (first|exact zH _|apply zT));done) rfl ?_
  refine rv0 rfl rfl rfl (y_assign rfl) ?_
  refine rj_nil ?_
  refine hK4 _ _ _ ?_
  refine cj_env (eL 2 rfl (eL 4 rfl (eL 7 rfl (eL 8 rfl eN)))) ?_
  refine cj_seq (fun K5 hK5 => ?_)
  refine cj_seq (fun K6 hK6 => ?_)
  refine cj_region ?_
  refine rv0 rfl rfl rfl (y_move rfl) ?_
  refine rv0 rfl rfl rfl (y_not rfl) ?_
  refine rj_nil ?_
  refine hK6 _ _ _ ?_
  refine cj_cond rfl (fun hc21 => ?_) (fun hc21 => ?_)
  ·try simp only [dT, dF, nT, nF, tF, fT] at hc21
   refine cj_seq (fun K8 hK8 => ?_)
   refine cj_region ?_
   refine rv0 rfl rfl rfl (y_assign rfl) ?_
   refine rj_nil ?_
   refine hK8 _ _ _ ?_
   refine cj_env (eL 6 rfl eN) ?_
   refine cj_ret ?_
   refine hret _ _ _ ?_
   apply ej_ret Try.results3 (.cons (rv_tmp rfl) .nil) _ [] (by first | exact Hp.le_trans hR0 hR1 | exact Hp.le_trans hR0 (Hp.le_trans hR1 (Hp.le_trans hR2 hR3))) rfl
   case hp => rfl
   case hS => (repeat (first|exact zR _|(apply zP;focus (repeat (first|exact zH _|apply zT)))|apply zD|exact zA _ _))
  ·obtain rfl : ok = true := by simpa using hc21
   obtain ⟨x, hw, hx⟩ := hok rfl
   refine cj_skip ?_
   refine hK5 _ _ _ ?_
   refine cj_env (eL 2 rfl (eL 4 rfl (eL 7 rfl eN))) ?_
   refine cj_seq (fun K9 hK9 => ?_)
   refine cj_mixt (L := [blk b7 cs 29, blk b4 (bs.map Value.bool) 23]) [0, 1, 3] [2] [4, 5, 6, 7, 8, 9] _ (by (repeat (first|exact zR _|(apply zP;focus (repeat (first|exact zH _|apply zT)))|apply zD|exact zA _ _))) (by kernel_rfl) (by kernel_rfl) ?_
   refine fj_val rfl rfl rfl (wn0 rfl) (fun R1 hR1 G => (y_loads_all (vs := cs) ⟨Try.isAgg29, Try.sizeOf29⟩ hcl rfl (by (repeat (first|exact zH _|apply zT));done))) ?_
   refine fj_val rfl rfl rfl (wn0 rfl) (fun R1 hR1 G => (y_loads_all (vs := bs.map Value.bool) ⟨Try.isAgg23, Try.sizeOf23⟩ (by simp [hbl]) rfl (by (repeat (first|exact zH _|apply zT));done))) ?_
   refine fj_val rfl rfl rfl (wn0 rfl) (fun R1 hR1 G => (y_move rfl)) ?_
   refine fj_nil ?_
   refine xj_rj rfl ?_
   try simp only [List.cons_append, List.nil_append, List.append_nil]
   refine rj_call (wn0 rfl) rfl Try.call13 rfl (cols_t bs hbl) (by (repeat (first|exact zN _|(apply zS;focus (repeat (first|exact zH _|apply zT)))))) (fun _ _ _ _ h => h.elim) ?_
   rintro v6 R2 L' hR2 ⟨hc6, rfl⟩
   try simp only [List.cons_append, List.nil_append]
   refine rj_xk (by (first | exact Hp.le_refl _ | assumption | exact Hp.le_trans ‹_› ‹_›)) (by (repeat (first|exact zR _|(apply zP;focus (repeat (first|exact zH _|apply zT)))|apply zD|exact zA _ _))) ?_
   refine xj_nil ?_
   try simp only [List.cons_append, List.nil_append, List.append_nil]
   refine tj_all (rs := [4]) (by kernel_rfl) (by decide) ⟨⟨_, rfl, ?_⟩, trivial⟩
   refine rv0 rfl rfl rfl (y_call Try.call12 rfl (Kind_q x cs (colsOf bs) v6 g hw (hx.mono hR2) hc6) (by (repeat (first|exact zN _|(apply zS;focus (repeat (first|exact zH _|apply zT))))))) ?_
   refine rj_tj ?_
   refine tj_all (rs := [5]) (by kernel_rfl) (by decide) ⟨⟨_, rfl, ?_⟩, trivial⟩
   refine rv0 rfl rfl rfl (y_move rfl) ?_
   refine rj_tj ?_
   refine tj_take (i := 6) rfl rfl rfl (by kernel_rfl) (by kernel_rfl) (by kernel_rfl) (wn0 rfl) rfl (fun σ => (y_extract rfl rfl)) ?_
   refine tj_take (i := 7) rfl rfl rfl (by kernel_rfl) (by kernel_rfl) (by kernel_rfl) (wn0 rfl) rfl (fun σ => (y_extract rfl rfl)) ?_
   refine tj_all (rs := [8]) (by kernel_rfl) (by decide) ⟨⟨_, rfl, ?_⟩, trivial⟩
   refine rv0 rfl rfl rfl (y_assign rfl) ?_
   refine rj_tj ?_
   refine tj_all (rs := [9]) (by kernel_rfl) (by decide) ⟨⟨_, rfl, ?_⟩, trivial⟩
   refine rv0 rfl rfl rfl (y_assign rfl) ?_
   refine rj_tj ?_
   refine tj_done (by kernel_rfl) ?_
   refine hK9 _ _ _ ?_
   refine cj_env (eL 2 rfl (eL 4 rfl (eL 7 rfl (eL 9 rfl (eL 10 rfl eN))))) ?_
   refine cj_seq (fun K10 hK10 => ?_)
   refine cj_mixt (L := [blk b7 cs 29, blk b4 (bs.map Value.bool) 23]) [0, 1, 3] [2] [4, 5, 6, 7, 8, 9] _ (by (repeat (first|exact zR _|(apply zP;focus (repeat (first|exact zH _|apply zT)))|apply zD|exact zA _ _))) (by kernel_rfl) (by kernel_rfl) ?_
   refine fj_val rfl rfl rfl (wn0 rfl) (fun R1 hR1 G => (y_loads_all (vs := cs) ⟨Try.isAgg29, Try.sizeOf29⟩ hcl rfl (by (repeat (first|exact zH _|apply zT));done))) ?_
   refine fj_val rfl rfl rfl (wn0 rfl) (fun R1 hR1 G => (y_loads_all (vs := bs.map Value.bool) ⟨Try.isAgg23, Try.sizeOf23⟩ (by simp [hbl]) rfl (by (repeat (first|exact zH _|apply zT));done))) ?_
   refine fj_val rfl rfl rfl (wn0 rfl) (fun R1 hR1 G => (y_move rfl)) ?_
   refine fj_nil ?_
   refine xj_rj rfl ?_
   try simp only [List.cons_append, List.nil_append, List.append_nil]
   refine rj_call (wn0 rfl) rfl Try.call13 rfl (cols_t bs hbl) (by (repeat (first|exact zN _|(apply zS;focus (repeat (first|exact zH _|apply zT)))))) (fun _ _ _ _ h => h.elim) ?_
   rintro v7 R3 L' hR3 ⟨hc7, rfl⟩
   try simp only [List.cons_append, List.nil_append]
   refine rj_xk (by (first | exact Hp.le_refl _ | assumption | exact Hp.le_trans ‹_› ‹_›)) (by (repeat (first|exact zR _|(apply zP;focus (repeat (first|exact zH _|apply zT)))|apply zD|exact zA _ _))) ?_
   refine xj_nil ?_
   try simp only [List.cons_append, List.nil_append, List.append_nil]
   refine tj_all (rs := [4]) (by kernel_rfl) (by decide) ⟨⟨_, rfl, ?_⟩, trivial⟩
   refine rv0 rfl rfl rfl (y_call Try.call14 rfl (rKind_q x cs (colsOf bs) v7 g hw ((hx.mono hR2).mono hR3) hc7 colsOf_ok) (by (repeat (first|exact zN _|(apply zS;focus (repeat (first|exact zH _|apply zT))))))) ?_
   refine rj_tj ?_
   refine tj_all (rs := [5]) (by kernel_rfl) (by decide) ⟨⟨_, rfl, ?_⟩, trivial⟩
   refine rv0 rfl rfl rfl (y_move rfl) ?_
   refine rj_tj ?_
   refine tj_take (i := 6) rfl rfl rfl (by kernel_rfl) (by kernel_rfl) (by kernel_rfl) (wn0 rfl) rfl (fun σ => (y_extract rfl rfl)) ?_
   refine tj_take (i := 7) rfl rfl rfl (by kernel_rfl) (by kernel_rfl) (by kernel_rfl) (wn0 rfl) rfl (fun σ => (y_extract rfl rfl)) ?_
   refine tj_all (rs := [8]) (by kernel_rfl) (by decide) ⟨⟨_, rfl, ?_⟩, trivial⟩
   refine rv0 rfl rfl rfl (y_assign rfl) ?_
   refine rj_tj ?_
   refine tj_all (rs := [9]) (by kernel_rfl) (by decide) ⟨⟨_, rfl, ?_⟩, trivial⟩
   refine rv0 rfl rfl rfl (y_assign rfl) ?_
   refine rj_tj ?_
   refine tj_done (by kernel_rfl) ?_
   refine hK10 _ _ _ ?_
   refine cj_env (eL 7 rfl (eL 9 rfl (eL 10 rfl (eL 11 rfl (eL 12 rfl eN))))) ?_
   refine cj_seq (fun K11 hK11 => ?_)
   refine cj_draw (by kernel_rfl) (by kernel_rfl) ?_
   refine qj_val (wn0 rfl) rfl rfl (y_move rfl) ?_
   refine qj_val (wn0 rfl) rfl rfl (y_move rfl) ?_
   refine qj_val (wn0 rfl) rfl rfl (y_eql rfl rfl) ?_
   refine qj_eq 40 rfl (v' := .bool true) (by simp) ?_
   refine qj_val (wn0 rfl) rfl rfl (y_move rfl) ?_
   refine qj_val (wn1 rfl rfl rfl rfl) rfl rfl (y_move rfl) ?_
   refine qj_val (wn1 rfl rfl rfl rfl) rfl rfl (y_move rfl) ?_
   refine qj_val (wn1 rfl rfl rfl rfl) rfl rfl (y_eql rfl rfl) ?_
   refine qj_eq 44 rfl (v' := .bool true) (by simp) ?_
   refine qj_val (wn0 rfl) rfl rfl (y_pick_t rfl rfl) ?_
   refine qj_val (wn0 rfl) rfl rfl (y_move rfl) ?_
   refine qj_val (wn1 rfl rfl rfl rfl) rfl rfl ((y_loads_all (vs := cs) ⟨Try.isAgg29, Try.sizeOf29⟩ hcl rfl (by (repeat (first|exact zH _|apply zT));done))) ?_
   refine qj_val (wn1 rfl rfl rfl rfl) rfl rfl (y_call Try.call15 rfl (group_q _ x cs (Nat.le_refl _) ((hx.mono hR2).mono hR3)) (by (repeat (first|exact zN _|(apply zS;focus (repeat (first|exact zH _|apply zT))))))) ?_
   refine qj_val (wn1 rfl rfl rfl rfl) rfl rfl ((y_loads_all (vs := cs) ⟨Try.isAgg29, Try.sizeOf29⟩ hcl rfl (by (repeat (first|exact zH _|apply zT));done))) ?_
   refine qj_val (wn1 rfl rfl rfl rfl) rfl rfl (y_call Try.call16 rfl (rgroup_q _ x cs (Nat.le_refl _) ((hx.mono hR2).mono hR3)) (by (repeat (first|exact zN _|(apply zS;focus (repeat (first|exact zH _|apply zT))))))) ?_
   refine qj_val (wn1 rfl rfl rfl rfl) rfl rfl (y_beql Try.underlying4 rfl rfl) ?_
   refine qj_eq 51 rfl (v' := .bool true) (by simp) ?_
   refine qj_val (wn0 rfl) rfl rfl (y_pick_t rfl rfl) ?_
   refine qj_val (wn0 rfl) rfl rfl (y_assign rfl) ?_
   refine qj_nil ?_
   refine hK11 _ _ _ ?_
   refine cj_env (eL 6 rfl eN) ?_
   refine cj_ret ?_
   refine hret _ _ _ ?_
   apply ej_ret Try.results3 (.cons (rv_tmp rfl) .nil) _ [] (by first | exact Hp.le_trans hR0 hR1 | exact Hp.le_trans hR0 (Hp.le_trans hR1 (Hp.le_trans hR2 hR3))) rfl
   case hp => rfl
   case hS => (repeat (first|exact zR _|(apply zP;focus (repeat (first|exact zH _|apply zT)))|apply zD|exact zA _ _))
end V
end Go.Proofs.Ytghgifgmacapcaa
