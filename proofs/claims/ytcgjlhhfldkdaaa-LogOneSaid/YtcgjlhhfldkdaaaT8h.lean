/- What awakes layer 8. -/
import Derived.Test.YtcgjlhhfldkdaaaT8g
set_option linter.unusedSimpArgs false
set_option linter.unusedVariables false
set_option maxRecDepth 100000
namespace Go.Proofs.Ytcgjlhhfldkdaaa
open Go.RowKit
namespace V
set_option maxHeartbeats 4000000
theorem ent_eql (a b : Ent) (w : World) : (binOp .eql 37 (.agg ⟨entC a⟩) (.agg ⟨entC b⟩)).run Try.prog w = .ok (.bool (decide (a = b))) w := by
  have u1 := Try.underlying25
  have a1 := Try.isAgg25
  have u2 := Try.underlying9
  have a2 := Try.isAgg9
  have hS : Try.prog.underlying 37 = some (.struct (Try.prog.fieldsOf 37)) := by kernel_rfl
  have hp : Try.prog.stoodInHeld 37 = false := by kernel_rfl
  simp only [entC]
  rw [run_eql_struct, show (10000 : Nat) = 9999 + 1 from rfl, run_equalIn_agg w 9999 37 _ _ hS hp]
  simp only [Program.fieldsOf, Try.underlying37]
  go_simp
  obtain ⟨a1, a2⟩ := a
  obtain ⟨b1, b2⟩ := b
  by_cases h1 : a1 = b1 <;> by_cases h2 : a2 = b2 <;> simp [h1, h2, Prod.ext_iff]
theorem y_steql {c : Cx} {E : Env} {R : Hp} {L : List Asn} {d : Option Tmp} {ty : TypeId} {p : String} {af : Array Edge} {g : Option (Nat × Bool)} {x y : Operand} {t t' : TypeId} {xs ys : List Value} {b : Bool} (hm : c.P.eqGuardType c.P.depth t = false)
    (e1 : ev E x = some (.agg ⟨xs⟩)) (e2 : ev E y = some (.agg ⟨ys⟩)) (hr : ∀ w, (binOp .eql t (.agg ⟨xs⟩) (.agg ⟨ys⟩)).run c.P w = .ok (.bool b) w) : Yld c E R L ⟨d, .binOp .eql t x y t', ty, p, af, g⟩ (.bool b) :=
  fun a w hf _ => by
    have hg := run_eqGuard_agg (P := c.P) w .eql t x y ⟨xs⟩ ⟨ys⟩ hm
    simp [execOp, hf.ev e1, hf.ev e2, hg, hr w, Oper.quietUpon]
def ak1 : List Ent := [(1, [97]), (1, [98])]
def ak2 : List Ent := [(2, [99])]
def akG1 : LG := LG.new.play (.add 0 ak1)
def akG2 : LG := akG1.play (.add 1 ak2)
def akG3 : LG := akG2.play (.term 3 1)
theorem ak1_b : ∀ e ∈ ak1, u64B e.1 ∧ e.2.length ≤ 1000000 := fun e he => by
  simp [ak1] at he
  rcases he with rfl | rfl <;> simp [u64B]
theorem ak2_b : ∀ e ∈ ak2, u64B e.1 ∧ e.2.length ≤ 1000000 := fun e he => by
  simp [ak2] at he
  subst he; simp [u64B]
theorem awake_t {R : Hp} : Tri Try.prog 4 [] R [] (fun v R' L' => v = .bool true ∧ L' = []) := by
  refine tri_of Try.func4 rfl Try.ntmps4 rfl (fun σ F Q hret hend hpan => ?_)
  try simp only [List.cons_append, List.nil_append]
  refine cj_env eN ?_
  refine cj_seq (fun K1 hK1 => ?_)
  refine cj_region ?_
  refine rv0 rfl rfl rfl (y_assign rfl) ?_
  refine rj_nil ?_
  refine hK1 _ _ _ ?_
  refine cj_seq (fun K2 hK2 => ?_)
  refine cj_region ?_
  refine rj_call (wn0 rfl) rfl Try.call6 rfl (new_t) (by (repeat (first|exact zN _|(apply zS;focus (repeat (first|exact zH _|apply zT)))))) (fun _ _ _ _ h => h.elim) ?_
  rintro r R1 L' hR1 ⟨rfl, bd, u0, rfl, rfl⟩
  try simp only [List.cons_append, List.nil_append]
  refine rv0 rfl rfl rfl (y_assign rfl) ?_
  refine rj_nil ?_
  refine hK2 _ _ _ ?_
  refine cj_seq (fun K3 hK3 => ?_)
  refine cj_region ?_
  refine rv0 rfl rfl rfl (y_move rfl) ?_
  refine rj_call (wn0 rfl) rfl Try.call7 rfl (openOK_t bd u0 DK.new 0 LG.new LD.new (by decide)) (by (repeat (first|exact zN _|(apply zS;focus (repeat (first|exact zH _|apply zT)))))) (fun _ _ _ _ h => h.elim) ?_
  rintro x R2 L' hR2 ⟨b1, va1, u1, rfl, hva1, rfl⟩
  try simp only [List.cons_append, List.nil_append]
  refine rv0 rfl rfl rfl (y_move rfl) ?_
  refine rv0 rfl rfl rfl (y_extract rfl rfl) ?_
  refine rv0 rfl rfl rfl (y_extract rfl rfl) ?_
  refine rv0 rfl rfl rfl (y_assign rfl) ?_
  refine rv0 rfl rfl rfl (y_assign rfl) ?_
  refine rj_nil ?_
  refine hK3 _ _ _ ?_
  refine cj_env (eL 1 rfl (eL 2 rfl (eL 3 rfl eN))) ?_
  refine cj_seq (fun K4 hK4 => ?_)
  refine cj_region ?_
  refine rv0 rfl rfl rfl (y_move rfl) ?_
  refine rv0 rfl rfl rfl (y_build (cells := [_, _]) [(0, 1), (1, 1)] Try.underlying37 Try.zeroValue37 (fun _ => rfl) rfl rfl) ?_
  refine rv0 rfl rfl rfl (y_build (cells := [_, _]) [(0, 1), (1, 1)] Try.underlying37 Try.zeroValue37 (fun _ => rfl) rfl rfl) ?_
  refine rj_buildSlice (sz := 2) (wn0 rfl) rfl Try.underlying22 Try.sizeOf37 Try.zeroValue37 rfl rfl rfl (by decide) (by decide) (fun b20 => ?_)
  refine rj_freeze (e := 37) (sz := 2) (n := 2) (v := .slice (some ⟨b20, 0, none⟩) 2 2) (xs := entsC ak1) (by (repeat (first|exact zH _|apply zT));done) (fun R3 hR3 hfr3 hxl3 => ?_)
  have hv1 := entsFr (l := ak1) hfr3
  refine rj_call (wn0 rfl) rfl Try.call8 rfl (addOK_t b1 bd va1 u1 _ LG.new DK.new 0 1000 0 ak1 LD.new (by decide) (by decide) (hva1.mono hR3) hv1 (by decide) ak1_b (by decide) (by decide) (by decide)) (by (repeat (first|exact zN _|(apply zS;focus (repeat (first|exact zH _|apply zT)))))) (fun _ _ _ _ h => h.elim) ?_
  rintro x R4 L' hR4 ⟨rfl, u2, va2, D1, hD1, hva2, rfl⟩
  replace hD1 : LD 1004 akG1 D1 := hD1
  try simp only [List.cons_append, List.nil_append]
  refine rv0 rfl rfl rfl (y_assign rfl) ?_
  refine rj_nil ?_
  refine hK4 _ _ _ ?_
  refine cj_env (eL 1 rfl (eL 2 rfl (eL 3 rfl (eL 4 rfl eN)))) ?_
  refine cj_seq (fun K5 hK5 => ?_)
  refine cj_region ?_
  refine rv0 rfl rfl rfl (y_move rfl) ?_
  refine rv0 rfl rfl rfl (y_build (cells := [_, _]) [(0, 1), (1, 1)] Try.underlying37 Try.zeroValue37 (fun _ => rfl) rfl rfl) ?_
  refine rj_buildSlice (sz := 2) (wn0 rfl) rfl Try.underlying22 Try.sizeOf37 Try.zeroValue37 rfl rfl rfl (by decide) (by decide) (fun b24 => ?_)
  refine rj_freeze (e := 37) (sz := 2) (n := 1) (v := .slice (some ⟨b24, 0, none⟩) 1 1) (xs := entsC ak2) (by (repeat (first|exact zH _|apply zT));done) (fun R5 hR5 hfr5 hxl5 => ?_)
  have hv2 := entsFr (l := ak2) hfr5
  refine rj_call (wn0 rfl) rfl Try.call8 rfl (addOK_t b1 bd va2 u2 _ akG1 D1 1004 1000 1 ak2 hD1 (by decide) (by decide) (hva2.mono hR5) hv2 (by decide) ak2_b (by decide) (by decide) (by decide)) (by (repeat (first|exact zN _|(apply zS;focus (repeat (first|exact zH _|apply zT)))))) (fun _ _ _ _ h => h.elim) ?_
  rintro x R6 L' hR6 ⟨rfl, u3, va3, D2, hD2, hva3, rfl⟩
  replace hD2 : LD 2008 akG2 D2 := hD2
  try simp only [List.cons_append, List.nil_append]
  refine rv0 rfl rfl rfl (y_assign rfl) ?_
  refine rj_nil ?_
  refine hK5 _ _ _ ?_
  refine cj_env (eL 1 rfl (eL 2 rfl (eL 3 rfl (eL 4 rfl (eL 5 rfl eN))))) ?_
  refine cj_seq (fun K6 hK6 => ?_)
  refine cj_region ?_
  refine rv0 rfl rfl rfl (y_move rfl) ?_
  refine rj_call (wn0 rfl) rfl Try.call13 rfl (setTermOK_t b1 bd va3 u3 akG2 D2 2008 3 1 hD2 (by decide) (by unfold u64B; decide) (by decide) (by decide) hva3.one) (by (repeat (first|exact zN _|(apply zS;focus (repeat (first|exact zH _|apply zT)))))) (fun _ _ _ _ h => h.elim) ?_
  rintro x R7 L' hR7 ⟨rfl, u4, D3, hD3, rfl⟩
  replace hD3 : LD 2052 akG3 D3 := hD3
  try simp only [List.cons_append, List.nil_append]
  refine rv0 rfl rfl rfl (y_assign rfl) ?_
  refine rj_nil ?_
  refine hK6 _ _ _ ?_
  refine cj_env (eL 1 rfl (eL 3 rfl (eL 4 rfl (eL 5 rfl (eL 6 rfl eN))))) ?_
  refine cj_seq (fun K7 hK7 => ?_)
  refine cj_region ?_
  refine rv0 rfl rfl rfl (y_move rfl) ?_
  refine rj_call (wn0 rfl) rfl Try.call11 rfl (crashOK_t bd u4 D3 2052 akG3 hD3 (by decide)) (by (repeat (first|exact zN _|(apply zS;focus (repeat (first|exact zH _|apply zT)))))) (fun _ _ _ _ h => h.elim) ?_
  rintro x R8 L' hR8 ⟨u5, rfl⟩
  try simp only [List.cons_append, List.nil_append]
  refine rj_nil ?_
  refine hK7 _ _ _ ?_
  refine cj_seq (fun K8 hK8 => ?_)
  refine cj_region ?_
  refine rv0 rfl rfl rfl (y_move rfl) ?_
  refine rj_call (wn0 rfl) rfl Try.call7 rfl (openOK_t bd u5 D3 2052 akG3 hD3 (by decide)) (by (repeat (first|exact zN _|(apply zS;focus (repeat (first|exact zH _|apply zT)))))) (fun _ _ _ _ h => h.elim) ?_
  rintro x R9 L' hR9 ⟨b2, va4, u6, rfl, hva4, rfl⟩
  have hg3 : akG3.ok := hD3.okG
  try simp only [List.cons_append, List.nil_append]
  refine rv0 rfl rfl rfl (y_move rfl) ?_
  refine rv0 rfl rfl rfl (y_extract rfl rfl) ?_
  refine rv0 rfl rfl rfl (y_extract rfl rfl) ?_
  refine rv0 rfl rfl rfl (y_assign rfl) ?_
  refine rv0 rfl rfl rfl (y_assign rfl) ?_
  refine rj_nil ?_
  refine hK8 _ _ _ ?_
  refine cj_env (eL 3 rfl (eL 4 rfl (eL 5 rfl (eL 6 rfl (eL 7 rfl (eL 8 rfl eN)))))) ?_
  refine cj_seq (fun K9 hK9 => ?_)
  refine cj_region ?_
  refine rv0 rfl rfl rfl (y_move rfl) ?_
  refine rv0 rfl rfl rfl (y_call Try.call14 rfl (lgAt_q b2 (some ⟨bd, 0, none⟩) va4 akG3 hg3 hva4 2 (by unfold u64B; decide)) (by (repeat (first|exact zN _|(apply zS;focus (repeat (first|exact zH _|apply zT))))))) ?_
  refine rv0 rfl rfl rfl (y_move rfl) ?_
  refine rj_eq 37 rfl (v' := tupOf [.agg ⟨entC (2, [99])⟩, .bool true]) (by rfl) ?_
  refine rv0 rfl rfl rfl (y_extract rfl rfl) ?_
  refine rv0 rfl rfl rfl (y_extract rfl rfl) ?_
  refine rj_alloc (wn0 rfl) rfl Try.zeroValue37 rfl (fun b9 => ?_)
  refine rj_stores_all (vs := entC (2, [99])) ⟨Try.isAgg37, Try.sizeOf37⟩ rfl (wn0 rfl) rfl rfl (entE.one (R := R9) (x := (2, [99])) rfl) (by (repeat (first|exact zH _|apply zT));done) rfl ?_
  refine rv0 rfl rfl rfl (y_assign rfl) ?_
  refine rj_nil ?_
  refine hK9 _ _ _ ?_
  refine cj_env (eL 3 rfl (eL 4 rfl (eL 5 rfl (eL 6 rfl (eL 7 rfl (eL 8 rfl (eL 9 rfl (eL 10 rfl eN)))))))) ?_
  refine cj_seq (fun K10 hK10 => ?_)
  refine cj_region ?_
  refine rv0 rfl rfl rfl (y_move rfl) ?_
  refine rv0 rfl rfl rfl (y_eql rfl rfl) ?_
  refine rv0 rfl rfl rfl (y_move rfl) ?_
  refine rj_val (wn1 rfl rfl rfl rfl) rfl rfl (y_move rfl) ?_
  refine rj_val (wn1 rfl rfl rfl rfl) rfl rfl (y_eql rfl rfl) ?_
  refine rv0 rfl rfl rfl (y_pick_t rfl rfl) ?_
  refine rv0 rfl rfl rfl (y_move rfl) ?_
  refine rj_val (wn1 rfl rfl rfl rfl) rfl rfl (y_move rfl) ?_
  refine rj_val (wn1 rfl rfl rfl rfl) rfl rfl (y_eql rfl rfl) ?_
  refine rv0 rfl rfl rfl (y_pick_t rfl rfl) ?_
  refine rv0 rfl rfl rfl (y_move rfl) ?_
  refine rj_val (wn1 rfl rfl rfl rfl) rfl rfl (y_move rfl) ?_
  refine rj_val (wn1 rfl rfl rfl rfl) rfl rfl (y_eql rfl rfl) ?_
  refine rv0 rfl rfl rfl (y_pick_t rfl rfl) ?_
  refine rv0 rfl rfl rfl (y_move rfl) ?_
  refine rj_val (wn1 rfl rfl rfl rfl) rfl rfl (y_move rfl) ?_
  refine rj_val (wn1 rfl rfl rfl rfl) rfl rfl (y_eql rfl rfl) ?_
  refine rv0 rfl rfl rfl (y_pick_t rfl rfl) ?_
  refine rv0 rfl rfl rfl (y_move rfl) ?_
  refine rj_val (wn1 rfl rfl rfl rfl) rfl rfl (y_move rfl) ?_
  refine rv0 rfl rfl rfl (y_pick_t rfl rfl) ?_
  refine rv0 rfl rfl rfl (y_move rfl) ?_
  refine rj_val (wn1 rfl rfl rfl rfl) rfl rfl ((y_loads_all (vs := entC (2, [99])) ⟨Try.isAgg37, Try.sizeOf37⟩ rfl rfl (by (repeat (first|exact zH _|apply zT));done))) ?_
  refine rj_val (wn1 rfl rfl rfl rfl) rfl rfl (y_build (cells := [_, _]) [(0, 1), (1, 1)] Try.underlying37 Try.zeroValue37 (fun _ => rfl) rfl rfl) ?_
  refine rj_val (wn1 rfl rfl rfl rfl) rfl rfl ((y_steql (by kernel_rfl) rfl rfl (fun w => ent_eql (2, [99]) (2, [99]) w))) ?_
  refine rv0 rfl rfl rfl (y_pick_t rfl rfl) ?_
  refine rv0 rfl rfl rfl (y_move rfl) ?_
  refine rj_val (wn1 rfl rfl rfl rfl) rfl rfl (y_move rfl) ?_
  refine rj_val (wn1 rfl rfl rfl rfl) rfl rfl (y_call Try.call15 rfl (lgLast_q b2 (some ⟨bd, 0, none⟩) va4 akG3 hg3 hva4) (by (repeat (first|exact zN _|(apply zS;focus (repeat (first|exact zH _|apply zT))))))) ?_
  refine rj_val (wn1 rfl rfl rfl rfl) rfl rfl (y_eql rfl rfl) ?_
  refine rv0 rfl rfl rfl (y_pick_t rfl rfl) ?_
  refine rv0 rfl rfl rfl (y_move rfl) ?_
  refine rj_val (wn1 rfl rfl rfl rfl) rfl rfl (y_move rfl) ?_
  refine rj_val (wn1 rfl rfl rfl rfl) rfl rfl (y_call Try.call16 rfl (lgTerm_q b2 (some ⟨bd, 0, none⟩) va4 akG3) (by (repeat (first|exact zN _|(apply zS;focus (repeat (first|exact zH _|apply zT))))))) ?_
  refine rj_val (wn1 rfl rfl rfl rfl) rfl rfl (y_eql rfl rfl) ?_
  refine rv0 rfl rfl rfl (y_pick_t rfl rfl) ?_
  refine rv0 rfl rfl rfl (y_move rfl) ?_
  refine rj_val (wn1 rfl rfl rfl rfl) rfl rfl (y_move rfl) ?_
  refine rj_val (wn1 rfl rfl rfl rfl) rfl rfl (y_call Try.call17 rfl (lgVote_q b2 (some ⟨bd, 0, none⟩) va4 akG3) (by (repeat (first|exact zN _|(apply zS;focus (repeat (first|exact zH _|apply zT))))))) ?_
  refine rj_val (wn1 rfl rfl rfl rfl) rfl rfl (y_eql rfl rfl) ?_
  refine rv0 rfl rfl rfl (y_pick_t rfl rfl) ?_
  refine rv0 rfl rfl rfl (y_assign rfl) ?_
  refine rj_nil ?_
  refine hK10 _ _ _ ?_
  refine cj_env (eL 0 rfl eN) ?_
  refine cj_ret ?_
  refine hret _ _ _ ?_
  apply ej_ret Try.results4 (.cons (rv_tmp rfl) .nil) _ [] (by exact Hp.le_trans hR2 (Hp.le_trans hR3 (Hp.le_trans hR4 (Hp.le_trans hR5 (Hp.le_trans hR6 (Hp.le_trans hR7 (Hp.le_trans hR8 hR9))))))) rfl
  case hp => exact ⟨rfl, rfl⟩
  case hS => (repeat (first|exact zR _|(apply zP;focus (repeat (first|exact zH _|apply zT)))|apply zD|exact zA _ _))
end V
end Go.Proofs.Ytcgjlhhfldkdaaa
