/- The law EvalReckons of layer 18, for every two numbers: a quotient and a rest come together again; what is added and taken away again is as it was, if it went. -/
import Derived.Test.YtghgifgmacapcaaL0
import Derived.Test.YtghgifgmacapcaaT18C
namespace Go.Proofs.Ytghgifgmacapcaa
open Go.ChangeShapes Go.WideShapes Go.ChangeAt Go.RowKit
open V
set_option maxHeartbeats 1000000 in
set_option maxRecDepth 100000 in
theorem EvalReckons_holds_lifted (os : Os) (started : os.Started) (H : Type) (enc : TypeId × Value → H) :
    ReturnsInHanded {} Try.checked os 8 .any (Rows.evalReckonsSpec.pre6 enc Try.prog Try.f8 Rows.evalReckonsRow.domain false) (Rows.evalReckonsSpec.post enc Try.prog Try.f8 false true false false) := by
  refine returnsInHanded_of_change (C := Try.checked) own started (by kernel_rfl) Try.func8
    (ChangeSpec.witness6 (enc := enc) (C := Try.checked) false ⟨#[], #[.int .i64 0, .int .i64 0], []⟩ 8 (by kernel_rfl) (by kernel_rfl) (by kernel_rfl) (by kernel_rfl)) ?_
  intro W base args ds gs before hval0 hW hcnd _
  have hval : ∀ (j : Nat) t v, Try.f8.params[j]? = some t → args[j]? = some v → Value.okWide Try.prog W .any base t v := hval0
  have hW' := hW
  obtain ⟨p, q, hA0, hV, rfl, hfz, hnd⟩ := hW
  have hA : DataW.TrodAll enc Try.prog W 0 (fun _ => true) true Try.f8.params.toList args.toList ds p := hA0
  rw [Try.params8] at hA hval
  obtain ⟨v0, vs0, d0, ds0, p0, q0, hargs, rfl, rfl, t0, r0⟩ := trodAll_cons hA
  obtain ⟨v1, vs1, d1, ds1, p1, q1, rfl, rfl, rfl, t1, r1⟩ := trodAll_cons r0
  obtain ⟨rfl, rfl, rfl⟩ := trodAll_nil r1
  obtain rfl : args = #[v0, v1] := by cases args; simp_all
  obtain ⟨rfl, rfl⟩ := trodVars_none hV
  have lt0 : ∀ x ∈ p0, x.block < W.heap.size := by obtain ⟨m, hm⟩ := t0; exact DataW.trod_lt m _ _ _ hm
  obtain ⟨y0, h0⟩ : ∃ y, (intR .i64) (oldH W) v0.cells.toList y := by obtain ⟨m, hm⟩ := t0; exact (reads_int Try.underlying2) W m _ _ hm
  obtain ⟨n0, rfl⟩ := okWide_int Try.underlying2 (hval 0 2 v0 rfl rfl)
  obtain ⟨e0, h0⟩ := h0
  obtain rfl : y0 = n0 := by have := e0; simp [Value.cells] at this; exact this.symm
  have lt1 : ∀ x ∈ p1, x.block < W.heap.size := by obtain ⟨m, hm⟩ := t1; exact DataW.trod_lt m _ _ _ hm
  obtain ⟨y1, h1⟩ : ∃ y, (intR .i64) (oldH W) v1.cells.toList y := by obtain ⟨m, hm⟩ := t1; exact (reads_int Try.underlying2) W m _ _ hm
  obtain ⟨n1, rfl⟩ := okWide_int Try.underlying2 (hval 1 2 v1 rfl rfl)
  obtain ⟨e1, h1⟩ := h1
  obtain rfl : y1 = n1 := by have := e1; simp [Value.cells] at this; exact this.symm
  clear hA0 hval0
  refine (law_calls (evalReckons_t _ _ h0 h1)).mono fun e W' ⟨he, bel⟩ => ?_
  subst he
  exact ⟨_, rfl, _, _, _, [], _, [], hW', trodAll_mk1 (shut_bool Try.underlying4 _), (trodAll_cons_mk (Below.trod laidOut (by kernel_rfl) (of_decide_eq_true (by kernel_rfl)) t0 bel lt0) (trodAll_cons_mk (Below.trod laidOut (by kernel_rfl) (of_decide_eq_true (by kernel_rfl)) t1 bel lt1) trodAll_mk0)), rfl, bel.frame _, fun h => by cases h⟩
theorem EvalReckons_holds : Rows.EvalReckonsSaid :=
  OpenClaim.holds_of_wide 8 Try.f8 rfl rfl rfl rfl rfl rfl rfl ⟨rfl, rfl, rfl, rfl, rfl⟩ rfl rfl rfl rfl rfl (by kernel_rfl) Try.func8 (by kernel_rfl)
    (of_decide_eq_true (by kernel_rfl)) (by unfold Func.isWrapper; first | (rw [if_pos (by decide +kernel)]; kernel_rfl) | (rw [if_neg (by decide +kernel)]; exact ⟨rfl, rfl⟩))
    (fun os started H enc _ => EvalReckons_holds_lifted os started H enc)
#print axioms EvalReckons_holds
end Go.Proofs.Ytghgifgmacapcaa
