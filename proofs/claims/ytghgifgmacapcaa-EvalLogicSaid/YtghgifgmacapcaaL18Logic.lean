/- The law EvalLogic of layer 18, for every two values that are conditions: not of an or is the and of nots, and the other way round; not twice is whether it is true. -/
import Derived.Test.YtghgifgmacapcaaL0
import Derived.Test.YtghgifgmacapcaaT18B
namespace Go.Proofs.Ytghgifgmacapcaa
open Go.ChangeShapes Go.WideShapes Go.ChangeAt Go.RowKit
open V
set_option maxHeartbeats 1000000 in
set_option maxRecDepth 100000 in
theorem EvalLogic_holds_lifted (os : Os) (started : os.Started) (H : Type) (enc : TypeId × Value → H) :
    ReturnsInHanded {} Try.checked os 7 .any (Rows.evalLogicSpec.pre6 enc Try.prog Try.f7 Rows.evalLogicRow.domain false) (Rows.evalLogicSpec.post enc Try.prog Try.f7 false true false false) := by
  refine returnsInHanded_of_change (C := Try.checked) own started (by kernel_rfl) Try.func7
    (ChangeSpec.witness6 (enc := enc) (C := Try.checked) false ⟨#[], #[.agg #[.int .i64 0, .int .i64 0, .string ByteArray.empty, .int .i64 0, .int .i64 0, .string ByteArray.empty]], []⟩ 8 (by kernel_rfl) (by kernel_rfl) (by kernel_rfl) (by kernel_rfl)) ?_
  intro W base args ds gs before hval0 hW hcnd _
  have hval : ∀ (j : Nat) t v, Try.f7.params[j]? = some t → args[j]? = some v → Value.okWide Try.prog W .any base t v := hval0
  have hW' := hW
  obtain ⟨p, q, hA0, hV, rfl, hfz, hnd⟩ := hW
  have hA : DataW.TrodAll enc Try.prog W 0 (fun _ => true) true Try.f7.params.toList args.toList ds p := hA0
  rw [Try.params7] at hA hval
  obtain ⟨v0, vs0, d0, ds0, p0, q0, hargs, rfl, rfl, t0, r0⟩ := trodAll_cons hA
  obtain ⟨rfl, rfl, rfl⟩ := trodAll_nil r0
  obtain rfl : args = #[v0] := by cases args; simp_all
  obtain ⟨rfl, rfl⟩ := trodVars_none hV
  have lt0 : ∀ x ∈ p0, x.block < W.heap.size := by obtain ⟨m, hm⟩ := t0; exact DataW.trod_lt m _ _ _ hm
  obtain ⟨y0, h0⟩ : ∃ y, (arrR 2 3 (pairR 1 (intR .i64) (pairR 1 (intR .i64) strR))) (oldH W) v0.cells.toList y := by obtain ⟨m, hm⟩ := t0; exact (reads_arr Try.underlying57 (by kernel_rfl) (by kernel_rfl) (reads_struct Try.underlying26 (by kernel_rfl) (readsF_cons rfl (by kernel_rfl) (reads_int Try.underlying3) (readsF_cons rfl (by kernel_rfl) (reads_int Try.underlying2) (readsF_one rfl (reads_str Try.underlying9)))))) W m _ _ hm
  obtain ⟨c0, rfl, l0⟩ : ∃ c : List Value, v0 = .agg ⟨c⟩ ∧ c.length = 6 := by have := (hval 0 57 v0 rfl rfl); unfold Value.okWide at this; rw [Try.underlying57] at this; obtain ⟨cs, rfl, hsz, _⟩ := this; have e : Try.prog.cellsOf 57 = 6 := (by kernel_rfl); rw [e] at hsz; exact ⟨cs.toList, rfl, by simpa using hsz⟩
  replace h0 : (arrR 2 3 (pairR 1 (intR .i64) (pairR 1 (intR .i64) strR))) (oldH W) c0 y0 := h0
  clear hA0 hval0
  refine (law_calls (evalLogic_t _ y0 h0)).mono fun e W' ⟨he, bel⟩ => ?_
  subst he
  exact ⟨_, rfl, _, _, _, [], _, [], hW', trodAll_mk1 (shut_bool Try.underlying4 _), (trodAll_cons_mk (Below.trod laidOut (by kernel_rfl) (of_decide_eq_true (by kernel_rfl)) t0 bel lt0) trodAll_mk0), rfl, bel.frame _, fun h => by cases h⟩
theorem EvalLogic_holds : Rows.EvalLogicSaid :=
  OpenClaim.holds_of_wide 7 Try.f7 rfl rfl rfl rfl rfl rfl rfl ⟨rfl, rfl, rfl, rfl, rfl⟩ rfl rfl rfl rfl rfl (by kernel_rfl) Try.func7 (by kernel_rfl)
    (of_decide_eq_true (by kernel_rfl)) (by unfold Func.isWrapper; first | (rw [if_pos (by decide +kernel)]; kernel_rfl) | (rw [if_neg (by decide +kernel)]; exact ⟨rfl, rfl⟩))
    (fun os started H enc _ => EvalLogic_holds_lifted os started H enc)
#print axioms EvalLogic_holds
end Go.Proofs.Ytghgifgmacapcaa
