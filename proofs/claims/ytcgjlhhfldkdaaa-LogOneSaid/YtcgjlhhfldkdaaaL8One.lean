/- The law LogOne of layer 8, for every input: however entries came to a log, the log is the same, and so behind a crash. -/
import Derived.Test.YtcgjlhhfldkdaaaL0
import Derived.Test.YtcgjlhhfldkdaaaT8j
namespace Go.Proofs.Ytcgjlhhfldkdaaa
open Go.ChangeShapes Go.WideShapes Go.ChangeAt Go.RowKit
open V
set_option maxHeartbeats 1000000 in
set_option maxRecDepth 100000 in
theorem LogOne_holds_lifted (os : Os) (started : os.Started) (H : Type) (enc : TypeId × Value → H) :
    ReturnsInHanded {} Try.checked os 3 .any (Rows.logOneSpec.pre6 enc Try.prog Try.f3 Rows.logOneRow.domain false) (Rows.logOneSpec.post enc Try.prog Try.f3 false true false false) := by
  refine returnsInHanded_of_change (C := Try.checked) own started (by kernel_rfl) Try.func3
    (ChangeSpec.witness6 (enc := enc) (C := Try.checked) false ⟨#[], #[.slice none 0 0, .slice none 0 0], []⟩ 8 (by kernel_rfl) (by kernel_rfl) (by kernel_rfl) (by kernel_rfl)) ?_
  intro W base args ds gs before hval0 hW hcnd _
  have hval : ∀ (j : Nat) t v, Try.f3.params[j]? = some t → args[j]? = some v → Value.okWide Try.prog W .any base t v := hval0
  have hW' := hW
  obtain ⟨p, q, hA0, hV, rfl, hfz, hnd⟩ := hW
  have hA : DataW.TrodAll enc Try.prog W 0 (fun _ => true) true Try.f3.params.toList args.toList ds p := hA0
  rw [Try.params3] at hA hval
  obtain ⟨v0, vs0, d0, ds0, p0, q0, hargs, rfl, rfl, t0, r0⟩ := trodAll_cons hA
  obtain ⟨v1, vs1, d1, ds1, p1, q1, rfl, rfl, rfl, t1, r1⟩ := trodAll_cons r0
  obtain ⟨rfl, rfl, rfl⟩ := trodAll_nil r1
  obtain rfl : args = #[v0, v1] := by cases args; simp_all
  obtain ⟨rfl, rfl⟩ := trodVars_none hV
  have lt0 : ∀ x ∈ p0, x.block < W.heap.size := by obtain ⟨m, hm⟩ := t0; exact DataW.trod_lt m _ _ _ hm
  obtain ⟨y0, h0⟩ : ∃ y, (slcR 2 (pairR 1 (intR .u64) strR)) (oldH W) v0.cells.toList y := by obtain ⟨m, hm⟩ := t0; exact (reads_slc Try.underlying22 (by kernel_rfl) (by decide) (reads_struct Try.underlying37 (by kernel_rfl) (readsF_cons rfl (by kernel_rfl) (reads_int Try.underlying25) (readsF_one rfl (reads_str Try.underlying9))))) W m _ _ hm
  obtain ⟨a0, len0, cap0, rfl⟩ := okWide_slice Try.underlying22 (hval 0 22 v0 rfl rfl)
  obtain ⟨v0, hv0⟩ : ∃ v, v = Value.slice a0 len0 cap0 := ⟨_, rfl⟩
  replace h0 : (slcR 2 (pairR 1 (intR .u64) strR)) (oldH W) [v0] y0 := by rw [hv0]; exact h0
  have lt1 : ∀ x ∈ p1, x.block < W.heap.size := by obtain ⟨m, hm⟩ := t1; exact DataW.trod_lt m _ _ _ hm
  obtain ⟨y1, h1⟩ : ∃ y, (slcR 2 (pairR 1 (intR .u64) strR)) (oldH W) v1.cells.toList y := by obtain ⟨m, hm⟩ := t1; exact (reads_slc Try.underlying22 (by kernel_rfl) (by decide) (reads_struct Try.underlying37 (by kernel_rfl) (readsF_cons rfl (by kernel_rfl) (reads_int Try.underlying25) (readsF_one rfl (reads_str Try.underlying9))))) W m _ _ hm
  obtain ⟨a1, len1, cap1, rfl⟩ := okWide_slice Try.underlying22 (hval 1 22 v1 rfl rfl)
  obtain ⟨v1, hv1⟩ : ∃ v, v = Value.slice a1 len1 cap1 := ⟨_, rfl⟩
  replace h1 : (slcR 2 (pairR 1 (intR .u64) strR)) (oldH W) [v1] y1 := by rw [hv1]; exact h1
  clear hA0 hval0
  subst hv0; subst hv1
  refine (law_calls ((logOne_t _ y0 h0 _ y1 h1).mono (fun _ _ _ _ h => h.1) (fun _ _ _ _ h => h))).mono fun e W' ⟨he, bel⟩ => ?_
  subst he
  exact ⟨_, rfl, _, _, _, [], _, [], hW', trodAll_mk1 (shut_bool Try.underlying4 _), (trodAll_cons_mk (Below.trod laidOut (by kernel_rfl) (of_decide_eq_true (by kernel_rfl)) t0 bel lt0) (trodAll_cons_mk (Below.trod laidOut (by kernel_rfl) (of_decide_eq_true (by kernel_rfl)) t1 bel lt1) trodAll_mk0)), rfl, bel.frame _, fun h => by cases h⟩
theorem LogOne_holds : Rows.LogOneSaid :=
  OpenClaim.holds_of_wide 3 Try.f3 rfl rfl rfl rfl rfl rfl rfl ⟨rfl, rfl, rfl, rfl, rfl⟩ rfl rfl rfl rfl rfl (by kernel_rfl) Try.func3 (by kernel_rfl)
    (of_decide_eq_true (by kernel_rfl)) (by unfold Func.isWrapper; first | (rw [if_pos (by decide +kernel)]; kernel_rfl) | (rw [if_neg (by decide +kernel)]; exact ⟨rfl, rfl⟩))
    (fun os started H enc _ => LogOne_holds_lifted os started H enc)
#print axioms LogOne_holds
end Go.Proofs.Ytcgjlhhfldkdaaa
