/- The law CodecJoins of layer 3, for every input (nodes of up to 60 steps, texts of up to 300 bytes): a list's bytes are its size and its kids' bytes. -/
import Derived.Test.YtcficaboohpmdaaL0
import Derived.Test.YtcficaboohpmdaaT3n
namespace Go.Proofs.Ytcficaboohpmdaa
open Go.ChangeShapes Go.WideShapes Go.ChangeAt Go.RowKit
open V
set_option maxHeartbeats 1000000 in
set_option maxRecDepth 100000 in
theorem CodecJoins_holds_lifted (os : Os) (started : os.Started) (H : Type) (enc : TypeId × Value → H) :
    ReturnsInHanded {} Try.checked os 5 .any (Rows.codecJoinsSpec.pre6 enc Try.prog Try.f5 Rows.codecJoinsRow.domain false) (Rows.codecJoinsSpec.post enc Try.prog Try.f5 false true false false) := by
  refine returnsInHanded_of_change (C := Try.checked) own started (by kernel_rfl) Try.func5
    (ChangeSpec.witness6 (enc := enc) (C := Try.checked) false ⟨#[], #[.slice none 0 0], []⟩ 8 (by kernel_rfl) (by kernel_rfl) (by kernel_rfl) (by kernel_rfl)) ?_
  intro W base args ds gs before hval0 hW hcnd _
  have hval : ∀ (j : Nat) t v, Try.f5.params[j]? = some t → args[j]? = some v → Value.okWide Try.prog W .any base t v := hval0
  have hW' := hW
  obtain ⟨p, q, hA0, hV, rfl, hfz, hnd⟩ := hW
  have hA : DataW.TrodAll enc Try.prog W 0 (fun _ => true) true Try.f5.params.toList args.toList ds p := hA0
  rw [Try.params5] at hA hval
  obtain ⟨v0, vs0, d0, ds0, p0, q0, hargs, rfl, rfl, t0, r0⟩ := trodAll_cons hA
  obtain ⟨rfl, rfl, rfl⟩ := trodAll_nil r0
  obtain rfl : args = #[v0] := by cases args; simp_all
  obtain ⟨rfl, rfl⟩ := trodVars_none hV
  have lt0 : ∀ x ∈ p0, x.block < W.heap.size := by obtain ⟨m, hm⟩ := t0; exact DataW.trod_lt m _ _ _ hm
  obtain ⟨y0, h0⟩ : ∃ y, (slcR 3 (pairR 1 (intR .i64) (pairR 1 (intR .u64) strR))) (oldH W) v0.cells.toList y := by obtain ⟨m, hm⟩ := t0; exact (reads_slc Try.underlying36 (by kernel_rfl) (by decide) (reads_struct Try.underlying63 (by kernel_rfl) (readsF_cons rfl (by kernel_rfl) (reads_int Try.underlying3) (readsF_cons rfl (by kernel_rfl) (reads_int Try.underlying23) (readsF_one rfl (reads_str Try.underlying9)))))) W m _ _ hm
  obtain ⟨a0, len0, cap0, rfl⟩ := okWide_slice Try.underlying36 (hval 0 36 v0 rfl rfl)
  obtain ⟨v0, hv0⟩ : ∃ v, v = Value.slice a0 len0 cap0 := ⟨_, rfl⟩
  replace h0 : (slcR 3 (pairR 1 (intR .i64) (pairR 1 (intR .u64) strR))) (oldH W) [v0] y0 := by rw [hv0]; exact h0
  clear hA0 hval0
  subst hv0
  refine (law_calls (joins_t _ y0 h0)).mono fun e W' ⟨he, bel⟩ => ?_
  subst he
  exact ⟨_, rfl, _, _, _, [], _, [], hW', trodAll_mk1 (shut_bool Try.underlying4 _), (trodAll_cons_mk (Below.trod laidOut (by kernel_rfl) (of_decide_eq_true (by kernel_rfl)) t0 bel lt0) trodAll_mk0), rfl, bel.frame _, fun h => by cases h⟩
theorem CodecJoins_holds : Rows.CodecJoinsSaid :=
  OpenClaim.holds_of_wide 5 Try.f5 rfl rfl rfl rfl rfl rfl rfl ⟨rfl, rfl, rfl, rfl, rfl⟩ rfl rfl rfl rfl rfl (by kernel_rfl) Try.func5 (by kernel_rfl)
    (of_decide_eq_true (by kernel_rfl)) (by unfold Func.isWrapper; first | (rw [if_pos (by decide +kernel)]; kernel_rfl) | (rw [if_neg (by decide +kernel)]; exact ⟨rfl, rfl⟩))
    (fun os started H enc _ => CodecJoins_holds_lifted os started H enc)
#print axioms CodecJoins_holds
end Go.Proofs.Ytcficaboohpmdaa
