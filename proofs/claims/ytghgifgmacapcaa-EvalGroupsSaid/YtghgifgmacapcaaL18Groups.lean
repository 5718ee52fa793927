/- The law EvalGroups of layer 18, for every input (expressions of up to 40 steps; three columns; up to 12 rows with texts of up to 300 bytes): an expression's value, of a group, or the error, is the document's. -/
import Derived.Test.YtghgifgmacapcaaL0
import Derived.Test.YtghgifgmacapcaaT18z
namespace Go.Proofs.Ytghgifgmacapcaa
open Go.ChangeShapes Go.WideShapes Go.ChangeAt Go.RowKit
open V
set_option maxHeartbeats 1000000 in
set_option maxRecDepth 100000 in
theorem EvalGroups_holds_lifted (os : Os) (started : os.Started) (H : Type) (enc : TypeId × Value → H) :
    ReturnsInHanded {} Try.checked os 5 .any (Rows.evalGroupsSpec.pre6 enc Try.prog Try.f5 Rows.evalGroupsRow.domain false) (Rows.evalGroupsSpec.post enc Try.prog Try.f5 false true false false) := by
  refine returnsInHanded_of_change (C := Try.checked) own started (by kernel_rfl) Try.func5
    (ChangeSpec.witness6 (enc := enc) (C := Try.checked) false ⟨#[], #[.slice none 0 0, .agg #[.bool false, .bool false, .bool false], .slice none 0 0], []⟩ 8 (by kernel_rfl) (by kernel_rfl) (by kernel_rfl) (by kernel_rfl)) ?_
  intro W base args ds gs before hval0 hW hcnd _
  have hval : ∀ (j : Nat) t v, Try.f5.params[j]? = some t → args[j]? = some v → Value.okWide Try.prog W .any base t v := hval0
  have hW' := hW
  obtain ⟨p, q, hA0, hV, rfl, hfz, hnd⟩ := hW
  have hA : DataW.TrodAll enc Try.prog W 0 (fun _ => true) true Try.f5.params.toList args.toList ds p := hA0
  rw [Try.params5] at hA hval
  obtain ⟨v0, vs0, d0, ds0, p0, q0, hargs, rfl, rfl, t0, r0⟩ := trodAll_cons hA
  obtain ⟨v1, vs1, d1, ds1, p1, q1, rfl, rfl, rfl, t1, r1⟩ := trodAll_cons r0
  obtain ⟨v2, vs2, d2, ds2, p2, q2, rfl, rfl, rfl, t2, r2⟩ := trodAll_cons r1
  obtain ⟨rfl, rfl, rfl⟩ := trodAll_nil r2
  obtain rfl : args = #[v0, v1, v2] := by cases args; simp_all
  obtain ⟨rfl, rfl⟩ := trodVars_none hV
  have lt0 : ∀ x ∈ p0, x.block < W.heap.size := by obtain ⟨m, hm⟩ := t0; exact DataW.trod_lt m _ _ _ hm
  obtain ⟨y0, h0⟩ : ∃ y, (slcR 3 (pairR 1 (intR .i64) (pairR 1 (intR .i64) strR))) (oldH W) v0.cells.toList y := by obtain ⟨m, hm⟩ := t0; exact (reads_slc Try.underlying22 (by kernel_rfl) (by decide) (reads_struct Try.underlying71 (by kernel_rfl) (readsF_cons rfl (by kernel_rfl) (reads_int Try.underlying3) (readsF_cons rfl (by kernel_rfl) (reads_int Try.underlying2) (readsF_one rfl (reads_str Try.underlying9)))))) W m _ _ hm
  obtain ⟨a0, len0, cap0, rfl⟩ := okWide_slice Try.underlying22 (hval 0 22 v0 rfl rfl)
  obtain ⟨v0, hv0⟩ : ∃ v, v = Value.slice a0 len0 cap0 := ⟨_, rfl⟩
  replace h0 : (slcR 3 (pairR 1 (intR .i64) (pairR 1 (intR .i64) strR))) (oldH W) [v0] y0 := by rw [hv0]; exact h0
  have lt1 : ∀ x ∈ p1, x.block < W.heap.size := by obtain ⟨m, hm⟩ := t1; exact DataW.trod_lt m _ _ _ hm
  obtain ⟨y1, h1⟩ : ∃ y, (arrR 3 1 boolR) (oldH W) v1.cells.toList y := by obtain ⟨m, hm⟩ := t1; exact (reads_arr Try.underlying23 (by kernel_rfl) (by kernel_rfl) (reads_bool Try.underlying4)) W m _ _ hm
  obtain ⟨c1, rfl, l1⟩ : ∃ c : List Value, v1 = .agg ⟨c⟩ ∧ c.length = 3 := by have := (hval 1 23 v1 rfl rfl); unfold Value.okWide at this; rw [Try.underlying23] at this; obtain ⟨cs, rfl, hsz, _⟩ := this; have e : Try.prog.cellsOf 23 = 3 := (by kernel_rfl); rw [e] at hsz; exact ⟨cs.toList, rfl, by simpa using hsz⟩
  replace h1 : (arrR 3 1 boolR) (oldH W) c1 y1 := h1
  have lt2 : ∀ x ∈ p2, x.block < W.heap.size := by obtain ⟨m, hm⟩ := t2; exact DataW.trod_lt m _ _ _ hm
  obtain ⟨y2, h2⟩ : ∃ y, (slcR 9 (arrR 3 3 (pairR 1 (intR .i64) (pairR 1 (intR .i64) strR)))) (oldH W) v2.cells.toList y := by obtain ⟨m, hm⟩ := t2; exact (reads_slc Try.underlying51 (by kernel_rfl) (by decide) (reads_arr Try.underlying41 (by kernel_rfl) (by kernel_rfl) (reads_struct Try.underlying26 (by kernel_rfl) (readsF_cons rfl (by kernel_rfl) (reads_int Try.underlying3) (readsF_cons rfl (by kernel_rfl) (reads_int Try.underlying2) (readsF_one rfl (reads_str Try.underlying9))))))) W m _ _ hm
  obtain ⟨a2, len2, cap2, rfl⟩ := okWide_slice Try.underlying51 (hval 2 51 v2 rfl rfl)
  obtain ⟨v2, hv2⟩ : ∃ v, v = Value.slice a2 len2 cap2 := ⟨_, rfl⟩
  replace h2 : (slcR 9 (arrR 3 3 (pairR 1 (intR .i64) (pairR 1 (intR .i64) strR)))) (oldH W) [v2] y2 := by rw [hv2]; exact h2
  clear hA0 hval0
  subst hv0; subst hv2
  refine (law_calls (evalGroups_t _ y0 h0 _ y1 h1 _ y2 h2)).mono fun e W' ⟨he, bel⟩ => ?_
  subst he
  exact ⟨_, rfl, _, _, _, [], _, [], hW', trodAll_mk1 (shut_bool Try.underlying4 _), (trodAll_cons_mk (Below.trod laidOut (by kernel_rfl) (of_decide_eq_true (by kernel_rfl)) t0 bel lt0) (trodAll_cons_mk (Below.trod laidOut (by kernel_rfl) (of_decide_eq_true (by kernel_rfl)) t1 bel lt1) (trodAll_cons_mk (Below.trod laidOut (by kernel_rfl) (of_decide_eq_true (by kernel_rfl)) t2 bel lt2) trodAll_mk0))), rfl, bel.frame _, fun h => by cases h⟩
theorem EvalGroups_holds : Rows.EvalGroupsSaid :=
  OpenClaim.holds_of_wide 5 Try.f5 rfl rfl rfl rfl rfl rfl rfl ⟨rfl, rfl, rfl, rfl, rfl⟩ rfl rfl rfl rfl rfl (by kernel_rfl) Try.func5 (by kernel_rfl)
    (of_decide_eq_true (by kernel_rfl)) (by unfold Func.isWrapper; first | (rw [if_pos (by decide +kernel)]; kernel_rfl) | (rw [if_neg (by decide +kernel)]; exact ⟨rfl, rfl⟩))
    (fun os started H enc _ => EvalGroups_holds_lifted os started H enc)
#print axioms EvalGroups_holds
end Go.Proofs.Ytghgifgmacapcaa
