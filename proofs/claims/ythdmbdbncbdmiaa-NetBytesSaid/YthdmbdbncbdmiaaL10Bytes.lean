/- The law NetBytes of layer 10, for every input (messages of up to 12 entries, bytes of up to 2000): a message's bytes are the document's; they are read as it; other bytes as none. -/
import Derived.Test.YthdmbdbncbdmiaaL0
import Derived.Test.YthdmbdbncbdmiaaT10l
namespace Go.Proofs.Ythdmbdbncbdmiaa
open Go.ChangeShapes Go.WideShapes Go.ChangeAt Go.RowKit
open V
set_option maxHeartbeats 1000000 in
set_option maxRecDepth 100000 in
theorem NetBytes_holds_lifted (os : Os) (started : os.Started) (H : Type) (enc : TypeId × Value → H) :
    ReturnsInHanded {} Try.checked os 4 .any (Rows.netBytesSpec.pre6 enc Try.prog Try.f4 Rows.netBytesRow.domain false) (Rows.netBytesSpec.post enc Try.prog Try.f4 false true false false) := by
  refine returnsInHanded_of_change (C := Try.checked) own started (by kernel_rfl) Try.func4
    (ChangeSpec.witness6 (enc := enc) (C := Try.checked) false ⟨#[], #[.agg #[.int .i64 0, .int .i64 0, .int .i64 0, .int .u64 0, .int .u64 0, .int .u64 0, .int .u64 0, .bool false, .slice none 0 0, .string ByteArray.empty], .string ByteArray.empty], []⟩ 8 (by kernel_rfl) (by kernel_rfl) (by kernel_rfl) (by kernel_rfl)) ?_
  intro W base args ds gs before hval0 hW hcnd _
  have hval : ∀ (j : Nat) t v, Try.f4.params[j]? = some t → args[j]? = some v → Value.okWide Try.prog W .any base t v := hval0
  have hW' := hW
  obtain ⟨p, q, hA0, hV, rfl, hfz, hnd⟩ := hW
  have hA : DataW.TrodAll enc Try.prog W 0 (fun _ => true) true Try.f4.params.toList args.toList ds p := hA0
  rw [Try.params4] at hA hval
  obtain ⟨v0, vs0, d0, ds0, p0, q0, hargs, rfl, rfl, t0, r0⟩ := trodAll_cons hA
  obtain ⟨v1, vs1, d1, ds1, p1, q1, rfl, rfl, rfl, t1, r1⟩ := trodAll_cons r0
  obtain ⟨rfl, rfl, rfl⟩ := trodAll_nil r1
  obtain rfl : args = #[v0, v1] := by cases args; simp_all
  obtain ⟨rfl, rfl⟩ := trodVars_none hV
  have lt0 : ∀ x ∈ p0, x.block < W.heap.size := by obtain ⟨m, hm⟩ := t0; exact DataW.trod_lt m _ _ _ hm
  obtain ⟨y0, h0⟩ : ∃ y, (pairR 1 (intR .i64) (pairR 1 (intR .i64) (pairR 1 (intR .i64) (pairR 1 (intR .u64) (pairR 1 (intR .u64) (pairR 1 (intR .u64) (pairR 1 (intR .u64) (pairR 1 boolR (pairR 1 (slcR 2 (pairR 1 (intR .u64) strR)) strR))))))))) (oldH W) v0.cells.toList y := by obtain ⟨m, hm⟩ := t0; exact (reads_struct Try.underlying32 (by kernel_rfl) (readsF_cons rfl (by kernel_rfl) (reads_int Try.underlying3) (readsF_cons rfl (by kernel_rfl) (reads_int Try.underlying3) (readsF_cons rfl (by kernel_rfl) (reads_int Try.underlying3) (readsF_cons rfl (by kernel_rfl) (reads_int Try.underlying27) (readsF_cons rfl (by kernel_rfl) (reads_int Try.underlying27) (readsF_cons rfl (by kernel_rfl) (reads_int Try.underlying27) (readsF_cons rfl (by kernel_rfl) (reads_int Try.underlying27) (readsF_cons rfl (by kernel_rfl) (reads_bool Try.underlying4) (readsF_cons rfl (by kernel_rfl) (reads_slc Try.underlying30 (by kernel_rfl) (by decide) (reads_struct Try.underlying60 (by kernel_rfl) (readsF_cons rfl (by kernel_rfl) (reads_int Try.underlying27) (readsF_one rfl (reads_str Try.underlying9))))) (readsF_one rfl (reads_str Try.underlying9)))))))))))) W m _ _ hm
  obtain ⟨c0, rfl, l0⟩ : ∃ c : List Value, v0 = .agg ⟨c⟩ ∧ c.length = 10 := by have := (hval 0 32 v0 rfl rfl); unfold Value.okWide at this; rw [Try.underlying32] at this; obtain ⟨cs, rfl, hsz, _⟩ := this; have e : Try.prog.cellsOf 32 = 10 := (by kernel_rfl); rw [e] at hsz; exact ⟨cs.toList, rfl, by simpa using hsz⟩
  replace h0 : (pairR 1 (intR .i64) (pairR 1 (intR .i64) (pairR 1 (intR .i64) (pairR 1 (intR .u64) (pairR 1 (intR .u64) (pairR 1 (intR .u64) (pairR 1 (intR .u64) (pairR 1 boolR (pairR 1 (slcR 2 (pairR 1 (intR .u64) strR)) strR))))))))) (oldH W) c0 y0 := h0
  have lt1 : ∀ x ∈ p1, x.block < W.heap.size := by obtain ⟨m, hm⟩ := t1; exact DataW.trod_lt m _ _ _ hm
  obtain ⟨y1, h1⟩ : ∃ y, strR (oldH W) v1.cells.toList y := by obtain ⟨m, hm⟩ := t1; exact (reads_str Try.underlying9) W m _ _ hm
  obtain ⟨n1, rfl⟩ := okWide_string Try.underlying9 (hval 1 9 v1 rfl rfl)
  obtain ⟨e1, h1⟩ := h1
  obtain rfl : n1 = str y1 := by simpa [Value.cells] using e1
  clear hA0 hval0
  refine (law_calls (netBytes_t _ y0 l0 h0 _ h1)).mono fun e W' ⟨he, bel⟩ => ?_
  subst he
  exact ⟨_, rfl, _, _, _, [], _, [], hW', trodAll_mk1 (shut_bool Try.underlying4 _), (trodAll_cons_mk (Below.trod laidOut (by kernel_rfl) (of_decide_eq_true (by kernel_rfl)) t0 bel lt0) (trodAll_cons_mk (Below.trod laidOut (by kernel_rfl) (of_decide_eq_true (by kernel_rfl)) t1 bel lt1) trodAll_mk0)), rfl, bel.frame _, fun h => by cases h⟩
theorem NetBytes_holds : Rows.NetBytesSaid :=
  OpenClaim.holds_of_wide 4 Try.f4 rfl rfl rfl rfl rfl rfl rfl ⟨rfl, rfl, rfl, rfl, rfl⟩ rfl rfl rfl rfl rfl (by kernel_rfl) Try.func4 (by kernel_rfl)
    (of_decide_eq_true (by kernel_rfl)) (by unfold Func.isWrapper; first | (rw [if_pos (by decide +kernel)]; kernel_rfl) | (rw [if_neg (by decide +kernel)]; exact ⟨rfl, rfl⟩))
    (fun os started H enc _ => NetBytes_holds_lifted os started H enc)
#print axioms NetBytes_holds
end Go.Proofs.Ythdmbdbncbdmiaa
