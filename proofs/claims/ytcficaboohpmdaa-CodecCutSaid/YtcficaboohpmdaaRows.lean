/-
  No cell of these rows narrows 'for every input' (looked for: loops, veiled, ifaces, maps, wideKeys, modest, calm, conditions, laid).
  DERIVED. THE GIVEN ROWS OF THIS SEAT. 6 by the template 'for every input the law returns true; each argument reads behind the call as it read before'; 0 by the template 'total and deterministic' (their statements: YtcficaboohpmdaaTotals.lean).
  GIVEN WITH THE SEED: the statements are not yours to turn. If you find one false, say at which input.
  Laid BY PROGRAM, IN A SANDBOX (cutbox-rows.mjs): the forced cells as the released guide's own fill.sh prints them over the translation ac198bc16a79355f… (all of the seat's roots in one cut). By AI agents, Wed Nov 11 2026. No macro, syntax, notation, axiom, sorry.
-/
import Derived.Test.YtcficaboohpmdaaChecked
import GoSem.Claim
import GoSem.ClaimJoined
import GoSem.ClaimMapViews
import Derived.JoinedTies
import Derived.KernelRfl
namespace Go.Proofs.Ytcficaboohpmdaa
/- THE CELL 'sum', in the pinned program and in every row, IS THE sha256 OF THE DUMP (.gsa) THAT YtcficaboohpmdaaProg.lean LOADS. Nothing in Lean hashes anything: it is a label: what it is worth is what the hold of that sum in a sandbox is worth. -/
noncomputable def Try.pinned : Pinned := { name := "ytcficaboohpmdaa", sum := "ac198bc16a79355f8c4232129bab2a756011346e4961e78027f9670c35252463", checked := Try.checked }
namespace Rows
def none {H : Type} : Left H := { results := [], args := [] }

/-- 'vidimuslaw03.CodecReads': WHATEVER THE INPUT: true; the input reads as it did. -/
def codecReadsSpec : ChangeSpec := { name := "codecReads", fn := fun _ => fun
  | [d] => { results := [.lit (.bool true)], args := [d] }
  | _ => none }
def codecReadsRow : OpenClaim := { program := "ytcficaboohpmdaa", sum := "ac198bc16a79355f8c4232129bab2a756011346e4961e78027f9670c35252463", func := "vidimus/vidimuslaw03.CodecReads", spec := "codecReads", inPlace := ["internal/abi.NoEscape"], unfollowed := true, recurses := true, apart := false }
def CodecReadsSaid : Prop := codecReadsRow.holds Try.pinned (OpenSpec.ofChange codecReadsSpec)

/-- ITS FALSE NEIGHBOUR: 'it returns false'. Refute it at one input. -/
def codecReadsWrong : ChangeSpec := { name := "codecReads", fn := fun _ => fun
  | [d] => { results := [.lit (.bool false)], args := [d] }
  | _ => none }
def CodecReadsWrongFalsely : Prop := codecReadsRow.holds Try.pinned (OpenSpec.ofChange codecReadsWrong)

/-- 'vidimuslaw03.CodecDeep': WHATEVER THE INPUT: true; the input reads as it did. -/
def codecDeepSpec : ChangeSpec := { name := "codecDeep", fn := fun _ => fun
  | [d] => { results := [.lit (.bool true)], args := [d] }
  | _ => none }
def codecDeepRow : OpenClaim := { program := "ytcficaboohpmdaa", sum := "ac198bc16a79355f8c4232129bab2a756011346e4961e78027f9670c35252463", func := "vidimus/vidimuslaw03.CodecDeep", spec := "codecDeep", inPlace := ["internal/abi.NoEscape"], unfollowed := true, recurses := true, apart := false }
def CodecDeepSaid : Prop := codecDeepRow.holds Try.pinned (OpenSpec.ofChange codecDeepSpec)

/-- ITS FALSE NEIGHBOUR: 'it returns false'. Refute it at one input. -/
def codecDeepWrong : ChangeSpec := { name := "codecDeep", fn := fun _ => fun
  | [d] => { results := [.lit (.bool false)], args := [d] }
  | _ => none }
def CodecDeepWrongFalsely : Prop := codecDeepRow.holds Try.pinned (OpenSpec.ofChange codecDeepWrong)

/-- 'vidimuslaw03.CodecJoins': WHATEVER THE INPUT: true; the input reads as it did. -/
def codecJoinsSpec : ChangeSpec := { name := "codecJoins", fn := fun _ => fun
  | [d] => { results := [.lit (.bool true)], args := [d] }
  | _ => none }
def codecJoinsRow : OpenClaim := { program := "ytcficaboohpmdaa", sum := "ac198bc16a79355f8c4232129bab2a756011346e4961e78027f9670c35252463", func := "vidimus/vidimuslaw03.CodecJoins", spec := "codecJoins", inPlace := ["internal/abi.NoEscape"], unfollowed := true, recurses := true, apart := false }
def CodecJoinsSaid : Prop := codecJoinsRow.holds Try.pinned (OpenSpec.ofChange codecJoinsSpec)

/-- ITS FALSE NEIGHBOUR: 'it returns false'. Refute it at one input. -/
def codecJoinsWrong : ChangeSpec := { name := "codecJoins", fn := fun _ => fun
  | [d] => { results := [.lit (.bool false)], args := [d] }
  | _ => none }
def CodecJoinsWrongFalsely : Prop := codecJoinsRow.holds Try.pinned (OpenSpec.ofChange codecJoinsWrong)

/-- 'vidimuslaw03.CodecCut': WHATEVER THE INPUT: true; the input reads as it did. -/
def codecCutSpec : ChangeSpec := { name := "codecCut", fn := fun _ => fun
  | [d1, d2, d3] => { results := [.lit (.bool true)], args := [d1, d2, d3] }
  | _ => none }
def codecCutRow : OpenClaim := { program := "ytcficaboohpmdaa", sum := "ac198bc16a79355f8c4232129bab2a756011346e4961e78027f9670c35252463", func := "vidimus/vidimuslaw03.CodecCut", spec := "codecCut", inPlace := ["internal/abi.NoEscape"], unfollowed := true, recurses := true, apart := false }
def CodecCutSaid : Prop := codecCutRow.holds Try.pinned (OpenSpec.ofChange codecCutSpec)

/-- ITS FALSE NEIGHBOUR: 'it returns false'. Refute it at one input. -/
def codecCutWrong : ChangeSpec := { name := "codecCut", fn := fun _ => fun
  | [d1, d2, d3] => { results := [.lit (.bool false)], args := [d1, d2, d3] }
  | _ => none }
def CodecCutWrongFalsely : Prop := codecCutRow.holds Try.pinned (OpenSpec.ofChange codecCutWrong)

/-- 'vidimuslaw03.CodecWrites': WHATEVER THE INPUT: true; the input reads as it did. -/
def codecWritesSpec : ChangeSpec := { name := "codecWrites", fn := fun _ => fun
  | [d] => { results := [.lit (.bool true)], args := [d] }
  | _ => none }
def codecWritesRow : OpenClaim := { program := "ytcficaboohpmdaa", sum := "ac198bc16a79355f8c4232129bab2a756011346e4961e78027f9670c35252463", func := "vidimus/vidimuslaw03.CodecWrites", spec := "codecWrites", inPlace := ["internal/abi.NoEscape"], unfollowed := true, recurses := true, apart := false }
def CodecWritesSaid : Prop := codecWritesRow.holds Try.pinned (OpenSpec.ofChange codecWritesSpec)

/-- ITS FALSE NEIGHBOUR: 'it returns false'. Refute it at one input. -/
def codecWritesWrong : ChangeSpec := { name := "codecWrites", fn := fun _ => fun
  | [d] => { results := [.lit (.bool false)], args := [d] }
  | _ => none }
def CodecWritesWrongFalsely : Prop := codecWritesRow.holds Try.pinned (OpenSpec.ofChange codecWritesWrong)

/-- 'vidimuslaw03.CodecUnlike': WHATEVER THE INPUT: true; the input reads as it did. -/
def codecUnlikeSpec : ChangeSpec := { name := "codecUnlike", fn := fun _ => fun
  | [d1, d2] => { results := [.lit (.bool true)], args := [d1, d2] }
  | _ => none }
def codecUnlikeRow : OpenClaim := { program := "ytcficaboohpmdaa", sum := "ac198bc16a79355f8c4232129bab2a756011346e4961e78027f9670c35252463", func := "vidimus/vidimuslaw03.CodecUnlike", spec := "codecUnlike", inPlace := ["internal/abi.NoEscape"], unfollowed := true, recurses := true, apart := false }
def CodecUnlikeSaid : Prop := codecUnlikeRow.holds Try.pinned (OpenSpec.ofChange codecUnlikeSpec)

/-- ITS FALSE NEIGHBOUR: 'it returns false'. Refute it at one input. -/
def codecUnlikeWrong : ChangeSpec := { name := "codecUnlike", fn := fun _ => fun
  | [d1, d2] => { results := [.lit (.bool false)], args := [d1, d2] }
  | _ => none }
def CodecUnlikeWrongFalsely : Prop := codecUnlikeRow.holds Try.pinned (OpenSpec.ofChange codecUnlikeWrong)

/- THE SECOND FORM. 'bulk': how many values and letters a reading holds, each counted each time it is reached (what is shared counts as often as it is met; a slice's spare places count too). A statement '..UptoSaid' is the law's where the arguments, and the package variables that the reading takes, are together of bulk at most 1048576: NARROWER than '..Said'. Prove '..Said' where nothing that the law and all that it calls make is longer than what came in: it says more and counts as full. Else prove '..UptoSaid'. A law counts once. -/
mutual
def uptoBulk {H : Type} : DataW H → Nat
  | .lit (.string bytes) => bytes.length + 1
  | .lit _ => 1
  | .nil => 1
  | .ptr d => uptoBulk d + 1
  | .slice elems spare => uptoBulkAll elems + uptoBulkAll spare + 1
  | .agg parts => uptoBulkAll parts + 1
  | .iface _ d => uptoBulk d + 1
  | .map entries => uptoBulkEntries entries + 1
  | .held _ => 1
def uptoBulkAll {H : Type} : List (DataW H) → Nat
  | [] => 0
  | d :: r => uptoBulk d + uptoBulkAll r
def uptoBulkEntries {H : Type} : List (Lit × DataW H) → Nat
  | [] => 0
  | x :: r => uptoBulkEntry x + uptoBulkEntries r
def uptoBulkEntry {H : Type} : Lit × DataW H → Nat
  | (.string bytes, d) => bytes.length + uptoBulk d + 1
  | (_, d) => uptoBulk d + 1
 end
def uptoSmall : (H : Type) → List (DataW H) → Bool := fun _ ds => decide (uptoBulkAll ds ≤ 1048576)
def OpenSpec.upto (s : _root_.Go.ChangeSpec) : _root_.Go.OpenSpec := { _root_.Go.OpenSpec.ofChange s with cond := some uptoSmall }

/-- 'vidimuslaw03.CodecReads', WHERE WHAT IT READS IS OF BULK AT MOST 1048576: true; the input reads as it did. -/
def codecReadsUptoRow : OpenClaim := { program := "ytcficaboohpmdaa", sum := "ac198bc16a79355f8c4232129bab2a756011346e4961e78027f9670c35252463", func := "vidimus/vidimuslaw03.CodecReads", spec := "codecReads", inPlace := ["internal/abi.NoEscape"], unfollowed := true, recurses := true, apart := false, narrowed := true }
def CodecReadsUptoSaid : Prop := codecReadsUptoRow.holds Try.pinned (OpenSpec.upto codecReadsSpec)

/-- 'vidimuslaw03.CodecDeep', WHERE WHAT IT READS IS OF BULK AT MOST 1048576: true; the input reads as it did. -/
def codecDeepUptoRow : OpenClaim := { program := "ytcficaboohpmdaa", sum := "ac198bc16a79355f8c4232129bab2a756011346e4961e78027f9670c35252463", func := "vidimus/vidimuslaw03.CodecDeep", spec := "codecDeep", inPlace := ["internal/abi.NoEscape"], unfollowed := true, recurses := true, apart := false, narrowed := true }
def CodecDeepUptoSaid : Prop := codecDeepUptoRow.holds Try.pinned (OpenSpec.upto codecDeepSpec)

/-- 'vidimuslaw03.CodecJoins', WHERE WHAT IT READS IS OF BULK AT MOST 1048576: true; the input reads as it did. -/
def codecJoinsUptoRow : OpenClaim := { program := "ytcficaboohpmdaa", sum := "ac198bc16a79355f8c4232129bab2a756011346e4961e78027f9670c35252463", func := "vidimus/vidimuslaw03.CodecJoins", spec := "codecJoins", inPlace := ["internal/abi.NoEscape"], unfollowed := true, recurses := true, apart := false, narrowed := true }
def CodecJoinsUptoSaid : Prop := codecJoinsUptoRow.holds Try.pinned (OpenSpec.upto codecJoinsSpec)

/-- 'vidimuslaw03.CodecCut', WHERE WHAT IT READS IS OF BULK AT MOST 1048576: true; the input reads as it did. -/
def codecCutUptoRow : OpenClaim := { program := "ytcficaboohpmdaa", sum := "ac198bc16a79355f8c4232129bab2a756011346e4961e78027f9670c35252463", func := "vidimus/vidimuslaw03.CodecCut", spec := "codecCut", inPlace := ["internal/abi.NoEscape"], unfollowed := true, recurses := true, apart := false, narrowed := true }
def CodecCutUptoSaid : Prop := codecCutUptoRow.holds Try.pinned (OpenSpec.upto codecCutSpec)

/-- 'vidimuslaw03.CodecWrites', WHERE WHAT IT READS IS OF BULK AT MOST 1048576: true; the input reads as it did. -/
def codecWritesUptoRow : OpenClaim := { program := "ytcficaboohpmdaa", sum := "ac198bc16a79355f8c4232129bab2a756011346e4961e78027f9670c35252463", func := "vidimus/vidimuslaw03.CodecWrites", spec := "codecWrites", inPlace := ["internal/abi.NoEscape"], unfollowed := true, recurses := true, apart := false, narrowed := true }
def CodecWritesUptoSaid : Prop := codecWritesUptoRow.holds Try.pinned (OpenSpec.upto codecWritesSpec)

/-- 'vidimuslaw03.CodecUnlike', WHERE WHAT IT READS IS OF BULK AT MOST 1048576: true; the input reads as it did. -/
def codecUnlikeUptoRow : OpenClaim := { program := "ytcficaboohpmdaa", sum := "ac198bc16a79355f8c4232129bab2a756011346e4961e78027f9670c35252463", func := "vidimus/vidimuslaw03.CodecUnlike", spec := "codecUnlike", inPlace := ["internal/abi.NoEscape"], unfollowed := true, recurses := true, apart := false, narrowed := true }
def CodecUnlikeUptoSaid : Prop := codecUnlikeUptoRow.holds Try.pinned (OpenSpec.upto codecUnlikeSpec)

end Rows
end Go.Proofs.Ytcficaboohpmdaa
