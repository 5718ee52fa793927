/-
  No cell of these rows narrows 'for every input' (looked for: loops, veiled, ifaces, maps, wideKeys, modest, calm, conditions, laid).
  DERIVED. THE GIVEN ROWS OF THIS SEAT. 6 by the template 'for every input the law returns true; each argument reads behind the call as it read before'; 0 by the template 'total and deterministic' (their statements: YtenfjpigffjgmaaGreatTotals.lean).
  GIVEN WITH THE SEED: the statements are not yours to turn. If you find one false, say at which input.
  Laid BY PROGRAM, IN A SANDBOX (cutbox-rows.mjs): the forced cells as the released guide's own fill.sh prints them over the translation 29c5c773abcdcb36… (all of the seat's roots in one cut). By AI agents, Wed Nov 11 2026. No macro, syntax, notation, axiom, sorry.
-/
import Derived.Test.YtenfjpigffjgmaaGreatChecked
import GoSem.Claim
import GoSem.ClaimJoined
import GoSem.ClaimMapViews
import Derived.JoinedTies
import Derived.KernelRfl
namespace Go.Proofs.YtenfjpigffjgmaaGreat
/- THE CELL 'sum', in the pinned program and in every row, IS THE sha256 OF THE DUMP (.gsa) THAT YtenfjpigffjgmaaGreatProg.lean LOADS. Nothing in Lean hashes anything: it is a label: what it is worth is what the hold of that sum in a sandbox is worth. -/
noncomputable def Tryz.pinned : Pinned := { name := "ytenfjpigffjgmaagreat", sum := "29c5c773abcdcb36fae3e960702a203fcd09c63f1a1b709ab21bc05d1584b3d2", checked := Tryz.checked }
namespace Rows
def none {H : Type} : Left H := { results := [], args := [] }

/-- 'vidimuslaw11.GroupLives': WHATEVER THE INPUT: true; the input reads as it did. -/
def groupLivesSpec : ChangeSpec := { name := "groupLives", fn := fun _ => fun
  | [d1, d2, d3] => { results := [.lit (.bool true)], args := [d1, d2, d3] }
  | _ => none }
def groupLivesRow : OpenClaim := { program := "ytenfjpigffjgmaagreat", sum := "29c5c773abcdcb36fae3e960702a203fcd09c63f1a1b709ab21bc05d1584b3d2", func := "vidimus/vidimuslaw11.GroupLives", spec := "groupLives", inPlace := ["internal/abi.NoEscape"], unfollowed := true, recurses := true, apart := false }
def GroupLivesSaid : Prop := groupLivesRow.holds Tryz.pinned (OpenSpec.ofChange groupLivesSpec)

/-- ITS FALSE NEIGHBOUR: 'it returns false'. Refute it at one input. -/
def groupLivesWrong : ChangeSpec := { name := "groupLives", fn := fun _ => fun
  | [d1, d2, d3] => { results := [.lit (.bool false)], args := [d1, d2, d3] }
  | _ => none }
def GroupLivesWrongFalsely : Prop := groupLivesRow.holds Tryz.pinned (OpenSpec.ofChange groupLivesWrong)

/-- 'vidimuslaw11.GroupOutcomes': WHATEVER THE INPUT: true; the input reads as it did. -/
def groupOutcomesSpec : ChangeSpec := { name := "groupOutcomes", fn := fun _ => fun
  | [d1, d2] => { results := [.lit (.bool true)], args := [d1, d2] }
  | _ => none }
def groupOutcomesRow : OpenClaim := { program := "ytenfjpigffjgmaagreat", sum := "29c5c773abcdcb36fae3e960702a203fcd09c63f1a1b709ab21bc05d1584b3d2", func := "vidimus/vidimuslaw11.GroupOutcomes", spec := "groupOutcomes", inPlace := ["internal/abi.NoEscape"], unfollowed := true, recurses := true, apart := false }
def GroupOutcomesSaid : Prop := groupOutcomesRow.holds Tryz.pinned (OpenSpec.ofChange groupOutcomesSpec)

/-- ITS FALSE NEIGHBOUR: 'it returns false'. Refute it at one input. -/
def groupOutcomesWrong : ChangeSpec := { name := "groupOutcomes", fn := fun _ => fun
  | [d1, d2] => { results := [.lit (.bool false)], args := [d1, d2] }
  | _ => none }
def GroupOutcomesWrongFalsely : Prop := groupOutcomesRow.holds Tryz.pinned (OpenSpec.ofChange groupOutcomesWrong)

/-- 'vidimuslaw11.GroupLone': WHATEVER THE INPUT: true; the input reads as it did. -/
def groupLoneSpec : ChangeSpec := { name := "groupLone", fn := fun _ => fun
  | [d1, d2] => { results := [.lit (.bool true)], args := [d1, d2] }
  | _ => none }
def groupLoneRow : OpenClaim := { program := "ytenfjpigffjgmaagreat", sum := "29c5c773abcdcb36fae3e960702a203fcd09c63f1a1b709ab21bc05d1584b3d2", func := "vidimus/vidimuslaw11.GroupLone", spec := "groupLone", inPlace := ["internal/abi.NoEscape"], unfollowed := true, recurses := true, apart := false }
def GroupLoneSaid : Prop := groupLoneRow.holds Tryz.pinned (OpenSpec.ofChange groupLoneSpec)

/-- ITS FALSE NEIGHBOUR: 'it returns false'. Refute it at one input. -/
def groupLoneWrong : ChangeSpec := { name := "groupLone", fn := fun _ => fun
  | [d1, d2] => { results := [.lit (.bool false)], args := [d1, d2] }
  | _ => none }
def GroupLoneWrongFalsely : Prop := groupLoneRow.holds Tryz.pinned (OpenSpec.ofChange groupLoneWrong)

/-- 'vidimuslaw11.GroupMinor': WHATEVER THE INPUT: true; the input reads as it did. -/
def groupMinorSpec : ChangeSpec := { name := "groupMinor", fn := fun _ => fun
  | [d1, d2, d3] => { results := [.lit (.bool true)], args := [d1, d2, d3] }
  | _ => none }
def groupMinorRow : OpenClaim := { program := "ytenfjpigffjgmaagreat", sum := "29c5c773abcdcb36fae3e960702a203fcd09c63f1a1b709ab21bc05d1584b3d2", func := "vidimus/vidimuslaw11.GroupMinor", spec := "groupMinor", inPlace := ["internal/abi.NoEscape"], unfollowed := true, recurses := true, apart := false }
def GroupMinorSaid : Prop := groupMinorRow.holds Tryz.pinned (OpenSpec.ofChange groupMinorSpec)

/-- ITS FALSE NEIGHBOUR: 'it returns false'. Refute it at one input. -/
def groupMinorWrong : ChangeSpec := { name := "groupMinor", fn := fun _ => fun
  | [d1, d2, d3] => { results := [.lit (.bool false)], args := [d1, d2, d3] }
  | _ => none }
def GroupMinorWrongFalsely : Prop := groupMinorRow.holds Tryz.pinned (OpenSpec.ofChange groupMinorWrong)

/-- 'vidimuslaw11.GroupCompacts': WHATEVER THE INPUT: true; the input reads as it did. -/
def groupCompactsSpec : ChangeSpec := { name := "groupCompacts", fn := fun _ => fun
  | [d1, d2, d3] => { results := [.lit (.bool true)], args := [d1, d2, d3] }
  | _ => none }
def groupCompactsRow : OpenClaim := { program := "ytenfjpigffjgmaagreat", sum := "29c5c773abcdcb36fae3e960702a203fcd09c63f1a1b709ab21bc05d1584b3d2", func := "vidimus/vidimuslaw11.GroupCompacts", spec := "groupCompacts", inPlace := ["internal/abi.NoEscape"], unfollowed := true, recurses := true, apart := false }
def GroupCompactsSaid : Prop := groupCompactsRow.holds Tryz.pinned (OpenSpec.ofChange groupCompactsSpec)

/-- ITS FALSE NEIGHBOUR: 'it returns false'. Refute it at one input. -/
def groupCompactsWrong : ChangeSpec := { name := "groupCompacts", fn := fun _ => fun
  | [d1, d2, d3] => { results := [.lit (.bool false)], args := [d1, d2, d3] }
  | _ => none }
def GroupCompactsWrongFalsely : Prop := groupCompactsRow.holds Tryz.pinned (OpenSpec.ofChange groupCompactsWrong)

/-- 'vidimuslaw11.GroupSafe': WHATEVER THE INPUT: true; the input reads as it did. -/
def groupSafeSpec : ChangeSpec := { name := "groupSafe", fn := fun _ => fun
  | [d1, d2] => { results := [.lit (.bool true)], args := [d1, d2] }
  | _ => none }
def groupSafeRow : OpenClaim := { program := "ytenfjpigffjgmaagreat", sum := "29c5c773abcdcb36fae3e960702a203fcd09c63f1a1b709ab21bc05d1584b3d2", func := "vidimus/vidimuslaw11.GroupSafe", spec := "groupSafe", inPlace := ["internal/abi.NoEscape"], unfollowed := true, recurses := true, apart := false }
def GroupSafeSaid : Prop := groupSafeRow.holds Tryz.pinned (OpenSpec.ofChange groupSafeSpec)

/-- ITS FALSE NEIGHBOUR: 'it returns false'. Refute it at one input. -/
def groupSafeWrong : ChangeSpec := { name := "groupSafe", fn := fun _ => fun
  | [d1, d2] => { results := [.lit (.bool false)], args := [d1, d2] }
  | _ => none }
def GroupSafeWrongFalsely : Prop := groupSafeRow.holds Tryz.pinned (OpenSpec.ofChange groupSafeWrong)

/- THE SECOND FORM. 'bulk': how many values and letters a reading holds, each counted each time it is reached (what is shared counts as often as it is met; a slice's spare places count too). A statement '..UptoSaid' is the law's where the arguments, and the package variables that the reading takes, are together of bulk at most 1048576: NARROWER than '..Said'. Prove '..Said' where nothing that the law and all that it calls make is longer than what came in: it says more and counts as full. Else prove '..UptoSaid'. A law counts once. -/
mutual
def uptoBulk {H : Type} : DataW H → Nat
  | .lit (.string bytes) => bytes.length + 1
  | .lit _ => 1
  | .nil => 1
  | .ptr d => uptoBulk d + 1
  | .slice elems spare => uptoBulkAll elems + uptoBulkAll spare + 1
  | .agg parts => uptoBulkAll parts + 1
  | .iface _ d => uptoBulk d + 1
  | .map entries => uptoBulkEntries entries + 1
  | .held _ => 1
def uptoBulkAll {H : Type} : List (DataW H) → Nat
  | [] => 0
  | d :: r => uptoBulk d + uptoBulkAll r
def uptoBulkEntries {H : Type} : List (Lit × DataW H) → Nat
  | [] => 0
  | x :: r => uptoBulkEntry x + uptoBulkEntries r
def uptoBulkEntry {H : Type} : Lit × DataW H → Nat
  | (.string bytes, d) => bytes.length + uptoBulk d + 1
  | (_, d) => uptoBulk d + 1
 end
def uptoSmall : (H : Type) → List (DataW H) → Bool := fun _ ds => decide (uptoBulkAll ds ≤ 1048576)
def OpenSpec.upto (s : _root_.Go.ChangeSpec) : _root_.Go.OpenSpec := { _root_.Go.OpenSpec.ofChange s with cond := some uptoSmall }

/-- 'vidimuslaw11.GroupLives', WHERE WHAT IT READS IS OF BULK AT MOST 1048576: true; the input reads as it did. -/
def groupLivesUptoRow : OpenClaim := { program := "ytenfjpigffjgmaagreat", sum := "29c5c773abcdcb36fae3e960702a203fcd09c63f1a1b709ab21bc05d1584b3d2", func := "vidimus/vidimuslaw11.GroupLives", spec := "groupLives", inPlace := ["internal/abi.NoEscape"], unfollowed := true, recurses := true, apart := false, narrowed := true }
def GroupLivesUptoSaid : Prop := groupLivesUptoRow.holds Tryz.pinned (OpenSpec.upto groupLivesSpec)

/-- 'vidimuslaw11.GroupOutcomes', WHERE WHAT IT READS IS OF BULK AT MOST 1048576: true; the input reads as it did. -/
def groupOutcomesUptoRow : OpenClaim := { program := "ytenfjpigffjgmaagreat", sum := "29c5c773abcdcb36fae3e960702a203fcd09c63f1a1b709ab21bc05d1584b3d2", func := "vidimus/vidimuslaw11.GroupOutcomes", spec := "groupOutcomes", inPlace := ["internal/abi.NoEscape"], unfollowed := true, recurses := true, apart := false, narrowed := true }
def GroupOutcomesUptoSaid : Prop := groupOutcomesUptoRow.holds Tryz.pinned (OpenSpec.upto groupOutcomesSpec)

/-- 'vidimuslaw11.GroupLone', WHERE WHAT IT READS IS OF BULK AT MOST 1048576: true; the input reads as it did. -/
def groupLoneUptoRow : OpenClaim := { program := "ytenfjpigffjgmaagreat", sum := "29c5c773abcdcb36fae3e960702a203fcd09c63f1a1b709ab21bc05d1584b3d2", func := "vidimus/vidimuslaw11.GroupLone", spec := "groupLone", inPlace := ["internal/abi.NoEscape"], unfollowed := true, recurses := true, apart := false, narrowed := true }
def GroupLoneUptoSaid : Prop := groupLoneUptoRow.holds Tryz.pinned (OpenSpec.upto groupLoneSpec)

/-- 'vidimuslaw11.GroupMinor', WHERE WHAT IT READS IS OF BULK AT MOST 1048576: true; the input reads as it did. -/
def groupMinorUptoRow : OpenClaim := { program := "ytenfjpigffjgmaagreat", sum := "29c5c773abcdcb36fae3e960702a203fcd09c63f1a1b709ab21bc05d1584b3d2", func := "vidimus/vidimuslaw11.GroupMinor", spec := "groupMinor", inPlace := ["internal/abi.NoEscape"], unfollowed := true, recurses := true, apart := false, narrowed := true }
def GroupMinorUptoSaid : Prop := groupMinorUptoRow.holds Tryz.pinned (OpenSpec.upto groupMinorSpec)

/-- 'vidimuslaw11.GroupCompacts', WHERE WHAT IT READS IS OF BULK AT MOST 1048576: true; the input reads as it did. -/
def groupCompactsUptoRow : OpenClaim := { program := "ytenfjpigffjgmaagreat", sum := "29c5c773abcdcb36fae3e960702a203fcd09c63f1a1b709ab21bc05d1584b3d2", func := "vidimus/vidimuslaw11.GroupCompacts", spec := "groupCompacts", inPlace := ["internal/abi.NoEscape"], unfollowed := true, recurses := true, apart := false, narrowed := true }
def GroupCompactsUptoSaid : Prop := groupCompactsUptoRow.holds Tryz.pinned (OpenSpec.upto groupCompactsSpec)

/-- 'vidimuslaw11.GroupSafe', WHERE WHAT IT READS IS OF BULK AT MOST 1048576: true; the input reads as it did. -/
def groupSafeUptoRow : OpenClaim := { program := "ytenfjpigffjgmaagreat", sum := "29c5c773abcdcb36fae3e960702a203fcd09c63f1a1b709ab21bc05d1584b3d2", func := "vidimus/vidimuslaw11.GroupSafe", spec := "groupSafe", inPlace := ["internal/abi.NoEscape"], unfollowed := true, recurses := true, apart := false, narrowed := true }
def GroupSafeUptoSaid : Prop := groupSafeUptoRow.holds Tryz.pinned (OpenSpec.upto groupSafeSpec)

end Rows
end Go.Proofs.YtenfjpigffjgmaaGreat
