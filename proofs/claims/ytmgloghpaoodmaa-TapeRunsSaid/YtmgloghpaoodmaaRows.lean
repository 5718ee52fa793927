/-
  No cell of these rows narrows 'for every input' (looked for: loops, veiled, ifaces, maps, wideKeys, modest, calm, conditions, laid).
  DERIVED. THE GIVEN ROWS OF THIS SEAT. 4 by the template 'for every input the law returns true; each argument reads behind the call as it read before'; 0 by the template 'total and deterministic' (their statements: YtmgloghpaoodmaaTotals.lean).
  GIVEN WITH THE SEED: the statements are not yours to turn. If you find one false, say at which input.
  Laid BY PROGRAM, IN A SANDBOX (cutbox-rows.mjs): the forced cells as the released guide's own fill.sh prints them over the translation 1b4e2b4fb5179c60… (all of the seat's roots in one cut). By AI agents, Wed Nov 11 2026. No macro, syntax, notation, axiom, sorry.
-/
import Derived.Test.YtmgloghpaoodmaaChecked
import GoSem.Claim
import GoSem.ClaimJoined
import GoSem.ClaimMapViews
import Derived.JoinedTies
import Derived.KernelRfl
namespace Go.Proofs.Ytmgloghpaoodmaa
/- THE CELL 'sum', in the pinned program and in every row, IS THE sha256 OF THE DUMP (.gsa) THAT YtmgloghpaoodmaaProg.lean LOADS. Nothing in Lean hashes anything: it is a label: what it is worth is what the hold of that sum in a sandbox is worth. -/
noncomputable def Try.pinned : Pinned := { name := "ytmgloghpaoodmaa", sum := "1b4e2b4fb5179c609e8f68d782c7284c7eb42ea5f90555cb99060360a6e1695b", checked := Try.checked }
namespace Rows
def none {H : Type} : Left H := { results := [], args := [] }

/-- 'vidimuslaw04.TapeWhole': WHATEVER THE INPUT: true; the input reads as it did. -/
def tapeWholeSpec : ChangeSpec := { name := "tapeWhole", fn := fun _ => fun
  | [d1, d2] => { results := [.lit (.bool true)], args := [d1, d2] }
  | _ => none }
def tapeWholeRow : OpenClaim := { program := "ytmgloghpaoodmaa", sum := "1b4e2b4fb5179c609e8f68d782c7284c7eb42ea5f90555cb99060360a6e1695b", func := "vidimus/vidimuslaw04.TapeWhole", spec := "tapeWhole", inPlace := ["sync/atomic.LoadInt64", "sync/atomic.CompareAndSwapInt64"], apart := false }
def TapeWholeSaid : Prop := tapeWholeRow.holds Try.pinned (OpenSpec.ofChange tapeWholeSpec)

/-- ITS FALSE NEIGHBOUR: 'it returns false'. Refute it at one input. -/
def tapeWholeWrong : ChangeSpec := { name := "tapeWhole", fn := fun _ => fun
  | [d1, d2] => { results := [.lit (.bool false)], args := [d1, d2] }
  | _ => none }
def TapeWholeWrongFalsely : Prop := tapeWholeRow.holds Try.pinned (OpenSpec.ofChange tapeWholeWrong)

/-- 'vidimuslaw04.TapeApart': WHATEVER THE INPUT: true; the input reads as it did. -/
def tapeApartSpec : ChangeSpec := { name := "tapeApart", fn := fun _ => fun
  | [d1, d2] => { results := [.lit (.bool true)], args := [d1, d2] }
  | _ => none }
def tapeApartRow : OpenClaim := { program := "ytmgloghpaoodmaa", sum := "1b4e2b4fb5179c609e8f68d782c7284c7eb42ea5f90555cb99060360a6e1695b", func := "vidimus/vidimuslaw04.TapeApart", spec := "tapeApart", inPlace := ["sync/atomic.LoadInt64", "sync/atomic.CompareAndSwapInt64"], apart := false }
def TapeApartSaid : Prop := tapeApartRow.holds Try.pinned (OpenSpec.ofChange tapeApartSpec)

/-- ITS FALSE NEIGHBOUR: 'it returns false'. Refute it at one input. -/
def tapeApartWrong : ChangeSpec := { name := "tapeApart", fn := fun _ => fun
  | [d1, d2] => { results := [.lit (.bool false)], args := [d1, d2] }
  | _ => none }
def TapeApartWrongFalsely : Prop := tapeApartRow.holds Try.pinned (OpenSpec.ofChange tapeApartWrong)

/-- 'vidimuslaw04.TapeEven': WHATEVER THE INPUT: true; the input reads as it did. -/
def tapeEvenSpec : ChangeSpec := { name := "tapeEven", fn := fun _ => fun
  | [d1, d2] => { results := [.lit (.bool true)], args := [d1, d2] }
  | _ => none }
def tapeEvenRow : OpenClaim := { program := "ytmgloghpaoodmaa", sum := "1b4e2b4fb5179c609e8f68d782c7284c7eb42ea5f90555cb99060360a6e1695b", func := "vidimus/vidimuslaw04.TapeEven", spec := "tapeEven", inPlace := ["sync/atomic.LoadInt64", "sync/atomic.CompareAndSwapInt64"], apart := false }
def TapeEvenSaid : Prop := tapeEvenRow.holds Try.pinned (OpenSpec.ofChange tapeEvenSpec)

/-- ITS FALSE NEIGHBOUR: 'it returns false'. Refute it at one input. -/
def tapeEvenWrong : ChangeSpec := { name := "tapeEven", fn := fun _ => fun
  | [d1, d2] => { results := [.lit (.bool false)], args := [d1, d2] }
  | _ => none }
def TapeEvenWrongFalsely : Prop := tapeEvenRow.holds Try.pinned (OpenSpec.ofChange tapeEvenWrong)

/-- 'vidimuslaw04.TapeRuns': WHATEVER THE INPUT: true; the input reads as it did. -/
def tapeRunsSpec : ChangeSpec := { name := "tapeRuns", fn := fun _ => fun
  | [d1, d2] => { results := [.lit (.bool true)], args := [d1, d2] }
  | _ => none }
def tapeRunsRow : OpenClaim := { program := "ytmgloghpaoodmaa", sum := "1b4e2b4fb5179c609e8f68d782c7284c7eb42ea5f90555cb99060360a6e1695b", func := "vidimus/vidimuslaw04.TapeRuns", spec := "tapeRuns", inPlace := ["sync/atomic.LoadInt64", "sync/atomic.CompareAndSwapInt64"], apart := false }
def TapeRunsSaid : Prop := tapeRunsRow.holds Try.pinned (OpenSpec.ofChange tapeRunsSpec)

/-- ITS FALSE NEIGHBOUR: 'it returns false'. Refute it at one input. -/
def tapeRunsWrong : ChangeSpec := { name := "tapeRuns", fn := fun _ => fun
  | [d1, d2] => { results := [.lit (.bool false)], args := [d1, d2] }
  | _ => none }
def TapeRunsWrongFalsely : Prop := tapeRunsRow.holds Try.pinned (OpenSpec.ofChange tapeRunsWrong)

/- THE SECOND FORM. 'bulk': how many values and letters a reading holds, each counted each time it is reached (what is shared counts as often as it is met; a slice's spare places count too). A statement '..UptoSaid' is the law's where the arguments, and the package variables that the reading takes, are together of bulk at most 1048576: NARROWER than '..Said'. Prove '..Said' where nothing that the law and all that it calls make is longer than what came in: it says more and counts as full. Else prove '..UptoSaid'. A law counts once. -/
mutual
def uptoBulk {H : Type} : DataW H → Nat
  | .lit (.string bytes) => bytes.length + 1
  | .lit _ => 1
  | .nil => 1
  | .ptr d => uptoBulk d + 1
  | .slice elems spare => uptoBulkAll elems + uptoBulkAll spare + 1
  | .agg parts => uptoBulkAll parts + 1
  | .iface _ d => uptoBulk d + 1
  | .map entries => uptoBulkEntries entries + 1
  | .held _ => 1
def uptoBulkAll {H : Type} : List (DataW H) → Nat
  | [] => 0
  | d :: r => uptoBulk d + uptoBulkAll r
def uptoBulkEntries {H : Type} : List (Lit × DataW H) → Nat
  | [] => 0
  | x :: r => uptoBulkEntry x + uptoBulkEntries r
def uptoBulkEntry {H : Type} : Lit × DataW H → Nat
  | (.string bytes, d) => bytes.length + uptoBulk d + 1
  | (_, d) => uptoBulk d + 1
 end
def uptoSmall : (H : Type) → List (DataW H) → Bool := fun _ ds => decide (uptoBulkAll ds ≤ 1048576)
def OpenSpec.upto (s : _root_.Go.ChangeSpec) : _root_.Go.OpenSpec := { _root_.Go.OpenSpec.ofChange s with cond := some uptoSmall }

/-- 'vidimuslaw04.TapeWhole', WHERE WHAT IT READS IS OF BULK AT MOST 1048576: true; the input reads as it did. -/
def tapeWholeUptoRow : OpenClaim := { program := "ytmgloghpaoodmaa", sum := "1b4e2b4fb5179c609e8f68d782c7284c7eb42ea5f90555cb99060360a6e1695b", func := "vidimus/vidimuslaw04.TapeWhole", spec := "tapeWhole", inPlace := ["sync/atomic.LoadInt64", "sync/atomic.CompareAndSwapInt64"], apart := false, narrowed := true }
def TapeWholeUptoSaid : Prop := tapeWholeUptoRow.holds Try.pinned (OpenSpec.upto tapeWholeSpec)

/-- 'vidimuslaw04.TapeApart', WHERE WHAT IT READS IS OF BULK AT MOST 1048576: true; the input reads as it did. -/
def tapeApartUptoRow : OpenClaim := { program := "ytmgloghpaoodmaa", sum := "1b4e2b4fb5179c609e8f68d782c7284c7eb42ea5f90555cb99060360a6e1695b", func := "vidimus/vidimuslaw04.TapeApart", spec := "tapeApart", inPlace := ["sync/atomic.LoadInt64", "sync/atomic.CompareAndSwapInt64"], apart := false, narrowed := true }
def TapeApartUptoSaid : Prop := tapeApartUptoRow.holds Try.pinned (OpenSpec.upto tapeApartSpec)

/-- 'vidimuslaw04.TapeEven', WHERE WHAT IT READS IS OF BULK AT MOST 1048576: true; the input reads as it did. -/
def tapeEvenUptoRow : OpenClaim := { program := "ytmgloghpaoodmaa", sum := "1b4e2b4fb5179c609e8f68d782c7284c7eb42ea5f90555cb99060360a6e1695b", func := "vidimus/vidimuslaw04.TapeEven", spec := "tapeEven", inPlace := ["sync/atomic.LoadInt64", "sync/atomic.CompareAndSwapInt64"], apart := false, narrowed := true }
def TapeEvenUptoSaid : Prop := tapeEvenUptoRow.holds Try.pinned (OpenSpec.upto tapeEvenSpec)

/-- 'vidimuslaw04.TapeRuns', WHERE WHAT IT READS IS OF BULK AT MOST 1048576: true; the input reads as it did. -/
def tapeRunsUptoRow : OpenClaim := { program := "ytmgloghpaoodmaa", sum := "1b4e2b4fb5179c609e8f68d782c7284c7eb42ea5f90555cb99060360a6e1695b", func := "vidimus/vidimuslaw04.TapeRuns", spec := "tapeRuns", inPlace := ["sync/atomic.LoadInt64", "sync/atomic.CompareAndSwapInt64"], apart := false, narrowed := true }
def TapeRunsUptoSaid : Prop := tapeRunsUptoRow.holds Try.pinned (OpenSpec.upto tapeRunsSpec)

end Rows
end Go.Proofs.Ytmgloghpaoodmaa
