/-
  No cell of these rows narrows 'for every input' (looked for: loops, veiled, ifaces, maps, wideKeys, modest, calm, conditions, laid).
  DERIVED. THE GIVEN ROWS OF THIS SEAT. 4 by the template 'for every input the law returns true; each argument reads behind the call as it read before'; 0 by the template 'total and deterministic' (their statements: YthdmbdbncbdmiaaTotals.lean).
  GIVEN WITH THE SEED: the statements are not yours to turn. If you find one false, say at which input.
  Laid BY PROGRAM, IN A SANDBOX (cutbox-rows.mjs): the forced cells as the released guide's own fill.sh prints them over the translation f838c59aef47123d… (all of the seat's roots in one cut). By AI agents, Wed Nov 11 2026. No macro, syntax, notation, axiom, sorry.
-/
import Derived.Test.YthdmbdbncbdmiaaChecked
import GoSem.Claim
import GoSem.ClaimJoined
import GoSem.ClaimMapViews
import Derived.JoinedTies
import Derived.KernelRfl
namespace Go.Proofs.Ythdmbdbncbdmiaa
/- THE CELL 'sum', in the pinned program and in every row, IS THE sha256 OF THE DUMP (.gsa) THAT YthdmbdbncbdmiaaProg.lean LOADS. Nothing in Lean hashes anything: it is a label: what it is worth is what the hold of that sum in a sandbox is worth. -/
noncomputable def Try.pinned : Pinned := { name := "ythdmbdbncbdmiaa", sum := "f838c59aef47123dca873e8d45c15ae2a5ccca62cfeff46dec40ce9c8c45eacb", checked := Try.checked }
namespace Rows
def none {H : Type} : Left H := { results := [], args := [] }

/-- 'vidimuslaw10.NetRuns': WHATEVER THE INPUT: true; the input reads as it did. -/
def netRunsSpec : ChangeSpec := { name := "netRuns", fn := fun _ => fun
  | [d] => { results := [.lit (.bool true)], args := [d] }
  | _ => none }
def netRunsRow : OpenClaim := { program := "ythdmbdbncbdmiaa", sum := "f838c59aef47123dca873e8d45c15ae2a5ccca62cfeff46dec40ce9c8c45eacb", func := "vidimus/vidimuslaw10.NetRuns", spec := "netRuns", inPlace := ["internal/abi.NoEscape"], unfollowed := true, recurses := true, apart := false }
def NetRunsSaid : Prop := netRunsRow.holds Try.pinned (OpenSpec.ofChange netRunsSpec)

/-- ITS FALSE NEIGHBOUR: 'it returns false'. Refute it at one input. -/
def netRunsWrong : ChangeSpec := { name := "netRuns", fn := fun _ => fun
  | [d] => { results := [.lit (.bool false)], args := [d] }
  | _ => none }
def NetRunsWrongFalsely : Prop := netRunsRow.holds Try.pinned (OpenSpec.ofChange netRunsWrong)

/-- 'vidimuslaw10.NetBytes': WHATEVER THE INPUT: true; the input reads as it did. -/
def netBytesSpec : ChangeSpec := { name := "netBytes", fn := fun _ => fun
  | [d1, d2] => { results := [.lit (.bool true)], args := [d1, d2] }
  | _ => none }
def netBytesRow : OpenClaim := { program := "ythdmbdbncbdmiaa", sum := "f838c59aef47123dca873e8d45c15ae2a5ccca62cfeff46dec40ce9c8c45eacb", func := "vidimus/vidimuslaw10.NetBytes", spec := "netBytes", inPlace := ["internal/abi.NoEscape"], unfollowed := true, recurses := true, apart := false }
def NetBytesSaid : Prop := netBytesRow.holds Try.pinned (OpenSpec.ofChange netBytesSpec)

/-- ITS FALSE NEIGHBOUR: 'it returns false'. Refute it at one input. -/
def netBytesWrong : ChangeSpec := { name := "netBytes", fn := fun _ => fun
  | [d1, d2] => { results := [.lit (.bool false)], args := [d1, d2] }
  | _ => none }
def NetBytesWrongFalsely : Prop := netBytesRow.holds Try.pinned (OpenSpec.ofChange netBytesWrong)

/-- 'vidimuslaw10.NetTo': WHATEVER THE INPUT: true; the input reads as it did. -/
def netToSpec : ChangeSpec := { name := "netTo", fn := fun _ => fun
  | [d1, d2] => { results := [.lit (.bool true)], args := [d1, d2] }
  | _ => none }
def netToRow : OpenClaim := { program := "ythdmbdbncbdmiaa", sum := "f838c59aef47123dca873e8d45c15ae2a5ccca62cfeff46dec40ce9c8c45eacb", func := "vidimus/vidimuslaw10.NetTo", spec := "netTo", inPlace := ["internal/abi.NoEscape"], unfollowed := true, recurses := true, apart := false }
def NetToSaid : Prop := netToRow.holds Try.pinned (OpenSpec.ofChange netToSpec)

/-- ITS FALSE NEIGHBOUR: 'it returns false'. Refute it at one input. -/
def netToWrong : ChangeSpec := { name := "netTo", fn := fun _ => fun
  | [d1, d2] => { results := [.lit (.bool false)], args := [d1, d2] }
  | _ => none }
def NetToWrongFalsely : Prop := netToRow.holds Try.pinned (OpenSpec.ofChange netToWrong)

/-- 'vidimuslaw10.NetOnce': WHATEVER THE INPUT: true; the input reads as it did. -/
def netOnceSpec : ChangeSpec := { name := "netOnce", fn := fun _ => fun
  | [d1, d2] => { results := [.lit (.bool true)], args := [d1, d2] }
  | _ => none }
def netOnceRow : OpenClaim := { program := "ythdmbdbncbdmiaa", sum := "f838c59aef47123dca873e8d45c15ae2a5ccca62cfeff46dec40ce9c8c45eacb", func := "vidimus/vidimuslaw10.NetOnce", spec := "netOnce", inPlace := ["internal/abi.NoEscape"], unfollowed := true, recurses := true, apart := false }
def NetOnceSaid : Prop := netOnceRow.holds Try.pinned (OpenSpec.ofChange netOnceSpec)

/-- ITS FALSE NEIGHBOUR: 'it returns false'. Refute it at one input. -/
def netOnceWrong : ChangeSpec := { name := "netOnce", fn := fun _ => fun
  | [d1, d2] => { results := [.lit (.bool false)], args := [d1, d2] }
  | _ => none }
def NetOnceWrongFalsely : Prop := netOnceRow.holds Try.pinned (OpenSpec.ofChange netOnceWrong)

/- THE SECOND FORM. 'bulk': how many values and letters a reading holds, each counted each time it is reached (what is shared counts as often as it is met; a slice's spare places count too). A statement '..UptoSaid' is the law's where the arguments, and the package variables that the reading takes, are together of bulk at most 1048576: NARROWER than '..Said'. Prove '..Said' where nothing that the law and all that it calls make is longer than what came in: it says more and counts as full. Else prove '..UptoSaid'. A law counts once. -/
mutual
def uptoBulk {H : Type} : DataW H → Nat
  | .lit (.string bytes) => bytes.length + 1
  | .lit _ => 1
  | .nil => 1
  | .ptr d => uptoBulk d + 1
  | .slice elems spare => uptoBulkAll elems + uptoBulkAll spare + 1
  | .agg parts => uptoBulkAll parts + 1
  | .iface _ d => uptoBulk d + 1
  | .map entries => uptoBulkEntries entries + 1
  | .held _ => 1
def uptoBulkAll {H : Type} : List (DataW H) → Nat
  | [] => 0
  | d :: r => uptoBulk d + uptoBulkAll r
def uptoBulkEntries {H : Type} : List (Lit × DataW H) → Nat
  | [] => 0
  | x :: r => uptoBulkEntry x + uptoBulkEntries r
def uptoBulkEntry {H : Type} : Lit × DataW H → Nat
  | (.string bytes, d) => bytes.length + uptoBulk d + 1
  | (_, d) => uptoBulk d + 1
 end
def uptoSmall : (H : Type) → List (DataW H) → Bool := fun _ ds => decide (uptoBulkAll ds ≤ 1048576)
def OpenSpec.upto (s : _root_.Go.ChangeSpec) : _root_.Go.OpenSpec := { _root_.Go.OpenSpec.ofChange s with cond := some uptoSmall }

/-- 'vidimuslaw10.NetRuns', WHERE WHAT IT READS IS OF BULK AT MOST 1048576: true; the input reads as it did. -/
def netRunsUptoRow : OpenClaim := { program := "ythdmbdbncbdmiaa", sum := "f838c59aef47123dca873e8d45c15ae2a5ccca62cfeff46dec40ce9c8c45eacb", func := "vidimus/vidimuslaw10.NetRuns", spec := "netRuns", inPlace := ["internal/abi.NoEscape"], unfollowed := true, recurses := true, apart := false, narrowed := true }
def NetRunsUptoSaid : Prop := netRunsUptoRow.holds Try.pinned (OpenSpec.upto netRunsSpec)

/-- 'vidimuslaw10.NetBytes', WHERE WHAT IT READS IS OF BULK AT MOST 1048576: true; the input reads as it did. -/
def netBytesUptoRow : OpenClaim := { program := "ythdmbdbncbdmiaa", sum := "f838c59aef47123dca873e8d45c15ae2a5ccca62cfeff46dec40ce9c8c45eacb", func := "vidimus/vidimuslaw10.NetBytes", spec := "netBytes", inPlace := ["internal/abi.NoEscape"], unfollowed := true, recurses := true, apart := false, narrowed := true }
def NetBytesUptoSaid : Prop := netBytesUptoRow.holds Try.pinned (OpenSpec.upto netBytesSpec)

/-- 'vidimuslaw10.NetTo', WHERE WHAT IT READS IS OF BULK AT MOST 1048576: true; the input reads as it did. -/
def netToUptoRow : OpenClaim := { program := "ythdmbdbncbdmiaa", sum := "f838c59aef47123dca873e8d45c15ae2a5ccca62cfeff46dec40ce9c8c45eacb", func := "vidimus/vidimuslaw10.NetTo", spec := "netTo", inPlace := ["internal/abi.NoEscape"], unfollowed := true, recurses := true, apart := false, narrowed := true }
def NetToUptoSaid : Prop := netToUptoRow.holds Try.pinned (OpenSpec.upto netToSpec)

/-- 'vidimuslaw10.NetOnce', WHERE WHAT IT READS IS OF BULK AT MOST 1048576: true; the input reads as it did. -/
def netOnceUptoRow : OpenClaim := { program := "ythdmbdbncbdmiaa", sum := "f838c59aef47123dca873e8d45c15ae2a5ccca62cfeff46dec40ce9c8c45eacb", func := "vidimus/vidimuslaw10.NetOnce", spec := "netOnce", inPlace := ["internal/abi.NoEscape"], unfollowed := true, recurses := true, apart := false, narrowed := true }
def NetOnceUptoSaid : Prop := netOnceUptoRow.holds Try.pinned (OpenSpec.upto netOnceSpec)

end Rows
end Go.Proofs.Ythdmbdbncbdmiaa
