/-
  No cell of these rows narrows 'for every input' (looked for: loops, veiled, ifaces, maps, wideKeys, modest, calm, conditions, laid).
  DERIVED. THE GIVEN ROWS OF THIS SEAT. 4 by the template 'for every input the law returns true; each argument reads behind the call as it read before'; 0 by the template 'total and deterministic' (their statements: YtjdbigplednihaaGreatTotals.lean).
  GIVEN WITH THE SEED: the statements are not yours to turn. If you find one false, say at which input.
  Laid BY PROGRAM, IN A SANDBOX (cutbox-rows.mjs): the forced cells as the released guide's own fill.sh prints them over the translation f167018c53f0a93b… (all of the seat's roots in one cut). By AI agents, Wed Nov 11 2026. No macro, syntax, notation, axiom, sorry.
-/
import Derived.Test.YtjdbigplednihaaGreatChecked
import GoSem.Claim
import GoSem.ClaimJoined
import GoSem.ClaimMapViews
import Derived.JoinedTies
import Derived.KernelRfl
namespace Go.Proofs.YtjdbigplednihaaGreat
/- THE CELL 'sum', in the pinned program and in every row, IS THE sha256 OF THE DUMP (.gsa) THAT YtjdbigplednihaaGreatProg.lean LOADS. Nothing in Lean hashes anything: it is a label: what it is worth is what the hold of that sum in a sandbox is worth. -/
noncomputable def Tryz.pinned : Pinned := { name := "ytjdbigplednihaagreat", sum := "f167018c53f0a93ba3c6028988e34a5527222dffdbcd3effe3d4f7a1d4c16e7e", checked := Tryz.checked }
namespace Rows
def none {H : Type} : Left H := { results := [], args := [] }

/-- 'vidimuslaw09.RaftWins': WHATEVER THE INPUT: true; the input reads as it did. -/
def raftWinsSpec : ChangeSpec := { name := "raftWins", fn := fun _ => fun
  | [d1, d2, d3] => { results := [.lit (.bool true)], args := [d1, d2, d3] }
  | _ => none }
def raftWinsRow : OpenClaim := { program := "ytjdbigplednihaagreat", sum := "f167018c53f0a93ba3c6028988e34a5527222dffdbcd3effe3d4f7a1d4c16e7e", func := "vidimus/vidimuslaw09.RaftWins", spec := "raftWins", inPlace := ["internal/abi.NoEscape"], unfollowed := true, recurses := true, apart := false }
def RaftWinsSaid : Prop := raftWinsRow.holds Tryz.pinned (OpenSpec.ofChange raftWinsSpec)

/-- ITS FALSE NEIGHBOUR: 'it returns false'. Refute it at one input. -/
def raftWinsWrong : ChangeSpec := { name := "raftWins", fn := fun _ => fun
  | [d1, d2, d3] => { results := [.lit (.bool false)], args := [d1, d2, d3] }
  | _ => none }
def RaftWinsWrongFalsely : Prop := raftWinsRow.holds Tryz.pinned (OpenSpec.ofChange raftWinsWrong)

/-- 'vidimuslaw09.RaftKeeps': WHATEVER THE INPUT: true; the input reads as it did. -/
def raftKeepsSpec : ChangeSpec := { name := "raftKeeps", fn := fun _ => fun
  | [d1, d2, d3] => { results := [.lit (.bool true)], args := [d1, d2, d3] }
  | _ => none }
def raftKeepsRow : OpenClaim := { program := "ytjdbigplednihaagreat", sum := "f167018c53f0a93ba3c6028988e34a5527222dffdbcd3effe3d4f7a1d4c16e7e", func := "vidimus/vidimuslaw09.RaftKeeps", spec := "raftKeeps", inPlace := ["internal/abi.NoEscape"], unfollowed := true, recurses := true, apart := false }
def RaftKeepsSaid : Prop := raftKeepsRow.holds Tryz.pinned (OpenSpec.ofChange raftKeepsSpec)

/-- ITS FALSE NEIGHBOUR: 'it returns false'. Refute it at one input. -/
def raftKeepsWrong : ChangeSpec := { name := "raftKeeps", fn := fun _ => fun
  | [d1, d2, d3] => { results := [.lit (.bool false)], args := [d1, d2, d3] }
  | _ => none }
def RaftKeepsWrongFalsely : Prop := raftKeepsRow.holds Tryz.pinned (OpenSpec.ofChange raftKeepsWrong)

/-- 'vidimuslaw09.RaftVotes': WHATEVER THE INPUT: true; the input reads as it did. -/
def raftVotesSpec : ChangeSpec := { name := "raftVotes", fn := fun _ => fun
  | [d1, d2, d3] => { results := [.lit (.bool true)], args := [d1, d2, d3] }
  | _ => none }
def raftVotesRow : OpenClaim := { program := "ytjdbigplednihaagreat", sum := "f167018c53f0a93ba3c6028988e34a5527222dffdbcd3effe3d4f7a1d4c16e7e", func := "vidimus/vidimuslaw09.RaftVotes", spec := "raftVotes", inPlace := ["internal/abi.NoEscape"], unfollowed := true, recurses := true, apart := false }
def RaftVotesSaid : Prop := raftVotesRow.holds Tryz.pinned (OpenSpec.ofChange raftVotesSpec)

/-- ITS FALSE NEIGHBOUR: 'it returns false'. Refute it at one input. -/
def raftVotesWrong : ChangeSpec := { name := "raftVotes", fn := fun _ => fun
  | [d1, d2, d3] => { results := [.lit (.bool false)], args := [d1, d2, d3] }
  | _ => none }
def RaftVotesWrongFalsely : Prop := raftVotesRow.holds Tryz.pinned (OpenSpec.ofChange raftVotesWrong)

/-- 'vidimuslaw09.RaftRuns': WHATEVER THE INPUT: true; the input reads as it did. -/
def raftRunsSpec : ChangeSpec := { name := "raftRuns", fn := fun _ => fun
  | [d1, d2, d3] => { results := [.lit (.bool true)], args := [d1, d2, d3] }
  | _ => none }
def raftRunsRow : OpenClaim := { program := "ytjdbigplednihaagreat", sum := "f167018c53f0a93ba3c6028988e34a5527222dffdbcd3effe3d4f7a1d4c16e7e", func := "vidimus/vidimuslaw09.RaftRuns", spec := "raftRuns", inPlace := ["internal/abi.NoEscape"], unfollowed := true, recurses := true, apart := false }
def RaftRunsSaid : Prop := raftRunsRow.holds Tryz.pinned (OpenSpec.ofChange raftRunsSpec)

/-- ITS FALSE NEIGHBOUR: 'it returns false'. Refute it at one input. -/
def raftRunsWrong : ChangeSpec := { name := "raftRuns", fn := fun _ => fun
  | [d1, d2, d3] => { results := [.lit (.bool false)], args := [d1, d2, d3] }
  | _ => none }
def RaftRunsWrongFalsely : Prop := raftRunsRow.holds Tryz.pinned (OpenSpec.ofChange raftRunsWrong)

/- THE SECOND FORM. 'bulk': how many values and letters a reading holds, each counted each time it is reached (what is shared counts as often as it is met; a slice's spare places count too). A statement '..UptoSaid' is the law's where the arguments, and the package variables that the reading takes, are together of bulk at most 1048576: NARROWER than '..Said'. Prove '..Said' where nothing that the law and all that it calls make is longer than what came in: it says more and counts as full. Else prove '..UptoSaid'. A law counts once. -/
mutual
def uptoBulk {H : Type} : DataW H → Nat
  | .lit (.string bytes) => bytes.length + 1
  | .lit _ => 1
  | .nil => 1
  | .ptr d => uptoBulk d + 1
  | .slice elems spare => uptoBulkAll elems + uptoBulkAll spare + 1
  | .agg parts => uptoBulkAll parts + 1
  | .iface _ d => uptoBulk d + 1
  | .map entries => uptoBulkEntries entries + 1
  | .held _ => 1
def uptoBulkAll {H : Type} : List (DataW H) → Nat
  | [] => 0
  | d :: r => uptoBulk d + uptoBulkAll r
def uptoBulkEntries {H : Type} : List (Lit × DataW H) → Nat
  | [] => 0
  | x :: r => uptoBulkEntry x + uptoBulkEntries r
def uptoBulkEntry {H : Type} : Lit × DataW H → Nat
  | (.string bytes, d) => bytes.length + uptoBulk d + 1
  | (_, d) => uptoBulk d + 1
 end
def uptoSmall : (H : Type) → List (DataW H) → Bool := fun _ ds => decide (uptoBulkAll ds ≤ 1048576)
def OpenSpec.upto (s : _root_.Go.ChangeSpec) : _root_.Go.OpenSpec := { _root_.Go.OpenSpec.ofChange s with cond := some uptoSmall }

/-- 'vidimuslaw09.RaftWins', WHERE WHAT IT READS IS OF BULK AT MOST 1048576: true; the input reads as it did. -/
def raftWinsUptoRow : OpenClaim := { program := "ytjdbigplednihaagreat", sum := "f167018c53f0a93ba3c6028988e34a5527222dffdbcd3effe3d4f7a1d4c16e7e", func := "vidimus/vidimuslaw09.RaftWins", spec := "raftWins", inPlace := ["internal/abi.NoEscape"], unfollowed := true, recurses := true, apart := false, narrowed := true }
def RaftWinsUptoSaid : Prop := raftWinsUptoRow.holds Tryz.pinned (OpenSpec.upto raftWinsSpec)

/-- 'vidimuslaw09.RaftKeeps', WHERE WHAT IT READS IS OF BULK AT MOST 1048576: true; the input reads as it did. -/
def raftKeepsUptoRow : OpenClaim := { program := "ytjdbigplednihaagreat", sum := "f167018c53f0a93ba3c6028988e34a5527222dffdbcd3effe3d4f7a1d4c16e7e", func := "vidimus/vidimuslaw09.RaftKeeps", spec := "raftKeeps", inPlace := ["internal/abi.NoEscape"], unfollowed := true, recurses := true, apart := false, narrowed := true }
def RaftKeepsUptoSaid : Prop := raftKeepsUptoRow.holds Tryz.pinned (OpenSpec.upto raftKeepsSpec)

/-- 'vidimuslaw09.RaftVotes', WHERE WHAT IT READS IS OF BULK AT MOST 1048576: true; the input reads as it did. -/
def raftVotesUptoRow : OpenClaim := { program := "ytjdbigplednihaagreat", sum := "f167018c53f0a93ba3c6028988e34a5527222dffdbcd3effe3d4f7a1d4c16e7e", func := "vidimus/vidimuslaw09.RaftVotes", spec := "raftVotes", inPlace := ["internal/abi.NoEscape"], unfollowed := true, recurses := true, apart := false, narrowed := true }
def RaftVotesUptoSaid : Prop := raftVotesUptoRow.holds Tryz.pinned (OpenSpec.upto raftVotesSpec)

/-- 'vidimuslaw09.RaftRuns', WHERE WHAT IT READS IS OF BULK AT MOST 1048576: true; the input reads as it did. -/
def raftRunsUptoRow : OpenClaim := { program := "ytjdbigplednihaagreat", sum := "f167018c53f0a93ba3c6028988e34a5527222dffdbcd3effe3d4f7a1d4c16e7e", func := "vidimus/vidimuslaw09.RaftRuns", spec := "raftRuns", inPlace := ["internal/abi.NoEscape"], unfollowed := true, recurses := true, apart := false, narrowed := true }
def RaftRunsUptoSaid : Prop := raftRunsUptoRow.holds Tryz.pinned (OpenSpec.upto raftRunsSpec)

end Rows
end Go.Proofs.YtjdbigplednihaaGreat
