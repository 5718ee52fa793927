/-
  No cell of these rows narrows 'for every input' (looked for: loops, veiled, ifaces, maps, wideKeys, modest, calm, conditions, laid).
  DERIVED. THE GIVEN ROWS OF THIS SEAT. 7 by the template 'for every input the law returns true; each argument reads behind the call as it read before'; 0 by the template 'total and deterministic' (their statements: YtghgifgmacapcaaTotals.lean).
  GIVEN WITH THE SEED: the statements are not yours to turn. If you find one false, say at which input.
  Laid BY PROGRAM, IN A SANDBOX (cutbox-rows.mjs): the forced cells as the released guide's own fill.sh prints them over the translation 8bac7c998631ec48… (all of the seat's roots in one cut). By AI agents, Wed Nov 11 2026. No macro, syntax, notation, axiom, sorry.
-/
import Derived.Test.YtghgifgmacapcaaChecked
import GoSem.Claim
import GoSem.ClaimJoined
import GoSem.ClaimMapViews
import Derived.JoinedTies
import Derived.KernelRfl
namespace Go.Proofs.Ytghgifgmacapcaa
/- THE CELL 'sum', in the pinned program and in every row, IS THE sha256 OF THE DUMP (.gsa) THAT YtghgifgmacapcaaProg.lean LOADS. Nothing in Lean hashes anything: it is a label: what it is worth is what the hold of that sum in a sandbox is worth. -/
noncomputable def Try.pinned : Pinned := { name := "ytghgifgmacapcaa", sum := "8bac7c998631ec483b946dbb23ff17387a141406d29ba324b62c32f287e60261", checked := Try.checked }
namespace Rows
def none {H : Type} : Left H := { results := [], args := [] }

/-- 'vidimuslaw18.EvalKinds': WHATEVER THE INPUT: true; the input reads as it did. -/
def evalKindsSpec : ChangeSpec := { name := "evalKinds", fn := fun _ => fun
  | [d1, d2, d3] => { results := [.lit (.bool true)], args := [d1, d2, d3] }
  | _ => none }
def evalKindsRow : OpenClaim := { program := "ytghgifgmacapcaa", sum := "8bac7c998631ec483b946dbb23ff17387a141406d29ba324b62c32f287e60261", func := "vidimus/vidimuslaw18.EvalKinds", spec := "evalKinds", inPlace := ["internal/bytealg.abigen_runtime_cmpstring"], unfollowed := true, recurses := true, apart := false }
def EvalKindsSaid : Prop := evalKindsRow.holds Try.pinned (OpenSpec.ofChange evalKindsSpec)

/-- ITS FALSE NEIGHBOUR: 'it returns false'. Refute it at one input. -/
def evalKindsWrong : ChangeSpec := { name := "evalKinds", fn := fun _ => fun
  | [d1, d2, d3] => { results := [.lit (.bool false)], args := [d1, d2, d3] }
  | _ => none }
def EvalKindsWrongFalsely : Prop := evalKindsRow.holds Try.pinned (OpenSpec.ofChange evalKindsWrong)

/-- 'vidimuslaw18.EvalRows': WHATEVER THE INPUT: true; the input reads as it did. -/
def evalRowsSpec : ChangeSpec := { name := "evalRows", fn := fun _ => fun
  | [d1, d2, d3] => { results := [.lit (.bool true)], args := [d1, d2, d3] }
  | _ => none }
def evalRowsRow : OpenClaim := { program := "ytghgifgmacapcaa", sum := "8bac7c998631ec483b946dbb23ff17387a141406d29ba324b62c32f287e60261", func := "vidimus/vidimuslaw18.EvalRows", spec := "evalRows", inPlace := ["internal/bytealg.abigen_runtime_cmpstring"], unfollowed := true, recurses := true, apart := false }
def EvalRowsSaid : Prop := evalRowsRow.holds Try.pinned (OpenSpec.ofChange evalRowsSpec)

/-- ITS FALSE NEIGHBOUR: 'it returns false'. Refute it at one input. -/
def evalRowsWrong : ChangeSpec := { name := "evalRows", fn := fun _ => fun
  | [d1, d2, d3] => { results := [.lit (.bool false)], args := [d1, d2, d3] }
  | _ => none }
def EvalRowsWrongFalsely : Prop := evalRowsRow.holds Try.pinned (OpenSpec.ofChange evalRowsWrong)

/-- 'vidimuslaw18.EvalGroups': WHATEVER THE INPUT: true; the input reads as it did. -/
def evalGroupsSpec : ChangeSpec := { name := "evalGroups", fn := fun _ => fun
  | [d1, d2, d3] => { results := [.lit (.bool true)], args := [d1, d2, d3] }
  | _ => none }
def evalGroupsRow : OpenClaim := { program := "ytghgifgmacapcaa", sum := "8bac7c998631ec483b946dbb23ff17387a141406d29ba324b62c32f287e60261", func := "vidimus/vidimuslaw18.EvalGroups", spec := "evalGroups", inPlace := ["internal/bytealg.abigen_runtime_cmpstring"], unfollowed := true, recurses := true, apart := false }
def EvalGroupsSaid : Prop := evalGroupsRow.holds Try.pinned (OpenSpec.ofChange evalGroupsSpec)

/-- ITS FALSE NEIGHBOUR: 'it returns false'. Refute it at one input. -/
def evalGroupsWrong : ChangeSpec := { name := "evalGroups", fn := fun _ => fun
  | [d1, d2, d3] => { results := [.lit (.bool false)], args := [d1, d2, d3] }
  | _ => none }
def EvalGroupsWrongFalsely : Prop := evalGroupsRow.holds Try.pinned (OpenSpec.ofChange evalGroupsWrong)

/-- 'vidimuslaw18.EvalOrder': WHATEVER THE INPUT: true; the input reads as it did. -/
def evalOrderSpec : ChangeSpec := { name := "evalOrder", fn := fun _ => fun
  | [d] => { results := [.lit (.bool true)], args := [d] }
  | _ => none }
def evalOrderRow : OpenClaim := { program := "ytghgifgmacapcaa", sum := "8bac7c998631ec483b946dbb23ff17387a141406d29ba324b62c32f287e60261", func := "vidimus/vidimuslaw18.EvalOrder", spec := "evalOrder", inPlace := ["internal/bytealg.abigen_runtime_cmpstring"], unfollowed := true, recurses := true, apart := false }
def EvalOrderSaid : Prop := evalOrderRow.holds Try.pinned (OpenSpec.ofChange evalOrderSpec)

/-- ITS FALSE NEIGHBOUR: 'it returns false'. Refute it at one input. -/
def evalOrderWrong : ChangeSpec := { name := "evalOrder", fn := fun _ => fun
  | [d] => { results := [.lit (.bool false)], args := [d] }
  | _ => none }
def EvalOrderWrongFalsely : Prop := evalOrderRow.holds Try.pinned (OpenSpec.ofChange evalOrderWrong)

/-- 'vidimuslaw18.EvalLogic': WHATEVER THE INPUT: true; the input reads as it did. -/
def evalLogicSpec : ChangeSpec := { name := "evalLogic", fn := fun _ => fun
  | [d] => { results := [.lit (.bool true)], args := [d] }
  | _ => none }
def evalLogicRow : OpenClaim := { program := "ytghgifgmacapcaa", sum := "8bac7c998631ec483b946dbb23ff17387a141406d29ba324b62c32f287e60261", func := "vidimus/vidimuslaw18.EvalLogic", spec := "evalLogic", inPlace := ["internal/bytealg.abigen_runtime_cmpstring"], unfollowed := true, recurses := true, apart := false }
def EvalLogicSaid : Prop := evalLogicRow.holds Try.pinned (OpenSpec.ofChange evalLogicSpec)

/-- ITS FALSE NEIGHBOUR: 'it returns false'. Refute it at one input. -/
def evalLogicWrong : ChangeSpec := { name := "evalLogic", fn := fun _ => fun
  | [d] => { results := [.lit (.bool false)], args := [d] }
  | _ => none }
def EvalLogicWrongFalsely : Prop := evalLogicRow.holds Try.pinned (OpenSpec.ofChange evalLogicWrong)

/-- 'vidimuslaw18.EvalReckons': WHATEVER THE INPUT: true; the input reads as it did. -/
def evalReckonsSpec : ChangeSpec := { name := "evalReckons", fn := fun _ => fun
  | [d1, d2] => { results := [.lit (.bool true)], args := [d1, d2] }
  | _ => none }
def evalReckonsRow : OpenClaim := { program := "ytghgifgmacapcaa", sum := "8bac7c998631ec483b946dbb23ff17387a141406d29ba324b62c32f287e60261", func := "vidimus/vidimuslaw18.EvalReckons", spec := "evalReckons", inPlace := ["internal/bytealg.abigen_runtime_cmpstring"], unfollowed := true, recurses := true, apart := false }
def EvalReckonsSaid : Prop := evalReckonsRow.holds Try.pinned (OpenSpec.ofChange evalReckonsSpec)

/-- ITS FALSE NEIGHBOUR: 'it returns false'. Refute it at one input. -/
def evalReckonsWrong : ChangeSpec := { name := "evalReckons", fn := fun _ => fun
  | [d1, d2] => { results := [.lit (.bool false)], args := [d1, d2] }
  | _ => none }
def EvalReckonsWrongFalsely : Prop := evalReckonsRow.holds Try.pinned (OpenSpec.ofChange evalReckonsWrong)

/-- 'vidimuslaw18.EvalGroupsApart': WHATEVER THE INPUT: true; the input reads as it did. -/
def evalGroupsApartSpec : ChangeSpec := { name := "evalGroupsApart", fn := fun _ => fun
  | [d1, d2] => { results := [.lit (.bool true)], args := [d1, d2] }
  | _ => none }
def evalGroupsApartRow : OpenClaim := { program := "ytghgifgmacapcaa", sum := "8bac7c998631ec483b946dbb23ff17387a141406d29ba324b62c32f287e60261", func := "vidimus/vidimuslaw18.EvalGroupsApart", spec := "evalGroupsApart", inPlace := ["internal/bytealg.abigen_runtime_cmpstring"], unfollowed := true, recurses := true, apart := false }
def EvalGroupsApartSaid : Prop := evalGroupsApartRow.holds Try.pinned (OpenSpec.ofChange evalGroupsApartSpec)

/-- ITS FALSE NEIGHBOUR: 'it returns false'. Refute it at one input. -/
def evalGroupsApartWrong : ChangeSpec := { name := "evalGroupsApart", fn := fun _ => fun
  | [d1, d2] => { results := [.lit (.bool false)], args := [d1, d2] }
  | _ => none }
def EvalGroupsApartWrongFalsely : Prop := evalGroupsApartRow.holds Try.pinned (OpenSpec.ofChange evalGroupsApartWrong)

/- THE SECOND FORM. 'bulk': how many values and letters a reading holds, each counted each time it is reached (what is shared counts as often as it is met; a slice's spare places count too). A statement '..UptoSaid' is the law's where the arguments, and the package variables that the reading takes, are together of bulk at most 1048576: NARROWER than '..Said'. Prove '..Said' where nothing that the law and all that it calls make is longer than what came in: it says more and counts as full. Else prove '..UptoSaid'. A law counts once. -/
mutual
def uptoBulk {H : Type} : DataW H → Nat
  | .lit (.string bytes) => bytes.length + 1
  | .lit _ => 1
  | .nil => 1
  | .ptr d => uptoBulk d + 1
  | .slice elems spare => uptoBulkAll elems + uptoBulkAll spare + 1
  | .agg parts => uptoBulkAll parts + 1
  | .iface _ d => uptoBulk d + 1
  | .map entries => uptoBulkEntries entries + 1
  | .held _ => 1
def uptoBulkAll {H : Type} : List (DataW H) → Nat
  | [] => 0
  | d :: r => uptoBulk d + uptoBulkAll r
def uptoBulkEntries {H : Type} : List (Lit × DataW H) → Nat
  | [] => 0
  | x :: r => uptoBulkEntry x + uptoBulkEntries r
def uptoBulkEntry {H : Type} : Lit × DataW H → Nat
  | (.string bytes, d) => bytes.length + uptoBulk d + 1
  | (_, d) => uptoBulk d + 1
 end
def uptoSmall : (H : Type) → List (DataW H) → Bool := fun _ ds => decide (uptoBulkAll ds ≤ 1048576)
def OpenSpec.upto (s : _root_.Go.ChangeSpec) : _root_.Go.OpenSpec := { _root_.Go.OpenSpec.ofChange s with cond := some uptoSmall }

/-- 'vidimuslaw18.EvalKinds', WHERE WHAT IT READS IS OF BULK AT MOST 1048576: true; the input reads as it did. -/
def evalKindsUptoRow : OpenClaim := { program := "ytghgifgmacapcaa", sum := "8bac7c998631ec483b946dbb23ff17387a141406d29ba324b62c32f287e60261", func := "vidimus/vidimuslaw18.EvalKinds", spec := "evalKinds", inPlace := ["internal/bytealg.abigen_runtime_cmpstring"], unfollowed := true, recurses := true, apart := false, narrowed := true }
def EvalKindsUptoSaid : Prop := evalKindsUptoRow.holds Try.pinned (OpenSpec.upto evalKindsSpec)

/-- 'vidimuslaw18.EvalRows', WHERE WHAT IT READS IS OF BULK AT MOST 1048576: true; the input reads as it did. -/
def evalRowsUptoRow : OpenClaim := { program := "ytghgifgmacapcaa", sum := "8bac7c998631ec483b946dbb23ff17387a141406d29ba324b62c32f287e60261", func := "vidimus/vidimuslaw18.EvalRows", spec := "evalRows", inPlace := ["internal/bytealg.abigen_runtime_cmpstring"], unfollowed := true, recurses := true, apart := false, narrowed := true }
def EvalRowsUptoSaid : Prop := evalRowsUptoRow.holds Try.pinned (OpenSpec.upto evalRowsSpec)

/-- 'vidimuslaw18.EvalGroups', WHERE WHAT IT READS IS OF BULK AT MOST 1048576: true; the input reads as it did. -/
def evalGroupsUptoRow : OpenClaim := { program := "ytghgifgmacapcaa", sum := "8bac7c998631ec483b946dbb23ff17387a141406d29ba324b62c32f287e60261", func := "vidimus/vidimuslaw18.EvalGroups", spec := "evalGroups", inPlace := ["internal/bytealg.abigen_runtime_cmpstring"], unfollowed := true, recurses := true, apart := false, narrowed := true }
def EvalGroupsUptoSaid : Prop := evalGroupsUptoRow.holds Try.pinned (OpenSpec.upto evalGroupsSpec)

/-- 'vidimuslaw18.EvalOrder', WHERE WHAT IT READS IS OF BULK AT MOST 1048576: true; the input reads as it did. -/
def evalOrderUptoRow : OpenClaim := { program := "ytghgifgmacapcaa", sum := "8bac7c998631ec483b946dbb23ff17387a141406d29ba324b62c32f287e60261", func := "vidimus/vidimuslaw18.EvalOrder", spec := "evalOrder", inPlace := ["internal/bytealg.abigen_runtime_cmpstring"], unfollowed := true, recurses := true, apart := false, narrowed := true }
def EvalOrderUptoSaid : Prop := evalOrderUptoRow.holds Try.pinned (OpenSpec.upto evalOrderSpec)

/-- 'vidimuslaw18.EvalLogic', WHERE WHAT IT READS IS OF BULK AT MOST 1048576: true; the input reads as it did. -/
def evalLogicUptoRow : OpenClaim := { program := "ytghgifgmacapcaa", sum := "8bac7c998631ec483b946dbb23ff17387a141406d29ba324b62c32f287e60261", func := "vidimus/vidimuslaw18.EvalLogic", spec := "evalLogic", inPlace := ["internal/bytealg.abigen_runtime_cmpstring"], unfollowed := true, recurses := true, apart := false, narrowed := true }
def EvalLogicUptoSaid : Prop := evalLogicUptoRow.holds Try.pinned (OpenSpec.upto evalLogicSpec)

/-- 'vidimuslaw18.EvalReckons', WHERE WHAT IT READS IS OF BULK AT MOST 1048576: true; the input reads as it did. -/
def evalReckonsUptoRow : OpenClaim := { program := "ytghgifgmacapcaa", sum := "8bac7c998631ec483b946dbb23ff17387a141406d29ba324b62c32f287e60261", func := "vidimus/vidimuslaw18.EvalReckons", spec := "evalReckons", inPlace := ["internal/bytealg.abigen_runtime_cmpstring"], unfollowed := true, recurses := true, apart := false, narrowed := true }
def EvalReckonsUptoSaid : Prop := evalReckonsUptoRow.holds Try.pinned (OpenSpec.upto evalReckonsSpec)

/-- 'vidimuslaw18.EvalGroupsApart', WHERE WHAT IT READS IS OF BULK AT MOST 1048576: true; the input reads as it did. -/
def evalGroupsApartUptoRow : OpenClaim := { program := "ytghgifgmacapcaa", sum := "8bac7c998631ec483b946dbb23ff17387a141406d29ba324b62c32f287e60261", func := "vidimus/vidimuslaw18.EvalGroupsApart", spec := "evalGroupsApart", inPlace := ["internal/bytealg.abigen_runtime_cmpstring"], unfollowed := true, recurses := true, apart := false, narrowed := true }
def EvalGroupsApartUptoSaid : Prop := evalGroupsApartUptoRow.holds Try.pinned (OpenSpec.upto evalGroupsApartSpec)

end Rows
end Go.Proofs.Ytghgifgmacapcaa
