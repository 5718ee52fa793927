/- What each law's row needs of the seat. -/
import Derived.Test.YtcgjlhhfldkdaaaRows
import Derived.Test.YtcgjlhhfldkdaaaR0
import Derived.WalkKit
import Derived.ProofKit
import Derived.OpenShut
import Derived.ShutString
import Derived.ChangeOld
import Derived.Below
namespace Go.Proofs.Ytcgjlhhfldkdaaa
theorem own : ownKnob Try.prog.godebug = none := by kernel_rfl
theorem laidOut : laidOutB Try.prog = true := by kernel_rfl
end Go.Proofs.Ytcgjlhhfldkdaaa
