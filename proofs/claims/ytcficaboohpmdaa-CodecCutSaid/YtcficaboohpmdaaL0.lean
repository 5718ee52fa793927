/- What each law's row needs of the seat. -/
import Derived.Test.YtcficaboohpmdaaRows
import Derived.Test.YtcficaboohpmdaaR0
import Derived.WalkKit
import Derived.ProofKit
import Derived.OpenShut
import Derived.ShutString
import Derived.ChangeOld
import Derived.Below
namespace Go.Proofs.Ytcficaboohpmdaa
theorem own : ownKnob Try.prog.godebug = none := by kernel_rfl
theorem laidOut : laidOutB Try.prog = true := by kernel_rfl
end Go.Proofs.Ytcficaboohpmdaa
