/- What each law's row needs of the seat. -/
import Derived.Test.YtghgifgmacapcaaRows
import Derived.Test.YtghgifgmacapcaaR0
import Derived.WalkKit
import Derived.ProofKit
import Derived.OpenShut
import Derived.ShutString
import Derived.ChangeOld
import Derived.Below
namespace Go.Proofs.Ytghgifgmacapcaa
theorem own : ownKnob Try.prog.godebug = none := by kernel_rfl
theorem laidOut : laidOutB Try.prog = true := by kernel_rfl
end Go.Proofs.Ytghgifgmacapcaa
