/- Which library functions the call is said to come to. -/
import Derived.Test.YtapinochbblfbaaGreatDoorRows
import Derived.ProofKit
import Derived.JoinedOf
import GoSem.ClaimGoes
namespace Go.Proofs.YtapinochbblfbaaGreatDoor
open Go
set_option maxRecDepth 1000000
theorem fInPlace : (Rows.validateErrorsRow.inPlace == Tryz.pinned.checked.prog.inPlace 3) = true := by kernel_rfl
end Go.Proofs.YtapinochbblfbaaGreatDoor
