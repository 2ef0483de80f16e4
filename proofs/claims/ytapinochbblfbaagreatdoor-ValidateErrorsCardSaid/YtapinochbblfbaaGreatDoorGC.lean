/- That the call comes to functions by values. -/
import Derived.Test.YtapinochbblfbaaGreatDoorRows
import Derived.ProofKit
import Derived.JoinedOf
import GoSem.ClaimGoes
namespace Go.Proofs.YtapinochbblfbaaGreatDoor
open Go
set_option maxRecDepth 1000000
theorem fUnfollowed : (Rows.validateErrorsRow.unfollowed == Tryz.pinned.checked.prog.unfollowed 3) = true := by kernel_rfl
end Go.Proofs.YtapinochbblfbaaGreatDoor
