/- That functions among those that it comes to recurse. -/
import Derived.Test.YtapinochbblfbaaGreatDoorRows
import Derived.ProofKit
import Derived.JoinedOf
import GoSem.ClaimGoes
namespace Go.Proofs.YtapinochbblfbaaGreatDoor
open Go
set_option maxRecDepth 1000000
theorem fRecurses : (Rows.validateErrorsRow.recurses == Tryz.pinned.checked.prog.recurses 3) = true := by kernel_rfl
end Go.Proofs.YtapinochbblfbaaGreatDoor
