/- Which variables the call names. -/
import Derived.Test.YtapinochbblfbaaGreatDoorRows
import Derived.ProofKit
import Derived.JoinedOf
import GoSem.ClaimGoes
namespace Go.Proofs.YtapinochbblfbaaGreatDoor
open Go
set_option maxRecDepth 1000000
theorem fNamed : (Rows.validateErrorsRow.named == Tryz.pinned.checked.prog.varsNamed 3) = true := by kernel_rfl
end Go.Proofs.YtapinochbblfbaaGreatDoor
