/- The row's closed facts, joined. -/
import Derived.Test.YtapinochbblfbaaGreatDoorRows
import Derived.ProofKit
import Derived.JoinedOf
import Derived.Test.YtapinochbblfbaaGreatDoorGB
import Derived.Test.YtapinochbblfbaaGreatDoorGC
import Derived.Test.YtapinochbblfbaaGreatDoorGD
import Derived.Test.YtapinochbblfbaaGreatDoorGE
import GoSem.ClaimGoes
namespace Go.Proofs.YtapinochbblfbaaGreatDoor
open Go
set_option maxRecDepth 1000000
theorem fJoined : joinedFacts Tryz.pinned.checked.prog 3 Tryz.f3 Rows.validateErrorsSpec Rows.validateErrorsRow = true := by
  unfold joinedFacts
  rw [fInPlace, fUnfollowed, fRecurses, fNamed]
  kernel_rfl
end Go.Proofs.YtapinochbblfbaaGreatDoor
