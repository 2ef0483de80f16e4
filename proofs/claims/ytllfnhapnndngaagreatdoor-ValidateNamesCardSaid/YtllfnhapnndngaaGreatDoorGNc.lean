/- The closed facts of the row of ValidateNames, joined. -/
import Derived.Test.YtllfnhapnndngaaGreatDoorRows
import Derived.ProofKit
import Derived.JoinedOf
import GoSem.ClaimGoes
import Derived.Test.YtllfnhapnndngaaGreatDoorGNa
import Derived.Test.YtllfnhapnndngaaGreatDoorGNb
namespace Go.Proofs.YtllfnhapnndngaaGreatDoor
open Go
set_option maxRecDepth 1000000
theorem fNJoined : joinedFacts Tryz.pinned.checked.prog 5 Tryz.f5 Rows.validateNamesSpec Rows.validateNamesRow = true := by
  unfold joinedFacts
  rw [fNInPlace, fNUnfollowed, fNRecurses, fNNamed]
  kernel_rfl
end Go.Proofs.YtllfnhapnndngaaGreatDoor
