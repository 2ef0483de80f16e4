/- The closed facts of the row of ValidateStatus, joined. -/
import Derived.Test.YtllfnhapnndngaaGreatDoorRows
import Derived.ProofKit
import Derived.JoinedOf
import GoSem.ClaimGoes
import Derived.Test.YtllfnhapnndngaaGreatDoorGSa
import Derived.Test.YtllfnhapnndngaaGreatDoorGSb
namespace Go.Proofs.YtllfnhapnndngaaGreatDoor
open Go
set_option maxRecDepth 1000000
theorem fSJoined : joinedFacts Tryz.pinned.checked.prog 4 Tryz.f4 Rows.validateStatusSpec Rows.validateStatusRow = true := by
  unfold joinedFacts
  rw [fSInPlace, fSUnfollowed, fSRecurses, fSNamed]
  kernel_rfl
end Go.Proofs.YtllfnhapnndngaaGreatDoor
