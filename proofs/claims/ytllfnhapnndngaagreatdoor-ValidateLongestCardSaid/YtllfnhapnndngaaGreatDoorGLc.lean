/- The closed facts of the row of ValidateLongest, joined. -/
import Derived.Test.YtllfnhapnndngaaGreatDoorRows
import Derived.ProofKit
import Derived.JoinedOf
import GoSem.ClaimGoes
import Derived.Test.YtllfnhapnndngaaGreatDoorGLa
import Derived.Test.YtllfnhapnndngaaGreatDoorGLb
namespace Go.Proofs.YtllfnhapnndngaaGreatDoor
open Go
set_option maxRecDepth 1000000
theorem fLJoined : joinedFacts Tryz.pinned.checked.prog 3 Tryz.f3 Rows.validateLongestSpec Rows.validateLongestRow = true := by
  unfold joinedFacts
  rw [fLInPlace, fLUnfollowed, fLRecurses, fLNamed]
  kernel_rfl
end Go.Proofs.YtllfnhapnndngaaGreatDoor
