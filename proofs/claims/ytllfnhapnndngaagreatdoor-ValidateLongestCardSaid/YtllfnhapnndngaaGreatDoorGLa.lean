/- Which library functions ValidateLongest is said to come to, and whether by values. -/
import Derived.Test.YtllfnhapnndngaaGreatDoorRows
import Derived.ProofKit
import Derived.JoinedOf
import GoSem.ClaimGoes
namespace Go.Proofs.YtllfnhapnndngaaGreatDoor
open Go
set_option maxRecDepth 1000000
theorem fLInPlace : (Rows.validateLongestRow.inPlace == Tryz.pinned.checked.prog.inPlace 3) = true := by kernel_rfl
theorem fLUnfollowed : (Rows.validateLongestRow.unfollowed == Tryz.pinned.checked.prog.unfollowed 3) = true := by kernel_rfl
end Go.Proofs.YtllfnhapnndngaaGreatDoor
