/- Which library functions ValidateNames is said to come to, and whether by values. -/
import Derived.Test.YtllfnhapnndngaaGreatDoorRows
import Derived.ProofKit
import Derived.JoinedOf
import GoSem.ClaimGoes
namespace Go.Proofs.YtllfnhapnndngaaGreatDoor
open Go
set_option maxRecDepth 1000000
theorem fNInPlace : (Rows.validateNamesRow.inPlace == Tryz.pinned.checked.prog.inPlace 5) = true := by kernel_rfl
theorem fNUnfollowed : (Rows.validateNamesRow.unfollowed == Tryz.pinned.checked.prog.unfollowed 5) = true := by kernel_rfl
end Go.Proofs.YtllfnhapnndngaaGreatDoor
