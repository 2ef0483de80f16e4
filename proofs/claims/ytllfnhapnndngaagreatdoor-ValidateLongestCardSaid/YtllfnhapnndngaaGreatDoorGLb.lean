/- Which variables ValidateLongest names, and whether functions on its way recurse. -/
import Derived.Test.YtllfnhapnndngaaGreatDoorRows
import Derived.ProofKit
import Derived.JoinedOf
import GoSem.ClaimGoes
namespace Go.Proofs.YtllfnhapnndngaaGreatDoor
open Go
set_option maxRecDepth 1000000
theorem fLRecurses : (Rows.validateLongestRow.recurses == Tryz.pinned.checked.prog.recurses 3) = true := by kernel_rfl
theorem fLNamed : (Rows.validateLongestRow.named == Tryz.pinned.checked.prog.varsNamed 3) = true := by kernel_rfl
end Go.Proofs.YtllfnhapnndngaaGreatDoor
