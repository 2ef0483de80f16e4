/- Which variables ValidateNames names, and whether functions on its way recurse. -/
import Derived.Test.YtllfnhapnndngaaGreatDoorRows
import Derived.ProofKit
import Derived.JoinedOf
import GoSem.ClaimGoes
namespace Go.Proofs.YtllfnhapnndngaaGreatDoor
open Go
set_option maxRecDepth 1000000
theorem fNRecurses : (Rows.validateNamesRow.recurses == Tryz.pinned.checked.prog.recurses 5) = true := by kernel_rfl
theorem fNNamed : (Rows.validateNamesRow.named == Tryz.pinned.checked.prog.varsNamed 5) = true := by kernel_rfl
end Go.Proofs.YtllfnhapnndngaaGreatDoor
