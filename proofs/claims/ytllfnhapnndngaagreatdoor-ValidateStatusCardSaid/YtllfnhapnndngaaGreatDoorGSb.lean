/- Which variables ValidateStatus names, and whether functions on its way recurse. -/
import Derived.Test.YtllfnhapnndngaaGreatDoorRows
import Derived.ProofKit
import Derived.JoinedOf
import GoSem.ClaimGoes
namespace Go.Proofs.YtllfnhapnndngaaGreatDoor
open Go
set_option maxRecDepth 1000000
theorem fSRecurses : (Rows.validateStatusRow.recurses == Tryz.pinned.checked.prog.recurses 4) = true := by kernel_rfl
theorem fSNamed : (Rows.validateStatusRow.named == Tryz.pinned.checked.prog.varsNamed 4) = true := by kernel_rfl
end Go.Proofs.YtllfnhapnndngaaGreatDoor
