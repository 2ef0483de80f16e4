/- No function of the program starts a goroutine. -/
import Derived.Test.YtllfnhapnndngaaGreatDoorRows
import Derived.ProofKit
import Derived.JoinedOf
import GoSem.ClaimGoes
namespace Go.Proofs.YtllfnhapnndngaaGreatDoor
open Go
set_option maxRecDepth 1000000
theorem fGoes : Tryz.pinned.checked.prog.funcs.any Func.goes = false := by kernel_rfl
end Go.Proofs.YtllfnhapnndngaaGreatDoor
