/- ValidateLongest: the cases, part 5. -/
import Derived.Test.YtllfnhapnndngaaGreatDoorLL0
namespace Go.Proofs.YtllfnhapnndngaaGreatDoor.E
open Go Go.Proofs
set_option maxRecDepth 1000000
theorem csL_5_3_3 (x0 x1 x2 : Int) : outL (cvL restL ((srL2 5 3 x0 x1 x2).set 7 (.int .i64 3)) (shL2 5 3 x0 x1 x2)) = true := by kernel_rfl
theorem csL_5_3_4 (x0 x1 x2 : Int) : outL (cvL restL ((srL2 5 3 x0 x1 x2).set 7 (.int .i64 4)) (shL2 5 3 x0 x1 x2)) = true := by kernel_rfl
end Go.Proofs.YtllfnhapnndngaaGreatDoor.E
