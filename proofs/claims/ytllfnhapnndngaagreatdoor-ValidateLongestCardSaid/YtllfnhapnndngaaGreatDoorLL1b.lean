/- ValidateLongest: the cases, part 1. -/
import Derived.Test.YtllfnhapnndngaaGreatDoorLL0
namespace Go.Proofs.YtllfnhapnndngaaGreatDoor.E
open Go Go.Proofs
set_option maxRecDepth 1000000
theorem csL_3_1_3 (x0 x1 x2 : Int) : outL (cvL restL ((srL2 3 1 x0 x1 x2).set 7 (.int .i64 3)) (shL2 3 1 x0 x1 x2)) = true := by kernel_rfl
theorem csL_3_1_4 (x0 x1 x2 : Int) : outL (cvL restL ((srL2 3 1 x0 x1 x2).set 7 (.int .i64 4)) (shL2 3 1 x0 x1 x2)) = true := by kernel_rfl
theorem csL_4_0_0 (x0 x1 x2 : Int) : outL (cvL restL ((srL2 4 0 x0 x1 x2).set 7 (.int .i64 0)) (shL2 4 0 x0 x1 x2)) = true := by kernel_rfl
theorem csL_4_0_1 (x0 x1 x2 : Int) : outL (cvL restL ((srL2 4 0 x0 x1 x2).set 7 (.int .i64 1)) (shL2 4 0 x0 x1 x2)) = true := by kernel_rfl
theorem csL_4_0_2 (x0 x1 x2 : Int) : outL (cvL restL ((srL2 4 0 x0 x1 x2).set 7 (.int .i64 2)) (shL2 4 0 x0 x1 x2)) = true := by kernel_rfl
theorem csL_4_0_3 (x0 x1 x2 : Int) : outL (cvL restL ((srL2 4 0 x0 x1 x2).set 7 (.int .i64 3)) (shL2 4 0 x0 x1 x2)) = true := by kernel_rfl
theorem csL_4_0_4 (x0 x1 x2 : Int) : outL (cvL restL ((srL2 4 0 x0 x1 x2).set 7 (.int .i64 4)) (shL2 4 0 x0 x1 x2)) = true := by kernel_rfl
theorem csL_4_1_0 (x0 x1 x2 : Int) : outL (cvL restL ((srL2 4 1 x0 x1 x2).set 7 (.int .i64 0)) (shL2 4 1 x0 x1 x2)) = true := by kernel_rfl
theorem csL_4_1_1 (x0 x1 x2 : Int) : outL (cvL restL ((srL2 4 1 x0 x1 x2).set 7 (.int .i64 1)) (shL2 4 1 x0 x1 x2)) = true := by kernel_rfl
theorem csL_4_1_2 (x0 x1 x2 : Int) : outL (cvL restL ((srL2 4 1 x0 x1 x2).set 7 (.int .i64 2)) (shL2 4 1 x0 x1 x2)) = true := by kernel_rfl
theorem csL_4_1_3 (x0 x1 x2 : Int) : outL (cvL restL ((srL2 4 1 x0 x1 x2).set 7 (.int .i64 3)) (shL2 4 1 x0 x1 x2)) = true := by kernel_rfl
end Go.Proofs.YtllfnhapnndngaaGreatDoor.E
