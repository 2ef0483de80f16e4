/- ValidateStatus: the cases, part 0. -/
import Derived.Test.YtllfnhapnndngaaGreatDoorLS0
namespace Go.Proofs.YtllfnhapnndngaaGreatDoor.E
open Go Go.Proofs
set_option maxRecDepth 1000000
theorem csS_0_0_t (x0 x1 : Int) : outS (cvS restS (((srS0 x0 x1 true).set 7 (.int .i64 0)).set 8 (.int .i64 0)) (shS0 x0 x1 true)) = true := by kernel_rfl
theorem csS_0_0_f (x0 x1 : Int) : outS (cvS restS (((srS0 x0 x1 false).set 7 (.int .i64 0)).set 8 (.int .i64 0)) (shS0 x0 x1 false)) = true := by kernel_rfl
theorem csS_0_1_t (x0 x1 : Int) : outS (cvS restS (((srS0 x0 x1 true).set 7 (.int .i64 0)).set 8 (.int .i64 1)) (shS0 x0 x1 true)) = true := by kernel_rfl
theorem csS_0_1_f (x0 x1 : Int) : outS (cvS restS (((srS0 x0 x1 false).set 7 (.int .i64 0)).set 8 (.int .i64 1)) (shS0 x0 x1 false)) = true := by kernel_rfl
theorem csS_0_2_t (x0 x1 : Int) : outS (cvS restS (((srS0 x0 x1 true).set 7 (.int .i64 0)).set 8 (.int .i64 2)) (shS0 x0 x1 true)) = true := by kernel_rfl
theorem csS_0_2_f (x0 x1 : Int) : outS (cvS restS (((srS0 x0 x1 false).set 7 (.int .i64 0)).set 8 (.int .i64 2)) (shS0 x0 x1 false)) = true := by kernel_rfl
theorem csS_0_3_t (x0 x1 : Int) : outS (cvS restS (((srS0 x0 x1 true).set 7 (.int .i64 0)).set 8 (.int .i64 3)) (shS0 x0 x1 true)) = true := by kernel_rfl
end Go.Proofs.YtllfnhapnndngaaGreatDoor.E
