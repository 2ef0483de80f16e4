/- ValidateNames: the cases, part 3. -/
import Derived.Test.YtllfnhapnndngaaGreatDoorLM0
namespace Go.Proofs.YtllfnhapnndngaaGreatDoor.E
open Go Go.Proofs
set_option maxRecDepth 1000000
theorem csM_2_0_t_f (x0 x1 : Int) : outM (cvM restM (((srM0 x0 x1 true false).set 12 (.int .i64 2)).set 13 (.int .i64 0)) (shM0 x0 x1 true false)) = true := by kernel_rfl
theorem csM_2_0_f_t (x0 x1 : Int) : outM (cvM restM (((srM0 x0 x1 false true).set 12 (.int .i64 2)).set 13 (.int .i64 0)) (shM0 x0 x1 false true)) = true := by kernel_rfl
theorem csM_2_0_f_f (x0 x1 : Int) : outM (cvM restM (((srM0 x0 x1 false false).set 12 (.int .i64 2)).set 13 (.int .i64 0)) (shM0 x0 x1 false false)) = true := by kernel_rfl
theorem csM_2_1_t_t (x0 x1 : Int) : outM (cvM restM (((srM0 x0 x1 true true).set 12 (.int .i64 2)).set 13 (.int .i64 1)) (shM0 x0 x1 true true)) = true := by kernel_rfl
theorem csM_2_1_t_f (x0 x1 : Int) : outM (cvM restM (((srM0 x0 x1 true false).set 12 (.int .i64 2)).set 13 (.int .i64 1)) (shM0 x0 x1 true false)) = true := by kernel_rfl
theorem csM_2_1_f_t (x0 x1 : Int) : outM (cvM restM (((srM0 x0 x1 false true).set 12 (.int .i64 2)).set 13 (.int .i64 1)) (shM0 x0 x1 false true)) = true := by kernel_rfl
theorem csM_2_1_f_f (x0 x1 : Int) : outM (cvM restM (((srM0 x0 x1 false false).set 12 (.int .i64 2)).set 13 (.int .i64 1)) (shM0 x0 x1 false false)) = true := by kernel_rfl
theorem csM_2_2_t_t (x0 x1 : Int) : outM (cvM restM (((srM0 x0 x1 true true).set 12 (.int .i64 2)).set 13 (.int .i64 2)) (shM0 x0 x1 true true)) = true := by kernel_rfl
theorem csM_2_2_t_f (x0 x1 : Int) : outM (cvM restM (((srM0 x0 x1 true false).set 12 (.int .i64 2)).set 13 (.int .i64 2)) (shM0 x0 x1 true false)) = true := by kernel_rfl
theorem csM_2_2_f_t (x0 x1 : Int) : outM (cvM restM (((srM0 x0 x1 false true).set 12 (.int .i64 2)).set 13 (.int .i64 2)) (shM0 x0 x1 false true)) = true := by kernel_rfl
theorem csM_2_2_f_f (x0 x1 : Int) : outM (cvM restM (((srM0 x0 x1 false false).set 12 (.int .i64 2)).set 13 (.int .i64 2)) (shM0 x0 x1 false false)) = true := by kernel_rfl
theorem csM_2_3_t_t (x0 x1 : Int) : outM (cvM restM (((srM0 x0 x1 true true).set 12 (.int .i64 2)).set 13 (.int .i64 3)) (shM0 x0 x1 true true)) = true := by kernel_rfl
theorem csM_2_3_t_f (x0 x1 : Int) : outM (cvM restM (((srM0 x0 x1 true false).set 12 (.int .i64 2)).set 13 (.int .i64 3)) (shM0 x0 x1 true false)) = true := by kernel_rfl
theorem csM_2_3_f_t (x0 x1 : Int) : outM (cvM restM (((srM0 x0 x1 false true).set 12 (.int .i64 2)).set 13 (.int .i64 3)) (shM0 x0 x1 false true)) = true := by kernel_rfl
end Go.Proofs.YtllfnhapnndngaaGreatDoor.E
