/- Known calls in ValidateLongest: the runs, level 4. -/
import Derived.Test.YtllfnhapnndngaaGreatDoorVL2t
namespace Go.Proofs.YtllfnhapnndngaaGreatDoor.E
open Go Go.Proofs
set_option maxRecDepth 1000000
theorem rL254 : chkD (runD tabL3 dL254.f dL254.args (clE dL254.rows)) dL254 = true := by kernel_rfl
theorem oL254 : EntDOk Tryz.prog dL254 := runD_ok tabL3_ok rL254
theorem rL205 : chkD (runD tabL3 dL205.f dL205.args (clE dL205.rows)) dL205 = true := by kernel_rfl
theorem oL205 : EntDOk Tryz.prog dL205 := runD_ok tabL3_ok rL205
theorem rL223 : chkD (runD tabL3 dL223.f dL223.args (clE dL223.rows)) dL223 = true := by kernel_rfl
theorem oL223 : EntDOk Tryz.prog dL223 := runD_ok tabL3_ok rL223
theorem rL64 : chkD (runD tabL3 dL64.f dL64.args (clE dL64.rows)) dL64 = true := by kernel_rfl
theorem oL64 : EntDOk Tryz.prog dL64 := runD_ok tabL3_ok rL64
theorem rL145 : chkD (runD tabL3 dL145.f dL145.args (clE dL145.rows)) dL145 = true := by kernel_rfl
theorem oL145 : EntDOk Tryz.prog dL145 := runD_ok tabL3_ok rL145
theorem rL175 : chkD (runD tabL3 dL175.f dL175.args (clE dL175.rows)) dL175 = true := by kernel_rfl
theorem oL175 : EntDOk Tryz.prog dL175 := runD_ok tabL3_ok rL175
theorem rL227 : chkD (runD tabL3 dL227.f dL227.args (clE dL227.rows)) dL227 = true := by kernel_rfl
theorem oL227 : EntDOk Tryz.prog dL227 := runD_ok tabL3_ok rL227
theorem rL35 : chkD (runD tabL3 dL35.f dL35.args (clE dL35.rows)) dL35 = true := by kernel_rfl
theorem oL35 : EntDOk Tryz.prog dL35 := runD_ok tabL3_ok rL35
theorem rL84 : chkD (runD tabL3 dL84.f dL84.args (clE dL84.rows)) dL84 = true := by kernel_rfl
theorem oL84 : EntDOk Tryz.prog dL84 := runD_ok tabL3_ok rL84
theorem rL142 : chkD (runD tabL3 dL142.f dL142.args (clE dL142.rows)) dL142 = true := by kernel_rfl
theorem oL142 : EntDOk Tryz.prog dL142 := runD_ok tabL3_ok rL142
end Go.Proofs.YtllfnhapnndngaaGreatDoor.E
