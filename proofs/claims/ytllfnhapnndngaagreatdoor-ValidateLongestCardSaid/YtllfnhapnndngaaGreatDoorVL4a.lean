/- Known calls in ValidateLongest: the runs, level 4. -/
import Derived.Test.YtllfnhapnndngaaGreatDoorVL2t
namespace Go.Proofs.YtllfnhapnndngaaGreatDoor.E
open Go Go.Proofs
set_option maxRecDepth 1000000
theorem rL256 : chkD (runD tabL3 dL256.f dL256.args (clE dL256.rows)) dL256 = true := by kernel_rfl
theorem oL256 : EntDOk Tryz.prog dL256 := runD_ok tabL3_ok rL256
theorem rL211 : chkD (runD tabL3 dL211.f dL211.args (clE dL211.rows)) dL211 = true := by kernel_rfl
theorem oL211 : EntDOk Tryz.prog dL211 := runD_ok tabL3_ok rL211
theorem rL13 : chkD (runD tabL3 dL13.f dL13.args (clE dL13.rows)) dL13 = true := by kernel_rfl
theorem oL13 : EntDOk Tryz.prog dL13 := runD_ok tabL3_ok rL13
theorem rL76 : chkD (runD tabL3 dL76.f dL76.args (clE dL76.rows)) dL76 = true := by kernel_rfl
theorem oL76 : EntDOk Tryz.prog dL76 := runD_ok tabL3_ok rL76
theorem rL151 : chkD (runD tabL3 dL151.f dL151.args (clE dL151.rows)) dL151 = true := by kernel_rfl
theorem oL151 : EntDOk Tryz.prog dL151 := runD_ok tabL3_ok rL151
theorem rL161 : chkD (runD tabL3 dL161.f dL161.args (clE dL161.rows)) dL161 = true := by kernel_rfl
theorem oL161 : EntDOk Tryz.prog dL161 := runD_ok tabL3_ok rL161
theorem rL202 : chkD (runD tabL3 dL202.f dL202.args (clE dL202.rows)) dL202 = true := by kernel_rfl
theorem oL202 : EntDOk Tryz.prog dL202 := runD_ok tabL3_ok rL202
theorem rL214 : chkD (runD tabL3 dL214.f dL214.args (clE dL214.rows)) dL214 = true := by kernel_rfl
theorem oL214 : EntDOk Tryz.prog dL214 := runD_ok tabL3_ok rL214
theorem rL170 : chkD (runD tabL3 dL170.f dL170.args (clE dL170.rows)) dL170 = true := by kernel_rfl
theorem oL170 : EntDOk Tryz.prog dL170 := runD_ok tabL3_ok rL170
theorem rL59 : chkD (runD tabL3 dL59.f dL59.args (clE dL59.rows)) dL59 = true := by kernel_rfl
theorem oL59 : EntDOk Tryz.prog dL59 := runD_ok tabL3_ok rL59
theorem rL128 : chkD (runD tabL3 dL128.f dL128.args (clE dL128.rows)) dL128 = true := by kernel_rfl
theorem oL128 : EntDOk Tryz.prog dL128 := runD_ok tabL3_ok rL128
theorem rL154 : chkD (runD tabL3 dL154.f dL154.args (clE dL154.rows)) dL154 = true := by kernel_rfl
theorem oL154 : EntDOk Tryz.prog dL154 := runD_ok tabL3_ok rL154
end Go.Proofs.YtllfnhapnndngaaGreatDoor.E
