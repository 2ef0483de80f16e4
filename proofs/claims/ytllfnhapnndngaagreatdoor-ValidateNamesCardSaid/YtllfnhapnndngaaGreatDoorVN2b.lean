/- Known calls in ValidateNames: the runs, level 2. -/
import Derived.Test.YtllfnhapnndngaaGreatDoorVN1t
namespace Go.Proofs.YtllfnhapnndngaaGreatDoor.E
open Go Go.Proofs
set_option maxRecDepth 1000000
theorem rN67 : chkD (runD tabN1 dN67.f dN67.args (clE dN67.rows)) dN67 = true := by kernel_rfl
theorem oN67 : EntDOk Tryz.prog dN67 := runD_ok tabN1_ok rN67
theorem rN201 : chkD (runD tabN1 dN201.f dN201.args (clE dN201.rows)) dN201 = true := by kernel_rfl
theorem oN201 : EntDOk Tryz.prog dN201 := runD_ok tabN1_ok rN201
theorem rN248 : chkD (runD tabN1 dN248.f dN248.args (clE dN248.rows)) dN248 = true := by kernel_rfl
theorem oN248 : EntDOk Tryz.prog dN248 := runD_ok tabN1_ok rN248
theorem rN58 : chkD (runD tabN1 dN58.f dN58.args (clE dN58.rows)) dN58 = true := by kernel_rfl
theorem oN58 : EntDOk Tryz.prog dN58 := runD_ok tabN1_ok rN58
theorem rN113 : chkD (runD tabN1 dN113.f dN113.args (clE dN113.rows)) dN113 = true := by kernel_rfl
theorem oN113 : EntDOk Tryz.prog dN113 := runD_ok tabN1_ok rN113
theorem rN44 : chkD (runD tabN1 dN44.f dN44.args (clE dN44.rows)) dN44 = true := by kernel_rfl
theorem oN44 : EntDOk Tryz.prog dN44 := runD_ok tabN1_ok rN44
theorem rN180 : chkD (runD tabN1 dN180.f dN180.args (clE dN180.rows)) dN180 = true := by kernel_rfl
theorem oN180 : EntDOk Tryz.prog dN180 := runD_ok tabN1_ok rN180
theorem rN235 : chkD (runD tabN1 dN235.f dN235.args (clE dN235.rows)) dN235 = true := by kernel_rfl
theorem oN235 : EntDOk Tryz.prog dN235 := runD_ok tabN1_ok rN235
theorem rN287 : chkD (runD tabN1 dN287.f dN287.args (clE dN287.rows)) dN287 = true := by kernel_rfl
theorem oN287 : EntDOk Tryz.prog dN287 := runD_ok tabN1_ok rN287
theorem rN56 : chkD (runD tabN1 dN56.f dN56.args (clE dN56.rows)) dN56 = true := by kernel_rfl
theorem oN56 : EntDOk Tryz.prog dN56 := runD_ok tabN1_ok rN56
theorem rN183 : chkD (runD tabN1 dN183.f dN183.args (clE dN183.rows)) dN183 = true := by kernel_rfl
theorem oN183 : EntDOk Tryz.prog dN183 := runD_ok tabN1_ok rN183
theorem rN240 : chkD (runD tabN1 dN240.f dN240.args (clE dN240.rows)) dN240 = true := by kernel_rfl
theorem oN240 : EntDOk Tryz.prog dN240 := runD_ok tabN1_ok rN240
theorem rN290 : chkD (runD tabN1 dN290.f dN290.args (clE dN290.rows)) dN290 = true := by kernel_rfl
theorem oN290 : EntDOk Tryz.prog dN290 := runD_ok tabN1_ok rN290
theorem rN241 : chkD (runD tabN1 dN241.f dN241.args (clE dN241.rows)) dN241 = true := by kernel_rfl
theorem oN241 : EntDOk Tryz.prog dN241 := runD_ok tabN1_ok rN241
theorem rN227 : chkD (runD tabN1 dN227.f dN227.args (clE dN227.rows)) dN227 = true := by kernel_rfl
theorem oN227 : EntDOk Tryz.prog dN227 := runD_ok tabN1_ok rN227
theorem rN73 : chkD (runD tabN1 dN73.f dN73.args (clE dN73.rows)) dN73 = true := by kernel_rfl
theorem oN73 : EntDOk Tryz.prog dN73 := runD_ok tabN1_ok rN73
theorem rN138 : chkD (runD tabN1 dN138.f dN138.args (clE dN138.rows)) dN138 = true := by kernel_rfl
theorem oN138 : EntDOk Tryz.prog dN138 := runD_ok tabN1_ok rN138
theorem rN70 : chkD (runD tabN1 dN70.f dN70.args (clE dN70.rows)) dN70 = true := by kernel_rfl
theorem oN70 : EntDOk Tryz.prog dN70 := runD_ok tabN1_ok rN70
theorem rN182 : chkD (runD tabN1 dN182.f dN182.args (clE dN182.rows)) dN182 = true := by kernel_rfl
theorem oN182 : EntDOk Tryz.prog dN182 := runD_ok tabN1_ok rN182
theorem rN239 : chkD (runD tabN1 dN239.f dN239.args (clE dN239.rows)) dN239 = true := by kernel_rfl
theorem oN239 : EntDOk Tryz.prog dN239 := runD_ok tabN1_ok rN239
theorem rN289 : chkD (runD tabN1 dN289.f dN289.args (clE dN289.rows)) dN289 = true := by kernel_rfl
theorem oN289 : EntDOk Tryz.prog dN289 := runD_ok tabN1_ok rN289
theorem rN35 : chkD (runD tabN1 dN35.f dN35.args (clE dN35.rows)) dN35 = true := by kernel_rfl
theorem oN35 : EntDOk Tryz.prog dN35 := runD_ok tabN1_ok rN35
theorem rN222 : chkD (runD tabN1 dN222.f dN222.args (clE dN222.rows)) dN222 = true := by kernel_rfl
theorem oN222 : EntDOk Tryz.prog dN222 := runD_ok tabN1_ok rN222
theorem rN223 : chkD (runD tabN1 dN223.f dN223.args (clE dN223.rows)) dN223 = true := by kernel_rfl
theorem oN223 : EntDOk Tryz.prog dN223 := runD_ok tabN1_ok rN223
theorem rN31 : chkD (runD tabN1 dN31.f dN31.args (clE dN31.rows)) dN31 = true := by kernel_rfl
theorem oN31 : EntDOk Tryz.prog dN31 := runD_ok tabN1_ok rN31
theorem rN17 : chkD (runD tabN1 dN17.f dN17.args (clE dN17.rows)) dN17 = true := by kernel_rfl
theorem oN17 : EntDOk Tryz.prog dN17 := runD_ok tabN1_ok rN17
end Go.Proofs.YtllfnhapnndngaaGreatDoor.E
