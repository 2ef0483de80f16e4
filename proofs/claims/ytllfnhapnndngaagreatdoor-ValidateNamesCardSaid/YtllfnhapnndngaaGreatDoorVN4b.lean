/- Known calls in ValidateNames: the runs, level 4. -/
import Derived.Test.YtllfnhapnndngaaGreatDoorVN3t
namespace Go.Proofs.YtllfnhapnndngaaGreatDoor.E
open Go Go.Proofs
set_option maxRecDepth 1000000
theorem rN51 : chkD (runD tabN3 dN51.f dN51.args (clE dN51.rows)) dN51 = true := by kernel_rfl
theorem oN51 : EntDOk Tryz.prog dN51 := runD_ok tabN3_ok rN51
theorem rN104 : chkD (runD tabN3 dN104.f dN104.args (clE dN104.rows)) dN104 = true := by kernel_rfl
theorem oN104 : EntDOk Tryz.prog dN104 := runD_ok tabN3_ok rN104
theorem rN134 : chkD (runD tabN3 dN134.f dN134.args (clE dN134.rows)) dN134 = true := by kernel_rfl
theorem oN134 : EntDOk Tryz.prog dN134 := runD_ok tabN3_ok rN134
theorem rN11 : chkD (runD tabN3 dN11.f dN11.args (clE dN11.rows)) dN11 = true := by kernel_rfl
theorem oN11 : EntDOk Tryz.prog dN11 := runD_ok tabN3_ok rN11
theorem rN66 : chkD (runD tabN3 dN66.f dN66.args (clE dN66.rows)) dN66 = true := by kernel_rfl
theorem oN66 : EntDOk Tryz.prog dN66 := runD_ok tabN3_ok rN66
theorem rN178 : chkD (runD tabN3 dN178.f dN178.args (clE dN178.rows)) dN178 = true := by kernel_rfl
theorem oN178 : EntDOk Tryz.prog dN178 := runD_ok tabN3_ok rN178
theorem rN233 : chkD (runD tabN3 dN233.f dN233.args (clE dN233.rows)) dN233 = true := by kernel_rfl
theorem oN233 : EntDOk Tryz.prog dN233 := runD_ok tabN3_ok rN233
theorem rN285 : chkD (runD tabN3 dN285.f dN285.args (clE dN285.rows)) dN285 = true := by kernel_rfl
theorem oN285 : EntDOk Tryz.prog dN285 := runD_ok tabN3_ok rN285
theorem rN89 : chkD (runD tabN3 dN89.f dN89.args (clE dN89.rows)) dN89 = true := by kernel_rfl
theorem oN89 : EntDOk Tryz.prog dN89 := runD_ok tabN3_ok rN89
theorem rN120 : chkD (runD tabN3 dN120.f dN120.args (clE dN120.rows)) dN120 = true := by kernel_rfl
theorem oN120 : EntDOk Tryz.prog dN120 := runD_ok tabN3_ok rN120
theorem rN153 : chkD (runD tabN3 dN153.f dN153.args (clE dN153.rows)) dN153 = true := by kernel_rfl
theorem oN153 : EntDOk Tryz.prog dN153 := runD_ok tabN3_ok rN153
theorem rN187 : chkD (runD tabN3 dN187.f dN187.args (clE dN187.rows)) dN187 = true := by kernel_rfl
theorem oN187 : EntDOk Tryz.prog dN187 := runD_ok tabN3_ok rN187
theorem rN301 : chkD (runD tabN3 dN301.f dN301.args (clE dN301.rows)) dN301 = true := by kernel_rfl
theorem oN301 : EntDOk Tryz.prog dN301 := runD_ok tabN3_ok rN301
theorem rN288 : chkD (runD tabN3 dN288.f dN288.args (clE dN288.rows)) dN288 = true := by kernel_rfl
theorem oN288 : EntDOk Tryz.prog dN288 := runD_ok tabN3_ok rN288
theorem rN88 : chkD (runD tabN3 dN88.f dN88.args (clE dN88.rows)) dN88 = true := by kernel_rfl
theorem oN88 : EntDOk Tryz.prog dN88 := runD_ok tabN3_ok rN88
theorem rN193 : chkD (runD tabN3 dN193.f dN193.args (clE dN193.rows)) dN193 = true := by kernel_rfl
theorem oN193 : EntDOk Tryz.prog dN193 := runD_ok tabN3_ok rN193
theorem rN190 : chkD (runD tabN3 dN190.f dN190.args (clE dN190.rows)) dN190 = true := by kernel_rfl
theorem oN190 : EntDOk Tryz.prog dN190 := runD_ok tabN3_ok rN190
theorem rN264 : chkD (runD tabN3 dN264.f dN264.args (clE dN264.rows)) dN264 = true := by kernel_rfl
theorem oN264 : EntDOk Tryz.prog dN264 := runD_ok tabN3_ok rN264
end Go.Proofs.YtllfnhapnndngaaGreatDoor.E
