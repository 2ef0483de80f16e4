/- Known calls in ValidateNames: the runs, level 3. -/
import Derived.Test.YtllfnhapnndngaaGreatDoorVN2t
namespace Go.Proofs.YtllfnhapnndngaaGreatDoor.E
open Go Go.Proofs
set_option maxRecDepth 1000000
theorem rN65 : chkD (runD tabN2 dN65.f dN65.args (clE dN65.rows)) dN65 = true := by kernel_rfl
theorem oN65 : EntDOk Tryz.prog dN65 := runD_ok tabN2_ok rN65
theorem rN163 : chkD (runD tabN2 dN163.f dN163.args (clE dN163.rows)) dN163 = true := by kernel_rfl
theorem oN163 : EntDOk Tryz.prog dN163 := runD_ok tabN2_ok rN163
theorem rN45 : chkD (runD tabN2 dN45.f dN45.args (clE dN45.rows)) dN45 = true := by kernel_rfl
theorem oN45 : EntDOk Tryz.prog dN45 := runD_ok tabN2_ok rN45
theorem rN174 : chkD (runD tabN2 dN174.f dN174.args (clE dN174.rows)) dN174 = true := by kernel_rfl
theorem oN174 : EntDOk Tryz.prog dN174 := runD_ok tabN2_ok rN174
theorem rN208 : chkD (runD tabN2 dN208.f dN208.args (clE dN208.rows)) dN208 = true := by kernel_rfl
theorem oN208 : EntDOk Tryz.prog dN208 := runD_ok tabN2_ok rN208
theorem rN268 : chkD (runD tabN2 dN268.f dN268.args (clE dN268.rows)) dN268 = true := by kernel_rfl
theorem oN268 : EntDOk Tryz.prog dN268 := runD_ok tabN2_ok rN268
theorem rN18 : chkD (runD tabN2 dN18.f dN18.args (clE dN18.rows)) dN18 = true := by kernel_rfl
theorem oN18 : EntDOk Tryz.prog dN18 := runD_ok tabN2_ok rN18
theorem rN141 : chkD (runD tabN2 dN141.f dN141.args (clE dN141.rows)) dN141 = true := by kernel_rfl
theorem oN141 : EntDOk Tryz.prog dN141 := runD_ok tabN2_ok rN141
theorem rN117 : chkD (runD tabN2 dN117.f dN117.args (clE dN117.rows)) dN117 = true := by kernel_rfl
theorem oN117 : EntDOk Tryz.prog dN117 := runD_ok tabN2_ok rN117
theorem rN203 : chkD (runD tabN2 dN203.f dN203.args (clE dN203.rows)) dN203 = true := by kernel_rfl
theorem oN203 : EntDOk Tryz.prog dN203 := runD_ok tabN2_ok rN203
theorem rN291 : chkD (runD tabN2 dN291.f dN291.args (clE dN291.rows)) dN291 = true := by kernel_rfl
theorem oN291 : EntDOk Tryz.prog dN291 := runD_ok tabN2_ok rN291
theorem rN215 : chkD (runD tabN2 dN215.f dN215.args (clE dN215.rows)) dN215 = true := by kernel_rfl
theorem oN215 : EntDOk Tryz.prog dN215 := runD_ok tabN2_ok rN215
theorem rN295 : chkD (runD tabN2 dN295.f dN295.args (clE dN295.rows)) dN295 = true := by kernel_rfl
theorem oN295 : EntDOk Tryz.prog dN295 := runD_ok tabN2_ok rN295
theorem rN253 : chkD (runD tabN2 dN253.f dN253.args (clE dN253.rows)) dN253 = true := by kernel_rfl
theorem oN253 : EntDOk Tryz.prog dN253 := runD_ok tabN2_ok rN253
theorem rN107 : chkD (runD tabN2 dN107.f dN107.args (clE dN107.rows)) dN107 = true := by kernel_rfl
theorem oN107 : EntDOk Tryz.prog dN107 := runD_ok tabN2_ok rN107
theorem rN129 : chkD (runD tabN2 dN129.f dN129.args (clE dN129.rows)) dN129 = true := by kernel_rfl
theorem oN129 : EntDOk Tryz.prog dN129 := runD_ok tabN2_ok rN129
theorem rN168 : chkD (runD tabN2 dN168.f dN168.args (clE dN168.rows)) dN168 = true := by kernel_rfl
theorem oN168 : EntDOk Tryz.prog dN168 := runD_ok tabN2_ok rN168
end Go.Proofs.YtllfnhapnndngaaGreatDoor.E
