/- Known calls in ValidateNames: the runs, level 3. -/
import Derived.Test.YtllfnhapnndngaaGreatDoorVN2t
namespace Go.Proofs.YtllfnhapnndngaaGreatDoor.E
open Go Go.Proofs
set_option maxRecDepth 1000000
theorem rN211 : chkD (runD tabN2 dN211.f dN211.args (clE dN211.rows)) dN211 = true := by kernel_rfl
theorem oN211 : EntDOk Tryz.prog dN211 := runD_ok tabN2_ok rN211
theorem rN10 : chkD (runD tabN2 dN10.f dN10.args (clE dN10.rows)) dN10 = true := by kernel_rfl
theorem oN10 : EntDOk Tryz.prog dN10 := runD_ok tabN2_ok rN10
theorem rN271 : chkD (runD tabN2 dN271.f dN271.args (clE dN271.rows)) dN271 = true := by kernel_rfl
theorem oN271 : EntDOk Tryz.prog dN271 := runD_ok tabN2_ok rN271
theorem rN243 : chkD (runD tabN2 dN243.f dN243.args (clE dN243.rows)) dN243 = true := by kernel_rfl
theorem oN243 : EntDOk Tryz.prog dN243 := runD_ok tabN2_ok rN243
theorem rN229 : chkD (runD tabN2 dN229.f dN229.args (clE dN229.rows)) dN229 = true := by kernel_rfl
theorem oN229 : EntDOk Tryz.prog dN229 := runD_ok tabN2_ok rN229
theorem rN23 : chkD (runD tabN2 dN23.f dN23.args (clE dN23.rows)) dN23 = true := by kernel_rfl
theorem oN23 : EntDOk Tryz.prog dN23 := runD_ok tabN2_ok rN23
theorem rN102 : chkD (runD tabN2 dN102.f dN102.args (clE dN102.rows)) dN102 = true := by kernel_rfl
theorem oN102 : EntDOk Tryz.prog dN102 := runD_ok tabN2_ok rN102
theorem rN24 : chkD (runD tabN2 dN24.f dN24.args (clE dN24.rows)) dN24 = true := by kernel_rfl
theorem oN24 : EntDOk Tryz.prog dN24 := runD_ok tabN2_ok rN24
theorem rN103 : chkD (runD tabN2 dN103.f dN103.args (clE dN103.rows)) dN103 = true := by kernel_rfl
theorem oN103 : EntDOk Tryz.prog dN103 := runD_ok tabN2_ok rN103
theorem rN76 : chkD (runD tabN2 dN76.f dN76.args (clE dN76.rows)) dN76 = true := by kernel_rfl
theorem oN76 : EntDOk Tryz.prog dN76 := runD_ok tabN2_ok rN76
theorem rN14 : chkD (runD tabN2 dN14.f dN14.args (clE dN14.rows)) dN14 = true := by kernel_rfl
theorem oN14 : EntDOk Tryz.prog dN14 := runD_ok tabN2_ok rN14
theorem rN139 : chkD (runD tabN2 dN139.f dN139.args (clE dN139.rows)) dN139 = true := by kernel_rfl
theorem oN139 : EntDOk Tryz.prog dN139 := runD_ok tabN2_ok rN139
theorem rN218 : chkD (runD tabN2 dN218.f dN218.args (clE dN218.rows)) dN218 = true := by kernel_rfl
theorem oN218 : EntDOk Tryz.prog dN218 := runD_ok tabN2_ok rN218
theorem rN300 : chkD (runD tabN2 dN300.f dN300.args (clE dN300.rows)) dN300 = true := by kernel_rfl
theorem oN300 : EntDOk Tryz.prog dN300 := runD_ok tabN2_ok rN300
theorem rN225 : chkD (runD tabN2 dN225.f dN225.args (clE dN225.rows)) dN225 = true := by kernel_rfl
theorem oN225 : EntDOk Tryz.prog dN225 := runD_ok tabN2_ok rN225
theorem rN298 : chkD (runD tabN2 dN298.f dN298.args (clE dN298.rows)) dN298 = true := by kernel_rfl
theorem oN298 : EntDOk Tryz.prog dN298 := runD_ok tabN2_ok rN298
theorem rN258 : chkD (runD tabN2 dN258.f dN258.args (clE dN258.rows)) dN258 = true := by kernel_rfl
theorem oN258 : EntDOk Tryz.prog dN258 := runD_ok tabN2_ok rN258
theorem rN261 : chkD (runD tabN2 dN261.f dN261.args (clE dN261.rows)) dN261 = true := by kernel_rfl
theorem oN261 : EntDOk Tryz.prog dN261 := runD_ok tabN2_ok rN261
theorem rN151 : chkD (runD tabN2 dN151.f dN151.args (clE dN151.rows)) dN151 = true := by kernel_rfl
theorem oN151 : EntDOk Tryz.prog dN151 := runD_ok tabN2_ok rN151
end Go.Proofs.YtllfnhapnndngaaGreatDoor.E
