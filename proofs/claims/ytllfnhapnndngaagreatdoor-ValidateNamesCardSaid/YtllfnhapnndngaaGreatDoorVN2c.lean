/- Known calls in ValidateNames: the runs, level 2. -/
import Derived.Test.YtllfnhapnndngaaGreatDoorVN1t
namespace Go.Proofs.YtllfnhapnndngaaGreatDoor.E
open Go Go.Proofs
set_option maxRecDepth 1000000
theorem rN165 : chkD (runD tabN1 dN165.f dN165.args (clE dN165.rows)) dN165 = true := by kernel_rfl
theorem oN165 : EntDOk Tryz.prog dN165 := runD_ok tabN1_ok rN165
theorem rN213 : chkD (runD tabN1 dN213.f dN213.args (clE dN213.rows)) dN213 = true := by kernel_rfl
theorem oN213 : EntDOk Tryz.prog dN213 := runD_ok tabN1_ok rN213
theorem rN273 : chkD (runD tabN1 dN273.f dN273.args (clE dN273.rows)) dN273 = true := by kernel_rfl
theorem oN273 : EntDOk Tryz.prog dN273 := runD_ok tabN1_ok rN273
theorem rN93 : chkD (runD tabN1 dN93.f dN93.args (clE dN93.rows)) dN93 = true := by kernel_rfl
theorem oN93 : EntDOk Tryz.prog dN93 := runD_ok tabN1_ok rN93
theorem rN135 : chkD (runD tabN1 dN135.f dN135.args (clE dN135.rows)) dN135 = true := by kernel_rfl
theorem oN135 : EntDOk Tryz.prog dN135 := runD_ok tabN1_ok rN135
theorem rN28 : chkD (runD tabN1 dN28.f dN28.args (clE dN28.rows)) dN28 = true := by kernel_rfl
theorem oN28 : EntDOk Tryz.prog dN28 := runD_ok tabN1_ok rN28
theorem rN166 : chkD (runD tabN1 dN166.f dN166.args (clE dN166.rows)) dN166 = true := by kernel_rfl
theorem oN166 : EntDOk Tryz.prog dN166 := runD_ok tabN1_ok rN166
theorem rN214 : chkD (runD tabN1 dN214.f dN214.args (clE dN214.rows)) dN214 = true := by kernel_rfl
theorem oN214 : EntDOk Tryz.prog dN214 := runD_ok tabN1_ok rN214
theorem rN274 : chkD (runD tabN1 dN274.f dN274.args (clE dN274.rows)) dN274 = true := by kernel_rfl
theorem oN274 : EntDOk Tryz.prog dN274 := runD_ok tabN1_ok rN274
theorem rN39 : chkD (runD tabN1 dN39.f dN39.args (clE dN39.rows)) dN39 = true := by kernel_rfl
theorem oN39 : EntDOk Tryz.prog dN39 := runD_ok tabN1_ok rN39
theorem rN171 : chkD (runD tabN1 dN171.f dN171.args (clE dN171.rows)) dN171 = true := by kernel_rfl
theorem oN171 : EntDOk Tryz.prog dN171 := runD_ok tabN1_ok rN171
theorem rN217 : chkD (runD tabN1 dN217.f dN217.args (clE dN217.rows)) dN217 = true := by kernel_rfl
theorem oN217 : EntDOk Tryz.prog dN217 := runD_ok tabN1_ok rN217
theorem rN278 : chkD (runD tabN1 dN278.f dN278.args (clE dN278.rows)) dN278 = true := by kernel_rfl
theorem oN278 : EntDOk Tryz.prog dN278 := runD_ok tabN1_ok rN278
theorem rN172 : chkD (runD tabN1 dN172.f dN172.args (clE dN172.rows)) dN172 = true := by kernel_rfl
theorem oN172 : EntDOk Tryz.prog dN172 := runD_ok tabN1_ok rN172
theorem rN158 : chkD (runD tabN1 dN158.f dN158.args (clE dN158.rows)) dN158 = true := by kernel_rfl
theorem oN158 : EntDOk Tryz.prog dN158 := runD_ok tabN1_ok rN158
theorem rN13 : chkD (runD tabN1 dN13.f dN13.args (clE dN13.rows)) dN13 = true := by kernel_rfl
theorem oN13 : EntDOk Tryz.prog dN13 := runD_ok tabN1_ok rN13
theorem rN116 : chkD (runD tabN1 dN116.f dN116.args (clE dN116.rows)) dN116 = true := by kernel_rfl
theorem oN116 : EntDOk Tryz.prog dN116 := runD_ok tabN1_ok rN116
theorem rN55 : chkD (runD tabN1 dN55.f dN55.args (clE dN55.rows)) dN55 = true := by kernel_rfl
theorem oN55 : EntDOk Tryz.prog dN55 := runD_ok tabN1_ok rN55
theorem rN170 : chkD (runD tabN1 dN170.f dN170.args (clE dN170.rows)) dN170 = true := by kernel_rfl
theorem oN170 : EntDOk Tryz.prog dN170 := runD_ok tabN1_ok rN170
theorem rN216 : chkD (runD tabN1 dN216.f dN216.args (clE dN216.rows)) dN216 = true := by kernel_rfl
theorem oN216 : EntDOk Tryz.prog dN216 := runD_ok tabN1_ok rN216
theorem rN277 : chkD (runD tabN1 dN277.f dN277.args (clE dN277.rows)) dN277 = true := by kernel_rfl
theorem oN277 : EntDOk Tryz.prog dN277 := runD_ok tabN1_ok rN277
theorem rN266 : chkD (runD tabN1 dN266.f dN266.args (clE dN266.rows)) dN266 = true := by kernel_rfl
theorem oN266 : EntDOk Tryz.prog dN266 := runD_ok tabN1_ok rN266
theorem rN220 : chkD (runD tabN1 dN220.f dN220.args (clE dN220.rows)) dN220 = true := by kernel_rfl
theorem oN220 : EntDOk Tryz.prog dN220 := runD_ok tabN1_ok rN220
theorem rN221 : chkD (runD tabN1 dN221.f dN221.args (clE dN221.rows)) dN221 = true := by kernel_rfl
theorem oN221 : EntDOk Tryz.prog dN221 := runD_ok tabN1_ok rN221
theorem rN22 : chkD (runD tabN1 dN22.f dN22.args (clE dN22.rows)) dN22 = true := by kernel_rfl
theorem oN22 : EntDOk Tryz.prog dN22 := runD_ok tabN1_ok rN22
theorem rN5 : chkD (runD tabN1 dN5.f dN5.args (clE dN5.rows)) dN5 = true := by kernel_rfl
theorem oN5 : EntDOk Tryz.prog dN5 := runD_ok tabN1_ok rN5
end Go.Proofs.YtllfnhapnndngaaGreatDoor.E
