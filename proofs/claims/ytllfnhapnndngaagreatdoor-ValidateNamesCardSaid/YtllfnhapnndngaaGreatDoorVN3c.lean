/- Known calls in ValidateNames: the runs, level 3. -/
import Derived.Test.YtllfnhapnndngaaGreatDoorVN2t
namespace Go.Proofs.YtllfnhapnndngaaGreatDoor.E
open Go Go.Proofs
set_option maxRecDepth 1000000
theorem rN246 : chkD (runD tabN2 dN246.f dN246.args (clE dN246.rows)) dN246 = true := by kernel_rfl
theorem oN246 : EntDOk Tryz.prog dN246 := runD_ok tabN2_ok rN246
theorem rN199 : chkD (runD tabN2 dN199.f dN199.args (clE dN199.rows)) dN199 = true := by kernel_rfl
theorem oN199 : EntDOk Tryz.prog dN199 := runD_ok tabN2_ok rN199
theorem rN284 : chkD (runD tabN2 dN284.f dN284.args (clE dN284.rows)) dN284 = true := by kernel_rfl
theorem oN284 : EntDOk Tryz.prog dN284 := runD_ok tabN2_ok rN284
theorem rN6 : chkD (runD tabN2 dN6.f dN6.args (clE dN6.rows)) dN6 = true := by kernel_rfl
theorem oN6 : EntDOk Tryz.prog dN6 := runD_ok tabN2_ok rN6
theorem rN196 : chkD (runD tabN2 dN196.f dN196.args (clE dN196.rows)) dN196 = true := by kernel_rfl
theorem oN196 : EntDOk Tryz.prog dN196 := runD_ok tabN2_ok rN196
theorem rN80 : chkD (runD tabN2 dN80.f dN80.args (clE dN80.rows)) dN80 = true := by kernel_rfl
theorem oN80 : EntDOk Tryz.prog dN80 := runD_ok tabN2_ok rN80
theorem rN123 : chkD (runD tabN2 dN123.f dN123.args (clE dN123.rows)) dN123 = true := by kernel_rfl
theorem oN123 : EntDOk Tryz.prog dN123 := runD_ok tabN2_ok rN123
theorem rN81 : chkD (runD tabN2 dN81.f dN81.args (clE dN81.rows)) dN81 = true := by kernel_rfl
theorem oN81 : EntDOk Tryz.prog dN81 := runD_ok tabN2_ok rN81
theorem rN124 : chkD (runD tabN2 dN124.f dN124.args (clE dN124.rows)) dN124 = true := by kernel_rfl
theorem oN124 : EntDOk Tryz.prog dN124 := runD_ok tabN2_ok rN124
theorem rN98 : chkD (runD tabN2 dN98.f dN98.args (clE dN98.rows)) dN98 = true := by kernel_rfl
theorem oN98 : EntDOk Tryz.prog dN98 := runD_ok tabN2_ok rN98
theorem rN74 : chkD (runD tabN2 dN74.f dN74.args (clE dN74.rows)) dN74 = true := by kernel_rfl
theorem oN74 : EntDOk Tryz.prog dN74 := runD_ok tabN2_ok rN74
theorem rN33 : chkD (runD tabN2 dN33.f dN33.args (clE dN33.rows)) dN33 = true := by kernel_rfl
theorem oN33 : EntDOk Tryz.prog dN33 := runD_ok tabN2_ok rN33
theorem rN224 : chkD (runD tabN2 dN224.f dN224.args (clE dN224.rows)) dN224 = true := by kernel_rfl
theorem oN224 : EntDOk Tryz.prog dN224 := runD_ok tabN2_ok rN224
theorem rN69 : chkD (runD tabN2 dN69.f dN69.args (clE dN69.rows)) dN69 = true := by kernel_rfl
theorem oN69 : EntDOk Tryz.prog dN69 := runD_ok tabN2_ok rN69
theorem rN219 : chkD (runD tabN2 dN219.f dN219.args (clE dN219.rows)) dN219 = true := by kernel_rfl
theorem oN219 : EntDOk Tryz.prog dN219 := runD_ok tabN2_ok rN219
theorem rN257 : chkD (runD tabN2 dN257.f dN257.args (clE dN257.rows)) dN257 = true := by kernel_rfl
theorem oN257 : EntDOk Tryz.prog dN257 := runD_ok tabN2_ok rN257
theorem rN262 : chkD (runD tabN2 dN262.f dN262.args (clE dN262.rows)) dN262 = true := by kernel_rfl
theorem oN262 : EntDOk Tryz.prog dN262 := runD_ok tabN2_ok rN262
theorem rN186 : chkD (runD tabN2 dN186.f dN186.args (clE dN186.rows)) dN186 = true := by kernel_rfl
theorem oN186 : EntDOk Tryz.prog dN186 := runD_ok tabN2_ok rN186
theorem rN87 : chkD (runD tabN2 dN87.f dN87.args (clE dN87.rows)) dN87 = true := by kernel_rfl
theorem oN87 : EntDOk Tryz.prog dN87 := runD_ok tabN2_ok rN87
theorem rN189 : chkD (runD tabN2 dN189.f dN189.args (clE dN189.rows)) dN189 = true := by kernel_rfl
theorem oN189 : EntDOk Tryz.prog dN189 := runD_ok tabN2_ok rN189
end Go.Proofs.YtllfnhapnndngaaGreatDoor.E
