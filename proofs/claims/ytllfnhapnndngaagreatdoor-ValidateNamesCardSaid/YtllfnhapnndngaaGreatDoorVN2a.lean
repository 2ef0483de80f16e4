/- Known calls in ValidateNames: the runs, level 2. -/
import Derived.Test.YtllfnhapnndngaaGreatDoorVN1t
namespace Go.Proofs.YtllfnhapnndngaaGreatDoor.E
open Go Go.Proofs
set_option maxRecDepth 1000000
theorem rN27 : chkD (runD tabN1 dN27.f dN27.args (clE dN27.rows)) dN27 = true := by kernel_rfl
theorem oN27 : EntDOk Tryz.prog dN27 := runD_ok tabN1_ok rN27
theorem rN179 : chkD (runD tabN1 dN179.f dN179.args (clE dN179.rows)) dN179 = true := by kernel_rfl
theorem oN179 : EntDOk Tryz.prog dN179 := runD_ok tabN1_ok rN179
theorem rN234 : chkD (runD tabN1 dN234.f dN234.args (clE dN234.rows)) dN234 = true := by kernel_rfl
theorem oN234 : EntDOk Tryz.prog dN234 := runD_ok tabN1_ok rN234
theorem rN286 : chkD (runD tabN1 dN286.f dN286.args (clE dN286.rows)) dN286 = true := by kernel_rfl
theorem oN286 : EntDOk Tryz.prog dN286 := runD_ok tabN1_ok rN286
theorem rN157 : chkD (runD tabN1 dN157.f dN157.args (clE dN157.rows)) dN157 = true := by kernel_rfl
theorem oN157 : EntDOk Tryz.prog dN157 := runD_ok tabN1_ok rN157
theorem rN68 : chkD (runD tabN1 dN68.f dN68.args (clE dN68.rows)) dN68 = true := by kernel_rfl
theorem oN68 : EntDOk Tryz.prog dN68 := runD_ok tabN1_ok rN68
theorem rN202 : chkD (runD tabN1 dN202.f dN202.args (clE dN202.rows)) dN202 = true := by kernel_rfl
theorem oN202 : EntDOk Tryz.prog dN202 := runD_ok tabN1_ok rN202
theorem rN249 : chkD (runD tabN1 dN249.f dN249.args (clE dN249.rows)) dN249 = true := by kernel_rfl
theorem oN249 : EntDOk Tryz.prog dN249 := runD_ok tabN1_ok rN249
theorem rN149 : chkD (runD tabN1 dN149.f dN149.args (clE dN149.rows)) dN149 = true := by kernel_rfl
theorem oN149 : EntDOk Tryz.prog dN149 := runD_ok tabN1_ok rN149
theorem rN71 : chkD (runD tabN1 dN71.f dN71.args (clE dN71.rows)) dN71 = true := by kernel_rfl
theorem oN71 : EntDOk Tryz.prog dN71 := runD_ok tabN1_ok rN71
theorem rN205 : chkD (runD tabN1 dN205.f dN205.args (clE dN205.rows)) dN205 = true := by kernel_rfl
theorem oN205 : EntDOk Tryz.prog dN205 := runD_ok tabN1_ok rN205
theorem rN252 : chkD (runD tabN1 dN252.f dN252.args (clE dN252.rows)) dN252 = true := by kernel_rfl
theorem oN252 : EntDOk Tryz.prog dN252 := runD_ok tabN1_ok rN252
theorem rN60 : chkD (runD tabN1 dN60.f dN60.args (clE dN60.rows)) dN60 = true := by kernel_rfl
theorem oN60 : EntDOk Tryz.prog dN60 := runD_ok tabN1_ok rN60
theorem rN2 : chkD (runD tabN1 dN2.f dN2.args (clE dN2.rows)) dN2 = true := by kernel_rfl
theorem oN2 : EntDOk Tryz.prog dN2 := runD_ok tabN1_ok rN2
theorem rN38 : chkD (runD tabN1 dN38.f dN38.args (clE dN38.rows)) dN38 = true := by kernel_rfl
theorem oN38 : EntDOk Tryz.prog dN38 := runD_ok tabN1_ok rN38
theorem rN95 : chkD (runD tabN1 dN95.f dN95.args (clE dN95.rows)) dN95 = true := by kernel_rfl
theorem oN95 : EntDOk Tryz.prog dN95 := runD_ok tabN1_ok rN95
theorem rN294 : chkD (runD tabN1 dN294.f dN294.args (clE dN294.rows)) dN294 = true := by kernel_rfl
theorem oN294 : EntDOk Tryz.prog dN294 := runD_ok tabN1_ok rN294
theorem rN84 : chkD (runD tabN1 dN84.f dN84.args (clE dN84.rows)) dN84 = true := by kernel_rfl
theorem oN84 : EntDOk Tryz.prog dN84 := runD_ok tabN1_ok rN84
theorem rN204 : chkD (runD tabN1 dN204.f dN204.args (clE dN204.rows)) dN204 = true := by kernel_rfl
theorem oN204 : EntDOk Tryz.prog dN204 := runD_ok tabN1_ok rN204
theorem rN251 : chkD (runD tabN1 dN251.f dN251.args (clE dN251.rows)) dN251 = true := by kernel_rfl
theorem oN251 : EntDOk Tryz.prog dN251 := runD_ok tabN1_ok rN251
theorem rN279 : chkD (runD tabN1 dN279.f dN279.args (clE dN279.rows)) dN279 = true := by kernel_rfl
theorem oN279 : EntDOk Tryz.prog dN279 := runD_ok tabN1_ok rN279
theorem rN256 : chkD (runD tabN1 dN256.f dN256.args (clE dN256.rows)) dN256 = true := by kernel_rfl
theorem oN256 : EntDOk Tryz.prog dN256 := runD_ok tabN1_ok rN256
theorem rN297 : chkD (runD tabN1 dN297.f dN297.args (clE dN297.rows)) dN297 = true := by kernel_rfl
theorem oN297 : EntDOk Tryz.prog dN297 := runD_ok tabN1_ok rN297
theorem rN9 : chkD (runD tabN1 dN9.f dN9.args (clE dN9.rows)) dN9 = true := by kernel_rfl
theorem oN9 : EntDOk Tryz.prog dN9 := runD_ok tabN1_ok rN9
theorem rN259 : chkD (runD tabN1 dN259.f dN259.args (clE dN259.rows)) dN259 = true := by kernel_rfl
theorem oN259 : EntDOk Tryz.prog dN259 := runD_ok tabN1_ok rN259
end Go.Proofs.YtllfnhapnndngaaGreatDoor.E
