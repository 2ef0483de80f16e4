/- Known calls in ValidateNames: the runs, level 3. -/
import Derived.Test.YtllfnhapnndngaaGreatDoorVN2t
namespace Go.Proofs.YtllfnhapnndngaaGreatDoor.E
open Go Go.Proofs
set_option maxRecDepth 1000000
theorem rN177 : chkD (runD tabN2 dN177.f dN177.args (clE dN177.rows)) dN177 = true := by kernel_rfl
theorem oN177 : EntDOk Tryz.prog dN177 := runD_ok tabN2_ok rN177
theorem rN232 : chkD (runD tabN2 dN232.f dN232.args (clE dN232.rows)) dN232 = true := by kernel_rfl
theorem oN232 : EntDOk Tryz.prog dN232 := runD_ok tabN2_ok rN232
theorem rN41 : chkD (runD tabN2 dN41.f dN41.args (clE dN41.rows)) dN41 = true := by kernel_rfl
theorem oN41 : EntDOk Tryz.prog dN41 := runD_ok tabN2_ok rN41
theorem rN62 : chkD (runD tabN2 dN62.f dN62.args (clE dN62.rows)) dN62 = true := by kernel_rfl
theorem oN62 : EntDOk Tryz.prog dN62 := runD_ok tabN2_ok rN62
theorem rN160 : chkD (runD tabN2 dN160.f dN160.args (clE dN160.rows)) dN160 = true := by kernel_rfl
theorem oN160 : EntDOk Tryz.prog dN160 := runD_ok tabN2_ok rN160
theorem rN281 : chkD (runD tabN2 dN281.f dN281.args (clE dN281.rows)) dN281 = true := by kernel_rfl
theorem oN281 : EntDOk Tryz.prog dN281 := runD_ok tabN2_ok rN281
theorem rN145 : chkD (runD tabN2 dN145.f dN145.args (clE dN145.rows)) dN145 = true := by kernel_rfl
theorem oN145 : EntDOk Tryz.prog dN145 := runD_ok tabN2_ok rN145
theorem rN146 : chkD (runD tabN2 dN146.f dN146.args (clE dN146.rows)) dN146 = true := by kernel_rfl
theorem oN146 : EntDOk Tryz.prog dN146 := runD_ok tabN2_ok rN146
theorem rN119 : chkD (runD tabN2 dN119.f dN119.args (clE dN119.rows)) dN119 = true := by kernel_rfl
theorem oN119 : EntDOk Tryz.prog dN119 := runD_ok tabN2_ok rN119
theorem rN96 : chkD (runD tabN2 dN96.f dN96.args (clE dN96.rows)) dN96 = true := by kernel_rfl
theorem oN96 : EntDOk Tryz.prog dN96 := runD_ok tabN2_ok rN96
theorem rN184 : chkD (runD tabN2 dN184.f dN184.args (clE dN184.rows)) dN184 = true := by kernel_rfl
theorem oN184 : EntDOk Tryz.prog dN184 := runD_ok tabN2_ok rN184
theorem rN275 : chkD (runD tabN2 dN275.f dN275.args (clE dN275.rows)) dN275 = true := by kernel_rfl
theorem oN275 : EntDOk Tryz.prog dN275 := runD_ok tabN2_ok rN275
theorem rN185 : chkD (runD tabN2 dN185.f dN185.args (clE dN185.rows)) dN185 = true := by kernel_rfl
theorem oN185 : EntDOk Tryz.prog dN185 := runD_ok tabN2_ok rN185
theorem rN260 : chkD (runD tabN2 dN260.f dN260.args (clE dN260.rows)) dN260 = true := by kernel_rfl
theorem oN260 : EntDOk Tryz.prog dN260 := runD_ok tabN2_ok rN260
theorem rN237 : chkD (runD tabN2 dN237.f dN237.args (clE dN237.rows)) dN237 = true := by kernel_rfl
theorem oN237 : EntDOk Tryz.prog dN237 := runD_ok tabN2_ok rN237
theorem rN299 : chkD (runD tabN2 dN299.f dN299.args (clE dN299.rows)) dN299 = true := by kernel_rfl
theorem oN299 : EntDOk Tryz.prog dN299 := runD_ok tabN2_ok rN299
theorem rN296 : chkD (runD tabN2 dN296.f dN296.args (clE dN296.rows)) dN296 = true := by kernel_rfl
theorem oN296 : EntDOk Tryz.prog dN296 := runD_ok tabN2_ok rN296
theorem rN192 : chkD (runD tabN2 dN192.f dN192.args (clE dN192.rows)) dN192 = true := by kernel_rfl
theorem oN192 : EntDOk Tryz.prog dN192 := runD_ok tabN2_ok rN192
end Go.Proofs.YtllfnhapnndngaaGreatDoor.E
