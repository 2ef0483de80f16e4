/- Known calls in ValidateNames: the runs, level 1. -/
import Derived.Test.YtllfnhapnndngaaGreatDoorVNE1
namespace Go.Proofs.YtllfnhapnndngaaGreatDoor.E
open Go Go.Proofs
set_option maxRecDepth 1000000
theorem rN83 : chkD (runD tabA7 dN83.f dN83.args (clE dN83.rows)) dN83 = true := by kernel_rfl
theorem oN83 : EntDOk Tryz.prog dN83 := runD_ok tabA7_ok rN83
theorem rN148 : chkD (runD tabA7 dN148.f dN148.args (clE dN148.rows)) dN148 = true := by kernel_rfl
theorem oN148 : EntDOk Tryz.prog dN148 := runD_ok tabA7_ok rN148
theorem rN42 : chkD (runD tabA7 dN42.f dN42.args (clE dN42.rows)) dN42 = true := by kernel_rfl
theorem oN42 : EntDOk Tryz.prog dN42 := runD_ok tabA7_ok rN42
theorem rN78 : chkD (runD tabA7 dN78.f dN78.args (clE dN78.rows)) dN78 = true := by kernel_rfl
theorem oN78 : EntDOk Tryz.prog dN78 := runD_ok tabA7_ok rN78
theorem rN110 : chkD (runD tabA7 dN110.f dN110.args (clE dN110.rows)) dN110 = true := by kernel_rfl
theorem oN110 : EntDOk Tryz.prog dN110 := runD_ok tabA7_ok rN110
theorem rN143 : chkD (runD tabA7 dN143.f dN143.args (clE dN143.rows)) dN143 = true := by kernel_rfl
theorem oN143 : EntDOk Tryz.prog dN143 := runD_ok tabA7_ok rN143
theorem rN175 : chkD (runD tabA7 dN175.f dN175.args (clE dN175.rows)) dN175 = true := by kernel_rfl
theorem oN175 : EntDOk Tryz.prog dN175 := runD_ok tabA7_ok rN175
theorem rN230 : chkD (runD tabA7 dN230.f dN230.args (clE dN230.rows)) dN230 = true := by kernel_rfl
theorem oN230 : EntDOk Tryz.prog dN230 := runD_ok tabA7_ok rN230
theorem rN282 : chkD (runD tabA7 dN282.f dN282.args (clE dN282.rows)) dN282 = true := by kernel_rfl
theorem oN282 : EntDOk Tryz.prog dN282 := runD_ok tabA7_ok rN282
theorem rN115 : chkD (runD tabA7 dN115.f dN115.args (clE dN115.rows)) dN115 = true := by kernel_rfl
theorem oN115 : EntDOk Tryz.prog dN115 := runD_ok tabA7_ok rN115
theorem rN1 : chkD (runD tabA7 dN1.f dN1.args (clE dN1.rows)) dN1 = true := by kernel_rfl
theorem oN1 : EntDOk Tryz.prog dN1 := runD_ok tabA7_ok rN1
theorem rN15 : chkD (runD tabA7 dN15.f dN15.args (clE dN15.rows)) dN15 = true := by kernel_rfl
theorem oN15 : EntDOk Tryz.prog dN15 := runD_ok tabA7_ok rN15
theorem rN21 : chkD (runD tabA7 dN21.f dN21.args (clE dN21.rows)) dN21 = true := by kernel_rfl
theorem oN21 : EntDOk Tryz.prog dN21 := runD_ok tabA7_ok rN21
theorem rN64 : chkD (runD tabA7 dN64.f dN64.args (clE dN64.rows)) dN64 = true := by kernel_rfl
theorem oN64 : EntDOk Tryz.prog dN64 := runD_ok tabA7_ok rN64
theorem rN101 : chkD (runD tabA7 dN101.f dN101.args (clE dN101.rows)) dN101 = true := by kernel_rfl
theorem oN101 : EntDOk Tryz.prog dN101 := runD_ok tabA7_ok rN101
theorem rN133 : chkD (runD tabA7 dN133.f dN133.args (clE dN133.rows)) dN133 = true := by kernel_rfl
theorem oN133 : EntDOk Tryz.prog dN133 := runD_ok tabA7_ok rN133
theorem rN162 : chkD (runD tabA7 dN162.f dN162.args (clE dN162.rows)) dN162 = true := by kernel_rfl
theorem oN162 : EntDOk Tryz.prog dN162 := runD_ok tabA7_ok rN162
theorem rN210 : chkD (runD tabA7 dN210.f dN210.args (clE dN210.rows)) dN210 = true := by kernel_rfl
theorem oN210 : EntDOk Tryz.prog dN210 := runD_ok tabA7_ok rN210
theorem rN270 : chkD (runD tabA7 dN270.f dN270.args (clE dN270.rows)) dN270 = true := by kernel_rfl
theorem oN270 : EntDOk Tryz.prog dN270 := runD_ok tabA7_ok rN270
theorem rN37 : chkD (runD tabA7 dN37.f dN37.args (clE dN37.rows)) dN37 = true := by kernel_rfl
theorem oN37 : EntDOk Tryz.prog dN37 := runD_ok tabA7_ok rN37
theorem rN4 : chkD (runD tabA7 dN4.f dN4.args (clE dN4.rows)) dN4 = true := by kernel_rfl
theorem oN4 : EntDOk Tryz.prog dN4 := runD_ok tabA7_ok rN4
theorem rN173 : chkD (runD tabA7 dN173.f dN173.args (clE dN173.rows)) dN173 = true := by kernel_rfl
theorem oN173 : EntDOk Tryz.prog dN173 := runD_ok tabA7_ok rN173
theorem rN228 : chkD (runD tabA7 dN228.f dN228.args (clE dN228.rows)) dN228 = true := by kernel_rfl
theorem oN228 : EntDOk Tryz.prog dN228 := runD_ok tabA7_ok rN228
theorem rN280 : chkD (runD tabA7 dN280.f dN280.args (clE dN280.rows)) dN280 = true := by kernel_rfl
theorem oN280 : EntDOk Tryz.prog dN280 := runD_ok tabA7_ok rN280
theorem rN0 : chkD (runD tabA7 dN0.f dN0.args (clE dN0.rows)) dN0 = true := by kernel_rfl
theorem oN0 : EntDOk Tryz.prog dN0 := runD_ok tabA7_ok rN0
theorem rN167 : chkD (runD tabA7 dN167.f dN167.args (clE dN167.rows)) dN167 = true := by kernel_rfl
theorem oN167 : EntDOk Tryz.prog dN167 := runD_ok tabA7_ok rN167
theorem rN85 : chkD (runD tabA7 dN85.f dN85.args (clE dN85.rows)) dN85 = true := by kernel_rfl
theorem oN85 : EntDOk Tryz.prog dN85 := runD_ok tabA7_ok rN85
theorem rN54 : chkD (runD tabA7 dN54.f dN54.args (clE dN54.rows)) dN54 = true := by kernel_rfl
theorem oN54 : EntDOk Tryz.prog dN54 := runD_ok tabA7_ok rN54
theorem rN97 : chkD (runD tabA7 dN97.f dN97.args (clE dN97.rows)) dN97 = true := by kernel_rfl
theorem oN97 : EntDOk Tryz.prog dN97 := runD_ok tabA7_ok rN97
theorem rN26 : chkD (runD tabA7 dN26.f dN26.args (clE dN26.rows)) dN26 = true := by kernel_rfl
theorem oN26 : EntDOk Tryz.prog dN26 := runD_ok tabA7_ok rN26
theorem rN30 : chkD (runD tabA7 dN30.f dN30.args (clE dN30.rows)) dN30 = true := by kernel_rfl
theorem oN30 : EntDOk Tryz.prog dN30 := runD_ok tabA7_ok rN30
theorem rN265 : chkD (runD tabA7 dN265.f dN265.args (clE dN265.rows)) dN265 = true := by kernel_rfl
theorem oN265 : EntDOk Tryz.prog dN265 := runD_ok tabA7_ok rN265
end Go.Proofs.YtllfnhapnndngaaGreatDoor.E
