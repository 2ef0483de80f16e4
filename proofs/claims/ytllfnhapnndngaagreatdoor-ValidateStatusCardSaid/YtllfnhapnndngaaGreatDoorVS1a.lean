/- Known calls in ValidateStatus: the runs, level 1. -/
import Derived.Test.YtllfnhapnndngaaGreatDoorVSE0
namespace Go.Proofs.YtllfnhapnndngaaGreatDoor.E
open Go Go.Proofs
set_option maxRecDepth 1000000
theorem rS10 : chkD (runD tabA7 dS10.f dS10.args (clE dS10.rows)) dS10 = true := by kernel_rfl
theorem oS10 : EntDOk Tryz.prog dS10 := runD_ok tabA7_ok rS10
theorem rS86 : chkD (runD tabA7 dS86.f dS86.args (clE dS86.rows)) dS86 = true := by kernel_rfl
theorem oS86 : EntDOk Tryz.prog dS86 := runD_ok tabA7_ok rS86
theorem rS5 : chkD (runD tabA7 dS5.f dS5.args (clE dS5.rows)) dS5 = true := by kernel_rfl
theorem oS5 : EntDOk Tryz.prog dS5 := runD_ok tabA7_ok rS5
theorem rS28 : chkD (runD tabA7 dS28.f dS28.args (clE dS28.rows)) dS28 = true := by kernel_rfl
theorem oS28 : EntDOk Tryz.prog dS28 := runD_ok tabA7_ok rS28
theorem rS55 : chkD (runD tabA7 dS55.f dS55.args (clE dS55.rows)) dS55 = true := by kernel_rfl
theorem oS55 : EntDOk Tryz.prog dS55 := runD_ok tabA7_ok rS55
theorem rS81 : chkD (runD tabA7 dS81.f dS81.args (clE dS81.rows)) dS81 = true := by kernel_rfl
theorem oS81 : EntDOk Tryz.prog dS81 := runD_ok tabA7_ok rS81
theorem rS30 : chkD (runD tabA7 dS30.f dS30.args (clE dS30.rows)) dS30 = true := by kernel_rfl
theorem oS30 : EntDOk Tryz.prog dS30 := runD_ok tabA7_ok rS30
theorem rS48 : chkD (runD tabA7 dS48.f dS48.args (clE dS48.rows)) dS48 = true := by kernel_rfl
theorem oS48 : EntDOk Tryz.prog dS48 := runD_ok tabA7_ok rS48
theorem rS59 : chkD (runD tabA7 dS59.f dS59.args (clE dS59.rows)) dS59 = true := by kernel_rfl
theorem oS59 : EntDOk Tryz.prog dS59 := runD_ok tabA7_ok rS59
theorem rS94 : chkD (runD tabA7 dS94.f dS94.args (clE dS94.rows)) dS94 = true := by kernel_rfl
theorem oS94 : EntDOk Tryz.prog dS94 := runD_ok tabA7_ok rS94
theorem rS24 : chkD (runD tabA7 dS24.f dS24.args (clE dS24.rows)) dS24 = true := by kernel_rfl
theorem oS24 : EntDOk Tryz.prog dS24 := runD_ok tabA7_ok rS24
theorem rS6 : chkD (runD tabA7 dS6.f dS6.args (clE dS6.rows)) dS6 = true := by kernel_rfl
theorem oS6 : EntDOk Tryz.prog dS6 := runD_ok tabA7_ok rS6
theorem rS29 : chkD (runD tabA7 dS29.f dS29.args (clE dS29.rows)) dS29 = true := by kernel_rfl
theorem oS29 : EntDOk Tryz.prog dS29 := runD_ok tabA7_ok rS29
theorem rS56 : chkD (runD tabA7 dS56.f dS56.args (clE dS56.rows)) dS56 = true := by kernel_rfl
theorem oS56 : EntDOk Tryz.prog dS56 := runD_ok tabA7_ok rS56
theorem rS82 : chkD (runD tabA7 dS82.f dS82.args (clE dS82.rows)) dS82 = true := by kernel_rfl
theorem oS82 : EntDOk Tryz.prog dS82 := runD_ok tabA7_ok rS82
theorem rS23 : chkD (runD tabA7 dS23.f dS23.args (clE dS23.rows)) dS23 = true := by kernel_rfl
theorem oS23 : EntDOk Tryz.prog dS23 := runD_ok tabA7_ok rS23
theorem rS76 : chkD (runD tabA7 dS76.f dS76.args (clE dS76.rows)) dS76 = true := by kernel_rfl
theorem oS76 : EntDOk Tryz.prog dS76 := runD_ok tabA7_ok rS76
theorem rS41 : chkD (runD tabA7 dS41.f dS41.args (clE dS41.rows)) dS41 = true := by kernel_rfl
theorem oS41 : EntDOk Tryz.prog dS41 := runD_ok tabA7_ok rS41
theorem rS13 : chkD (runD tabA7 dS13.f dS13.args (clE dS13.rows)) dS13 = true := by kernel_rfl
theorem oS13 : EntDOk Tryz.prog dS13 := runD_ok tabA7_ok rS13
theorem rS58 : chkD (runD tabA7 dS58.f dS58.args (clE dS58.rows)) dS58 = true := by kernel_rfl
theorem oS58 : EntDOk Tryz.prog dS58 := runD_ok tabA7_ok rS58
theorem rS93 : chkD (runD tabA7 dS93.f dS93.args (clE dS93.rows)) dS93 = true := by kernel_rfl
theorem oS93 : EntDOk Tryz.prog dS93 := runD_ok tabA7_ok rS93
theorem rS47 : chkD (runD tabA7 dS47.f dS47.args (clE dS47.rows)) dS47 = true := by kernel_rfl
theorem oS47 : EntDOk Tryz.prog dS47 := runD_ok tabA7_ok rS47
theorem rS34 : chkD (runD tabA7 dS34.f dS34.args (clE dS34.rows)) dS34 = true := by kernel_rfl
theorem oS34 : EntDOk Tryz.prog dS34 := runD_ok tabA7_ok rS34
theorem rS36 : chkD (runD tabA7 dS36.f dS36.args (clE dS36.rows)) dS36 = true := by kernel_rfl
theorem oS36 : EntDOk Tryz.prog dS36 := runD_ok tabA7_ok rS36
theorem rS77 : chkD (runD tabA7 dS77.f dS77.args (clE dS77.rows)) dS77 = true := by kernel_rfl
theorem oS77 : EntDOk Tryz.prog dS77 := runD_ok tabA7_ok rS77
theorem rS74 : chkD (runD tabA7 dS74.f dS74.args (clE dS74.rows)) dS74 = true := by kernel_rfl
theorem oS74 : EntDOk Tryz.prog dS74 := runD_ok tabA7_ok rS74
theorem rS33 : chkD (runD tabA7 dS33.f dS33.args (clE dS33.rows)) dS33 = true := by kernel_rfl
theorem oS33 : EntDOk Tryz.prog dS33 := runD_ok tabA7_ok rS33
theorem rS62 : chkD (runD tabA7 dS62.f dS62.args (clE dS62.rows)) dS62 = true := by kernel_rfl
theorem oS62 : EntDOk Tryz.prog dS62 := runD_ok tabA7_ok rS62
theorem rS57 : chkD (runD tabA7 dS57.f dS57.args (clE dS57.rows)) dS57 = true := by kernel_rfl
theorem oS57 : EntDOk Tryz.prog dS57 := runD_ok tabA7_ok rS57
theorem rS92 : chkD (runD tabA7 dS92.f dS92.args (clE dS92.rows)) dS92 = true := by kernel_rfl
theorem oS92 : EntDOk Tryz.prog dS92 := runD_ok tabA7_ok rS92
theorem rS96 : chkD (runD tabA7 dS96.f dS96.args (clE dS96.rows)) dS96 = true := by kernel_rfl
theorem oS96 : EntDOk Tryz.prog dS96 := runD_ok tabA7_ok rS96
end Go.Proofs.YtllfnhapnndngaaGreatDoor.E
