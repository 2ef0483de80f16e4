/- Known calls in ValidateStatus: the runs, level 1. -/
import Derived.Test.YtllfnhapnndngaaGreatDoorVSE0
namespace Go.Proofs.YtllfnhapnndngaaGreatDoor.E
open Go Go.Proofs
set_option maxRecDepth 1000000
theorem rS68 : chkD (runD tabA7 dS68.f dS68.args (clE dS68.rows)) dS68 = true := by kernel_rfl
theorem oS68 : EntDOk Tryz.prog dS68 := runD_ok tabA7_ok rS68
theorem rS11 : chkD (runD tabA7 dS11.f dS11.args (clE dS11.rows)) dS11 = true := by kernel_rfl
theorem oS11 : EntDOk Tryz.prog dS11 := runD_ok tabA7_ok rS11
theorem rS20 : chkD (runD tabA7 dS20.f dS20.args (clE dS20.rows)) dS20 = true := by kernel_rfl
theorem oS20 : EntDOk Tryz.prog dS20 := runD_ok tabA7_ok rS20
theorem rS72 : chkD (runD tabA7 dS72.f dS72.args (clE dS72.rows)) dS72 = true := by kernel_rfl
theorem oS72 : EntDOk Tryz.prog dS72 := runD_ok tabA7_ok rS72
theorem rS95 : chkD (runD tabA7 dS95.f dS95.args (clE dS95.rows)) dS95 = true := by kernel_rfl
theorem oS95 : EntDOk Tryz.prog dS95 := runD_ok tabA7_ok rS95
theorem rS16 : chkD (runD tabA7 dS16.f dS16.args (clE dS16.rows)) dS16 = true := by kernel_rfl
theorem oS16 : EntDOk Tryz.prog dS16 := runD_ok tabA7_ok rS16
theorem rS42 : chkD (runD tabA7 dS42.f dS42.args (clE dS42.rows)) dS42 = true := by kernel_rfl
theorem oS42 : EntDOk Tryz.prog dS42 := runD_ok tabA7_ok rS42
theorem rS64 : chkD (runD tabA7 dS64.f dS64.args (clE dS64.rows)) dS64 = true := by kernel_rfl
theorem oS64 : EntDOk Tryz.prog dS64 := runD_ok tabA7_ok rS64
theorem rS90 : chkD (runD tabA7 dS90.f dS90.args (clE dS90.rows)) dS90 = true := by kernel_rfl
theorem oS90 : EntDOk Tryz.prog dS90 := runD_ok tabA7_ok rS90
theorem rS31 : chkD (runD tabA7 dS31.f dS31.args (clE dS31.rows)) dS31 = true := by kernel_rfl
theorem oS31 : EntDOk Tryz.prog dS31 := runD_ok tabA7_ok rS31
theorem rS46 : chkD (runD tabA7 dS46.f dS46.args (clE dS46.rows)) dS46 = true := by kernel_rfl
theorem oS46 : EntDOk Tryz.prog dS46 := runD_ok tabA7_ok rS46
theorem rS85 : chkD (runD tabA7 dS85.f dS85.args (clE dS85.rows)) dS85 = true := by kernel_rfl
theorem oS85 : EntDOk Tryz.prog dS85 := runD_ok tabA7_ok rS85
theorem rS1 : chkD (runD tabA7 dS1.f dS1.args (clE dS1.rows)) dS1 = true := by kernel_rfl
theorem oS1 : EntDOk Tryz.prog dS1 := runD_ok tabA7_ok rS1
theorem rS37 : chkD (runD tabA7 dS37.f dS37.args (clE dS37.rows)) dS37 = true := by kernel_rfl
theorem oS37 : EntDOk Tryz.prog dS37 := runD_ok tabA7_ok rS37
theorem rS17 : chkD (runD tabA7 dS17.f dS17.args (clE dS17.rows)) dS17 = true := by kernel_rfl
theorem oS17 : EntDOk Tryz.prog dS17 := runD_ok tabA7_ok rS17
theorem rS43 : chkD (runD tabA7 dS43.f dS43.args (clE dS43.rows)) dS43 = true := by kernel_rfl
theorem oS43 : EntDOk Tryz.prog dS43 := runD_ok tabA7_ok rS43
theorem rS65 : chkD (runD tabA7 dS65.f dS65.args (clE dS65.rows)) dS65 = true := by kernel_rfl
theorem oS65 : EntDOk Tryz.prog dS65 := runD_ok tabA7_ok rS65
theorem rS91 : chkD (runD tabA7 dS91.f dS91.args (clE dS91.rows)) dS91 = true := by kernel_rfl
theorem oS91 : EntDOk Tryz.prog dS91 := runD_ok tabA7_ok rS91
theorem rS71 : chkD (runD tabA7 dS71.f dS71.args (clE dS71.rows)) dS71 = true := by kernel_rfl
theorem oS71 : EntDOk Tryz.prog dS71 := runD_ok tabA7_ok rS71
theorem rS22 : chkD (runD tabA7 dS22.f dS22.args (clE dS22.rows)) dS22 = true := by kernel_rfl
theorem oS22 : EntDOk Tryz.prog dS22 := runD_ok tabA7_ok rS22
theorem rS0 : chkD (runD tabA7 dS0.f dS0.args (clE dS0.rows)) dS0 = true := by kernel_rfl
theorem oS0 : EntDOk Tryz.prog dS0 := runD_ok tabA7_ok rS0
theorem rS45 : chkD (runD tabA7 dS45.f dS45.args (clE dS45.rows)) dS45 = true := by kernel_rfl
theorem oS45 : EntDOk Tryz.prog dS45 := runD_ok tabA7_ok rS45
theorem rS84 : chkD (runD tabA7 dS84.f dS84.args (clE dS84.rows)) dS84 = true := by kernel_rfl
theorem oS84 : EntDOk Tryz.prog dS84 := runD_ok tabA7_ok rS84
theorem rS52 : chkD (runD tabA7 dS52.f dS52.args (clE dS52.rows)) dS52 = true := by kernel_rfl
theorem oS52 : EntDOk Tryz.prog dS52 := runD_ok tabA7_ok rS52
theorem rS60 : chkD (runD tabA7 dS60.f dS60.args (clE dS60.rows)) dS60 = true := by kernel_rfl
theorem oS60 : EntDOk Tryz.prog dS60 := runD_ok tabA7_ok rS60
theorem rS66 : chkD (runD tabA7 dS66.f dS66.args (clE dS66.rows)) dS66 = true := by kernel_rfl
theorem oS66 : EntDOk Tryz.prog dS66 := runD_ok tabA7_ok rS66
theorem rS80 : chkD (runD tabA7 dS80.f dS80.args (clE dS80.rows)) dS80 = true := by kernel_rfl
theorem oS80 : EntDOk Tryz.prog dS80 := runD_ok tabA7_ok rS80
theorem rS69 : chkD (runD tabA7 dS69.f dS69.args (clE dS69.rows)) dS69 = true := by kernel_rfl
theorem oS69 : EntDOk Tryz.prog dS69 := runD_ok tabA7_ok rS69
theorem rS78 : chkD (runD tabA7 dS78.f dS78.args (clE dS78.rows)) dS78 = true := by kernel_rfl
theorem oS78 : EntDOk Tryz.prog dS78 := runD_ok tabA7_ok rS78
theorem rS51 : chkD (runD tabA7 dS51.f dS51.args (clE dS51.rows)) dS51 = true := by kernel_rfl
theorem oS51 : EntDOk Tryz.prog dS51 := runD_ok tabA7_ok rS51
theorem rS44 : chkD (runD tabA7 dS44.f dS44.args (clE dS44.rows)) dS44 = true := by kernel_rfl
theorem oS44 : EntDOk Tryz.prog dS44 := runD_ok tabA7_ok rS44
theorem rS83 : chkD (runD tabA7 dS83.f dS83.args (clE dS83.rows)) dS83 = true := by kernel_rfl
theorem oS83 : EntDOk Tryz.prog dS83 := runD_ok tabA7_ok rS83
theorem rS87 : chkD (runD tabA7 dS87.f dS87.args (clE dS87.rows)) dS87 = true := by kernel_rfl
theorem oS87 : EntDOk Tryz.prog dS87 := runD_ok tabA7_ok rS87
end Go.Proofs.YtllfnhapnndngaaGreatDoor.E
