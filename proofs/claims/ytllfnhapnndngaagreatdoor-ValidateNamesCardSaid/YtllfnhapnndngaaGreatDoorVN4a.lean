/- Known calls in ValidateNames: the runs, level 4. -/
import Derived.Test.YtllfnhapnndngaaGreatDoorVN3t
namespace Go.Proofs.YtllfnhapnndngaaGreatDoor.E
open Go Go.Proofs
set_option maxRecDepth 1000000
theorem rN25 : chkD (runD tabN3 dN25.f dN25.args (clE dN25.rows)) dN25 = true := by kernel_rfl
theorem oN25 : EntDOk Tryz.prog dN25 := runD_ok tabN3_ok rN25
theorem rN92 : chkD (runD tabN3 dN92.f dN92.args (clE dN92.rows)) dN92 = true := by kernel_rfl
theorem oN92 : EntDOk Tryz.prog dN92 := runD_ok tabN3_ok rN92
theorem rN125 : chkD (runD tabN3 dN125.f dN125.args (clE dN125.rows)) dN125 = true := by kernel_rfl
theorem oN125 : EntDOk Tryz.prog dN125 := runD_ok tabN3_ok rN125
theorem rN156 : chkD (runD tabN3 dN156.f dN156.args (clE dN156.rows)) dN156 = true := by kernel_rfl
theorem oN156 : EntDOk Tryz.prog dN156 := runD_ok tabN3_ok rN156
theorem rN212 : chkD (runD tabN3 dN212.f dN212.args (clE dN212.rows)) dN212 = true := by kernel_rfl
theorem oN212 : EntDOk Tryz.prog dN212 := runD_ok tabN3_ok rN212
theorem rN272 : chkD (runD tabN3 dN272.f dN272.args (clE dN272.rows)) dN272 = true := by kernel_rfl
theorem oN272 : EntDOk Tryz.prog dN272 := runD_ok tabN3_ok rN272
theorem rN48 : chkD (runD tabN3 dN48.f dN48.args (clE dN48.rows)) dN48 = true := by kernel_rfl
theorem oN48 : EntDOk Tryz.prog dN48 := runD_ok tabN3_ok rN48
theorem rN99 : chkD (runD tabN3 dN99.f dN99.args (clE dN99.rows)) dN99 = true := by kernel_rfl
theorem oN99 : EntDOk Tryz.prog dN99 := runD_ok tabN3_ok rN99
theorem rN131 : chkD (runD tabN3 dN131.f dN131.args (clE dN131.rows)) dN131 = true := by kernel_rfl
theorem oN131 : EntDOk Tryz.prog dN131 := runD_ok tabN3_ok rN131
theorem rN238 : chkD (runD tabN3 dN238.f dN238.args (clE dN238.rows)) dN238 = true := by kernel_rfl
theorem oN238 : EntDOk Tryz.prog dN238 := runD_ok tabN3_ok rN238
theorem rN254 : chkD (runD tabN3 dN254.f dN254.args (clE dN254.rows)) dN254 = true := by kernel_rfl
theorem oN254 : EntDOk Tryz.prog dN254 := runD_ok tabN3_ok rN254
theorem rN108 : chkD (runD tabN3 dN108.f dN108.args (clE dN108.rows)) dN108 = true := by kernel_rfl
theorem oN108 : EntDOk Tryz.prog dN108 := runD_ok tabN3_ok rN108
theorem rN292 : chkD (runD tabN3 dN292.f dN292.args (clE dN292.rows)) dN292 = true := by kernel_rfl
theorem oN292 : EntDOk Tryz.prog dN292 := runD_ok tabN3_ok rN292
theorem rN188 : chkD (runD tabN3 dN188.f dN188.args (clE dN188.rows)) dN188 = true := by kernel_rfl
theorem oN188 : EntDOk Tryz.prog dN188 := runD_ok tabN3_ok rN188
theorem rN302 : chkD (runD tabN3 dN302.f dN302.args (clE dN302.rows)) dN302 = true := by kernel_rfl
theorem oN302 : EntDOk Tryz.prog dN302 := runD_ok tabN3_ok rN302
theorem rN130 : chkD (runD tabN3 dN130.f dN130.args (clE dN130.rows)) dN130 = true := by kernel_rfl
theorem oN130 : EntDOk Tryz.prog dN130 := runD_ok tabN3_ok rN130
theorem rN250 : chkD (runD tabN3 dN250.f dN250.args (clE dN250.rows)) dN250 = true := by kernel_rfl
theorem oN250 : EntDOk Tryz.prog dN250 := runD_ok tabN3_ok rN250
theorem rN136 : chkD (runD tabN3 dN136.f dN136.args (clE dN136.rows)) dN136 = true := by kernel_rfl
theorem oN136 : EntDOk Tryz.prog dN136 := runD_ok tabN3_ok rN136
theorem rN191 : chkD (runD tabN3 dN191.f dN191.args (clE dN191.rows)) dN191 = true := by kernel_rfl
theorem oN191 : EntDOk Tryz.prog dN191 := runD_ok tabN3_ok rN191
end Go.Proofs.YtllfnhapnndngaaGreatDoor.E
