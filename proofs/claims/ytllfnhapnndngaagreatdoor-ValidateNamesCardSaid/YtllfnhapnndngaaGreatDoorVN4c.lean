/- Known calls in ValidateNames: the runs, level 4. -/
import Derived.Test.YtllfnhapnndngaaGreatDoorVN3t
namespace Go.Proofs.YtllfnhapnndngaaGreatDoor.E
open Go Go.Proofs
set_option maxRecDepth 1000000
theorem rN82 : chkD (runD tabN3 dN82.f dN82.args (clE dN82.rows)) dN82 = true := by kernel_rfl
theorem oN82 : EntDOk Tryz.prog dN82 := runD_ok tabN3_ok rN82
theorem rN112 : chkD (runD tabN3 dN112.f dN112.args (clE dN112.rows)) dN112 = true := by kernel_rfl
theorem oN112 : EntDOk Tryz.prog dN112 := runD_ok tabN3_ok rN112
theorem rN147 : chkD (runD tabN3 dN147.f dN147.args (clE dN147.rows)) dN147 = true := by kernel_rfl
theorem oN147 : EntDOk Tryz.prog dN147 := runD_ok tabN3_ok rN147
theorem rN46 : chkD (runD tabN3 dN46.f dN46.args (clE dN46.rows)) dN46 = true := by kernel_rfl
theorem oN46 : EntDOk Tryz.prog dN46 := runD_ok tabN3_ok rN46
theorem rN164 : chkD (runD tabN3 dN164.f dN164.args (clE dN164.rows)) dN164 = true := by kernel_rfl
theorem oN164 : EntDOk Tryz.prog dN164 := runD_ok tabN3_ok rN164
theorem rN200 : chkD (runD tabN3 dN200.f dN200.args (clE dN200.rows)) dN200 = true := by kernel_rfl
theorem oN200 : EntDOk Tryz.prog dN200 := runD_ok tabN3_ok rN200
theorem rN247 : chkD (runD tabN3 dN247.f dN247.args (clE dN247.rows)) dN247 = true := by kernel_rfl
theorem oN247 : EntDOk Tryz.prog dN247 := runD_ok tabN3_ok rN247
theorem rN19 : chkD (runD tabN3 dN19.f dN19.args (clE dN19.rows)) dN19 = true := by kernel_rfl
theorem oN19 : EntDOk Tryz.prog dN19 := runD_ok tabN3_ok rN19
theorem rN77 : chkD (runD tabN3 dN77.f dN77.args (clE dN77.rows)) dN77 = true := by kernel_rfl
theorem oN77 : EntDOk Tryz.prog dN77 := runD_ok tabN3_ok rN77
theorem rN109 : chkD (runD tabN3 dN109.f dN109.args (clE dN109.rows)) dN109 = true := by kernel_rfl
theorem oN109 : EntDOk Tryz.prog dN109 := runD_ok tabN3_ok rN109
theorem rN142 : chkD (runD tabN3 dN142.f dN142.args (clE dN142.rows)) dN142 = true := by kernel_rfl
theorem oN142 : EntDOk Tryz.prog dN142 := runD_ok tabN3_ok rN142
theorem rN263 : chkD (runD tabN3 dN263.f dN263.args (clE dN263.rows)) dN263 = true := by kernel_rfl
theorem oN263 : EntDOk Tryz.prog dN263 := runD_ok tabN3_ok rN263
theorem rN276 : chkD (runD tabN3 dN276.f dN276.args (clE dN276.rows)) dN276 = true := by kernel_rfl
theorem oN276 : EntDOk Tryz.prog dN276 := runD_ok tabN3_ok rN276
theorem rN114 : chkD (runD tabN3 dN114.f dN114.args (clE dN114.rows)) dN114 = true := by kernel_rfl
theorem oN114 : EntDOk Tryz.prog dN114 := runD_ok tabN3_ok rN114
theorem rN293 : chkD (runD tabN3 dN293.f dN293.args (clE dN293.rows)) dN293 = true := by kernel_rfl
theorem oN293 : EntDOk Tryz.prog dN293 := runD_ok tabN3_ok rN293
theorem rN152 : chkD (runD tabN3 dN152.f dN152.args (clE dN152.rows)) dN152 = true := by kernel_rfl
theorem oN152 : EntDOk Tryz.prog dN152 := runD_ok tabN3_ok rN152
theorem rN169 : chkD (runD tabN3 dN169.f dN169.args (clE dN169.rows)) dN169 = true := by kernel_rfl
theorem oN169 : EntDOk Tryz.prog dN169 := runD_ok tabN3_ok rN169
theorem rN255 : chkD (runD tabN3 dN255.f dN255.args (clE dN255.rows)) dN255 = true := by kernel_rfl
theorem oN255 : EntDOk Tryz.prog dN255 := runD_ok tabN3_ok rN255
theorem rN181 : chkD (runD tabN3 dN181.f dN181.args (clE dN181.rows)) dN181 = true := by kernel_rfl
theorem oN181 : EntDOk Tryz.prog dN181 := runD_ok tabN3_ok rN181
end Go.Proofs.YtllfnhapnndngaaGreatDoor.E
