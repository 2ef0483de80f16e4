/- Known calls in ValidateNames: the runs, level 1. -/
import Derived.Test.YtllfnhapnndngaaGreatDoorVNE1
namespace Go.Proofs.YtllfnhapnndngaaGreatDoor.E
open Go Go.Proofs
set_option maxRecDepth 1000000
theorem rN29 : chkD (runD tabA7 dN29.f dN29.args (clE dN29.rows)) dN29 = true := by kernel_rfl
theorem oN29 : EntDOk Tryz.prog dN29 := runD_ok tabA7_ok rN29
theorem rN105 : chkD (runD tabA7 dN105.f dN105.args (clE dN105.rows)) dN105 = true := by kernel_rfl
theorem oN105 : EntDOk Tryz.prog dN105 := runD_ok tabA7_ok rN105
theorem rN7 : chkD (runD tabA7 dN7.f dN7.args (clE dN7.rows)) dN7 = true := by kernel_rfl
theorem oN7 : EntDOk Tryz.prog dN7 := runD_ok tabA7_ok rN7
theorem rN49 : chkD (runD tabA7 dN49.f dN49.args (clE dN49.rows)) dN49 = true := by kernel_rfl
theorem oN49 : EntDOk Tryz.prog dN49 := runD_ok tabA7_ok rN49
theorem rN90 : chkD (runD tabA7 dN90.f dN90.args (clE dN90.rows)) dN90 = true := by kernel_rfl
theorem oN90 : EntDOk Tryz.prog dN90 := runD_ok tabA7_ok rN90
theorem rN121 : chkD (runD tabA7 dN121.f dN121.args (clE dN121.rows)) dN121 = true := by kernel_rfl
theorem oN121 : EntDOk Tryz.prog dN121 := runD_ok tabA7_ok rN121
theorem rN154 : chkD (runD tabA7 dN154.f dN154.args (clE dN154.rows)) dN154 = true := by kernel_rfl
theorem oN154 : EntDOk Tryz.prog dN154 := runD_ok tabA7_ok rN154
theorem rN197 : chkD (runD tabA7 dN197.f dN197.args (clE dN197.rows)) dN197 = true := by kernel_rfl
theorem oN197 : EntDOk Tryz.prog dN197 := runD_ok tabA7_ok rN197
theorem rN244 : chkD (runD tabA7 dN244.f dN244.args (clE dN244.rows)) dN244 = true := by kernel_rfl
theorem oN244 : EntDOk Tryz.prog dN244 := runD_ok tabA7_ok rN244
theorem rN137 : chkD (runD tabA7 dN137.f dN137.args (clE dN137.rows)) dN137 = true := by kernel_rfl
theorem oN137 : EntDOk Tryz.prog dN137 := runD_ok tabA7_ok rN137
theorem rN3 : chkD (runD tabA7 dN3.f dN3.args (clE dN3.rows)) dN3 = true := by kernel_rfl
theorem oN3 : EntDOk Tryz.prog dN3 := runD_ok tabA7_ok rN3
theorem rN8 : chkD (runD tabA7 dN8.f dN8.args (clE dN8.rows)) dN8 = true := by kernel_rfl
theorem oN8 : EntDOk Tryz.prog dN8 := runD_ok tabA7_ok rN8
theorem rN50 : chkD (runD tabA7 dN50.f dN50.args (clE dN50.rows)) dN50 = true := by kernel_rfl
theorem oN50 : EntDOk Tryz.prog dN50 := runD_ok tabA7_ok rN50
theorem rN91 : chkD (runD tabA7 dN91.f dN91.args (clE dN91.rows)) dN91 = true := by kernel_rfl
theorem oN91 : EntDOk Tryz.prog dN91 := runD_ok tabA7_ok rN91
theorem rN122 : chkD (runD tabA7 dN122.f dN122.args (clE dN122.rows)) dN122 = true := by kernel_rfl
theorem oN122 : EntDOk Tryz.prog dN122 := runD_ok tabA7_ok rN122
theorem rN155 : chkD (runD tabA7 dN155.f dN155.args (clE dN155.rows)) dN155 = true := by kernel_rfl
theorem oN155 : EntDOk Tryz.prog dN155 := runD_ok tabA7_ok rN155
theorem rN198 : chkD (runD tabA7 dN198.f dN198.args (clE dN198.rows)) dN198 = true := by kernel_rfl
theorem oN198 : EntDOk Tryz.prog dN198 := runD_ok tabA7_ok rN198
theorem rN245 : chkD (runD tabA7 dN245.f dN245.args (clE dN245.rows)) dN245 = true := by kernel_rfl
theorem oN245 : EntDOk Tryz.prog dN245 := runD_ok tabA7_ok rN245
theorem rN127 : chkD (runD tabA7 dN127.f dN127.args (clE dN127.rows)) dN127 = true := by kernel_rfl
theorem oN127 : EntDOk Tryz.prog dN127 := runD_ok tabA7_ok rN127
theorem rN206 : chkD (runD tabA7 dN206.f dN206.args (clE dN206.rows)) dN206 = true := by kernel_rfl
theorem oN206 : EntDOk Tryz.prog dN206 := runD_ok tabA7_ok rN206
theorem rN61 : chkD (runD tabA7 dN61.f dN61.args (clE dN61.rows)) dN61 = true := by kernel_rfl
theorem oN61 : EntDOk Tryz.prog dN61 := runD_ok tabA7_ok rN61
theorem rN195 : chkD (runD tabA7 dN195.f dN195.args (clE dN195.rows)) dN195 = true := by kernel_rfl
theorem oN195 : EntDOk Tryz.prog dN195 := runD_ok tabA7_ok rN195
theorem rN242 : chkD (runD tabA7 dN242.f dN242.args (clE dN242.rows)) dN242 = true := by kernel_rfl
theorem oN242 : EntDOk Tryz.prog dN242 := runD_ok tabA7_ok rN242
theorem rN47 : chkD (runD tabA7 dN47.f dN47.args (clE dN47.rows)) dN47 = true := by kernel_rfl
theorem oN47 : EntDOk Tryz.prog dN47 := runD_ok tabA7_ok rN47
theorem rN106 : chkD (runD tabA7 dN106.f dN106.args (clE dN106.rows)) dN106 = true := by kernel_rfl
theorem oN106 : EntDOk Tryz.prog dN106 := runD_ok tabA7_ok rN106
theorem rN150 : chkD (runD tabA7 dN150.f dN150.args (clE dN150.rows)) dN150 = true := by kernel_rfl
theorem oN150 : EntDOk Tryz.prog dN150 := runD_ok tabA7_ok rN150
theorem rN59 : chkD (runD tabA7 dN59.f dN59.args (clE dN59.rows)) dN59 = true := by kernel_rfl
theorem oN59 : EntDOk Tryz.prog dN59 := runD_ok tabA7_ok rN59
theorem rN53 : chkD (runD tabA7 dN53.f dN53.args (clE dN53.rows)) dN53 = true := by kernel_rfl
theorem oN53 : EntDOk Tryz.prog dN53 := runD_ok tabA7_ok rN53
theorem rN40 : chkD (runD tabA7 dN40.f dN40.args (clE dN40.rows)) dN40 = true := by kernel_rfl
theorem oN40 : EntDOk Tryz.prog dN40 := runD_ok tabA7_ok rN40
theorem rN118 : chkD (runD tabA7 dN118.f dN118.args (clE dN118.rows)) dN118 = true := by kernel_rfl
theorem oN118 : EntDOk Tryz.prog dN118 := runD_ok tabA7_ok rN118
theorem rN128 : chkD (runD tabA7 dN128.f dN128.args (clE dN128.rows)) dN128 = true := by kernel_rfl
theorem oN128 : EntDOk Tryz.prog dN128 := runD_ok tabA7_ok rN128
theorem rN236 : chkD (runD tabA7 dN236.f dN236.args (clE dN236.rows)) dN236 = true := by kernel_rfl
theorem oN236 : EntDOk Tryz.prog dN236 := runD_ok tabA7_ok rN236
end Go.Proofs.YtllfnhapnndngaaGreatDoor.E
