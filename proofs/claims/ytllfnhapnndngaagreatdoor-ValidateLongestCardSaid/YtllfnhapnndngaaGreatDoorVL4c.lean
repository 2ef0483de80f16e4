/- Known calls in ValidateLongest: the runs, level 4. -/
import Derived.Test.YtllfnhapnndngaaGreatDoorVL2t
namespace Go.Proofs.YtllfnhapnndngaaGreatDoor.E
open Go Go.Proofs
set_option maxRecDepth 1000000
theorem rL253 : chkD (runD tabL3 dL253.f dL253.args (clE dL253.rows)) dL253 = true := by kernel_rfl
theorem oL253 : EntDOk Tryz.prog dL253 := runD_ok tabL3_ok rL253
theorem rL197 : chkD (runD tabL3 dL197.f dL197.args (clE dL197.rows)) dL197 = true := by kernel_rfl
theorem oL197 : EntDOk Tryz.prog dL197 := runD_ok tabL3_ok rL197
theorem rL217 : chkD (runD tabL3 dL217.f dL217.args (clE dL217.rows)) dL217 = true := by kernel_rfl
theorem oL217 : EntDOk Tryz.prog dL217 := runD_ok tabL3_ok rL217
theorem rL52 : chkD (runD tabL3 dL52.f dL52.args (clE dL52.rows)) dL52 = true := by kernel_rfl
theorem oL52 : EntDOk Tryz.prog dL52 := runD_ok tabL3_ok rL52
theorem rL139 : chkD (runD tabL3 dL139.f dL139.args (clE dL139.rows)) dL139 = true := by kernel_rfl
theorem oL139 : EntDOk Tryz.prog dL139 := runD_ok tabL3_ok rL139
theorem rL105 : chkD (runD tabL3 dL105.f dL105.args (clE dL105.rows)) dL105 = true := by kernel_rfl
theorem oL105 : EntDOk Tryz.prog dL105 := runD_ok tabL3_ok rL105
theorem rL220 : chkD (runD tabL3 dL220.f dL220.args (clE dL220.rows)) dL220 = true := by kernel_rfl
theorem oL220 : EntDOk Tryz.prog dL220 := runD_ok tabL3_ok rL220
theorem rL7 : chkD (runD tabL3 dL7.f dL7.args (clE dL7.rows)) dL7 = true := by kernel_rfl
theorem oL7 : EntDOk Tryz.prog dL7 := runD_ok tabL3_ok rL7
theorem rL71 : chkD (runD tabL3 dL71.f dL71.args (clE dL71.rows)) dL71 = true := by kernel_rfl
theorem oL71 : EntDOk Tryz.prog dL71 := runD_ok tabL3_ok rL71
theorem rL136 : chkD (runD tabL3 dL136.f dL136.args (clE dL136.rows)) dL136 = true := by kernel_rfl
theorem oL136 : EntDOk Tryz.prog dL136 := runD_ok tabL3_ok rL136
theorem rL88 : chkD (runD tabL3 dL88.f dL88.args (clE dL88.rows)) dL88 = true := by kernel_rfl
theorem oL88 : EntDOk Tryz.prog dL88 := runD_ok tabL3_ok rL88
end Go.Proofs.YtllfnhapnndngaaGreatDoor.E
