/- Known calls in ValidateLongest: the runs, level 4. -/
import Derived.Test.YtllfnhapnndngaaGreatDoorVL2t
namespace Go.Proofs.YtllfnhapnndngaaGreatDoor.E
open Go Go.Proofs
set_option maxRecDepth 1000000
theorem rL252 : chkD (runD tabL3 dL252.f dL252.args (clE dL252.rows)) dL252 = true := by kernel_rfl
theorem oL252 : EntDOk Tryz.prog dL252 := runD_ok tabL3_ok rL252
theorem rL255 : chkD (runD tabL3 dL255.f dL255.args (clE dL255.rows)) dL255 = true := by kernel_rfl
theorem oL255 : EntDOk Tryz.prog dL255 := runD_ok tabL3_ok rL255
theorem rL40 : chkD (runD tabL3 dL40.f dL40.args (clE dL40.rows)) dL40 = true := by kernel_rfl
theorem oL40 : EntDOk Tryz.prog dL40 := runD_ok tabL3_ok rL40
theorem rL131 : chkD (runD tabL3 dL131.f dL131.args (clE dL131.rows)) dL131 = true := by kernel_rfl
theorem oL131 : EntDOk Tryz.prog dL131 := runD_ok tabL3_ok rL131
theorem rL157 : chkD (runD tabL3 dL157.f dL157.args (clE dL157.rows)) dL157 = true := by kernel_rfl
theorem oL157 : EntDOk Tryz.prog dL157 := runD_ok tabL3_ok rL157
theorem rL194 : chkD (runD tabL3 dL194.f dL194.args (clE dL194.rows)) dL194 = true := by kernel_rfl
theorem oL194 : EntDOk Tryz.prog dL194 := runD_ok tabL3_ok rL194
theorem rL208 : chkD (runD tabL3 dL208.f dL208.args (clE dL208.rows)) dL208 = true := by kernel_rfl
theorem oL208 : EntDOk Tryz.prog dL208 := runD_ok tabL3_ok rL208
theorem rL99 : chkD (runD tabL3 dL99.f dL99.args (clE dL99.rows)) dL99 = true := by kernel_rfl
theorem oL99 : EntDOk Tryz.prog dL99 := runD_ok tabL3_ok rL99
theorem rL47 : chkD (runD tabL3 dL47.f dL47.args (clE dL47.rows)) dL47 = true := by kernel_rfl
theorem oL47 : EntDOk Tryz.prog dL47 := runD_ok tabL3_ok rL47
theorem rL124 : chkD (runD tabL3 dL124.f dL124.args (clE dL124.rows)) dL124 = true := by kernel_rfl
theorem oL124 : EntDOk Tryz.prog dL124 := runD_ok tabL3_ok rL124
theorem rL148 : chkD (runD tabL3 dL148.f dL148.args (clE dL148.rows)) dL148 = true := by kernel_rfl
theorem oL148 : EntDOk Tryz.prog dL148 := runD_ok tabL3_ok rL148
end Go.Proofs.YtllfnhapnndngaaGreatDoor.E
