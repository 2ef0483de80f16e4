/- Known calls in ValidateLongest: the runs, level 1. -/
import Derived.Test.YtllfnhapnndngaaGreatDoorVLE1
namespace Go.Proofs.YtllfnhapnndngaaGreatDoor.E
open Go Go.Proofs
set_option maxRecDepth 1000000
theorem rL20 : chkD (runD tabA7 dL20.f dL20.args (clE dL20.rows)) dL20 = true := by kernel_rfl
theorem oL20 : EntDOk Tryz.prog dL20 := runD_ok tabA7_ok rL20
theorem rL48 : chkD (runD tabA7 dL48.f dL48.args (clE dL48.rows)) dL48 = true := by kernel_rfl
theorem oL48 : EntDOk Tryz.prog dL48 := runD_ok tabA7_ok rL48
theorem rL85 : chkD (runD tabA7 dL85.f dL85.args (clE dL85.rows)) dL85 = true := by kernel_rfl
theorem oL85 : EntDOk Tryz.prog dL85 := runD_ok tabA7_ok rL85
theorem rL129 : chkD (runD tabA7 dL129.f dL129.args (clE dL129.rows)) dL129 = true := by kernel_rfl
theorem oL129 : EntDOk Tryz.prog dL129 := runD_ok tabA7_ok rL129
theorem rL149 : chkD (runD tabA7 dL149.f dL149.args (clE dL149.rows)) dL149 = true := by kernel_rfl
theorem oL149 : EntDOk Tryz.prog dL149 := runD_ok tabA7_ok rL149
theorem rL171 : chkD (runD tabA7 dL171.f dL171.args (clE dL171.rows)) dL171 = true := by kernel_rfl
theorem oL171 : EntDOk Tryz.prog dL171 := runD_ok tabA7_ok rL171
theorem rL209 : chkD (runD tabA7 dL209.f dL209.args (clE dL209.rows)) dL209 = true := by kernel_rfl
theorem oL209 : EntDOk Tryz.prog dL209 := runD_ok tabA7_ok rL209
theorem rL228 : chkD (runD tabA7 dL228.f dL228.args (clE dL228.rows)) dL228 = true := by kernel_rfl
theorem oL228 : EntDOk Tryz.prog dL228 := runD_ok tabA7_ok rL228
theorem rL14 : chkD (runD tabA7 dL14.f dL14.args (clE dL14.rows)) dL14 = true := by kernel_rfl
theorem oL14 : EntDOk Tryz.prog dL14 := runD_ok tabA7_ok rL14
theorem rL92 : chkD (runD tabA7 dL92.f dL92.args (clE dL92.rows)) dL92 = true := by kernel_rfl
theorem oL92 : EntDOk Tryz.prog dL92 := runD_ok tabA7_ok rL92
theorem rL28 : chkD (runD tabA7 dL28.f dL28.args (clE dL28.rows)) dL28 = true := by kernel_rfl
theorem oL28 : EntDOk Tryz.prog dL28 := runD_ok tabA7_ok rL28
theorem rL23 : chkD (runD tabA7 dL23.f dL23.args (clE dL23.rows)) dL23 = true := by kernel_rfl
theorem oL23 : EntDOk Tryz.prog dL23 := runD_ok tabA7_ok rL23
theorem rL9 : chkD (runD tabA7 dL9.f dL9.args (clE dL9.rows)) dL9 = true := by kernel_rfl
theorem oL9 : EntDOk Tryz.prog dL9 := runD_ok tabA7_ok rL9
theorem rL49 : chkD (runD tabA7 dL49.f dL49.args (clE dL49.rows)) dL49 = true := by kernel_rfl
theorem oL49 : EntDOk Tryz.prog dL49 := runD_ok tabA7_ok rL49
theorem rL86 : chkD (runD tabA7 dL86.f dL86.args (clE dL86.rows)) dL86 = true := by kernel_rfl
theorem oL86 : EntDOk Tryz.prog dL86 := runD_ok tabA7_ok rL86
theorem rL130 : chkD (runD tabA7 dL130.f dL130.args (clE dL130.rows)) dL130 = true := by kernel_rfl
theorem oL130 : EntDOk Tryz.prog dL130 := runD_ok tabA7_ok rL130
theorem rL150 : chkD (runD tabA7 dL150.f dL150.args (clE dL150.rows)) dL150 = true := by kernel_rfl
theorem oL150 : EntDOk Tryz.prog dL150 := runD_ok tabA7_ok rL150
theorem rL172 : chkD (runD tabA7 dL172.f dL172.args (clE dL172.rows)) dL172 = true := by kernel_rfl
theorem oL172 : EntDOk Tryz.prog dL172 := runD_ok tabA7_ok rL172
theorem rL210 : chkD (runD tabA7 dL210.f dL210.args (clE dL210.rows)) dL210 = true := by kernel_rfl
theorem oL210 : EntDOk Tryz.prog dL210 := runD_ok tabA7_ok rL210
theorem rL229 : chkD (runD tabA7 dL229.f dL229.args (clE dL229.rows)) dL229 = true := by kernel_rfl
theorem oL229 : EntDOk Tryz.prog dL229 := runD_ok tabA7_ok rL229
theorem rL1 : chkD (runD tabA7 dL1.f dL1.args (clE dL1.rows)) dL1 = true := by kernel_rfl
theorem oL1 : EntDOk Tryz.prog dL1 := runD_ok tabA7_ok rL1
theorem rL55 : chkD (runD tabA7 dL55.f dL55.args (clE dL55.rows)) dL55 = true := by kernel_rfl
theorem oL55 : EntDOk Tryz.prog dL55 := runD_ok tabA7_ok rL55
theorem rL18 : chkD (runD tabA7 dL18.f dL18.args (clE dL18.rows)) dL18 = true := by kernel_rfl
theorem oL18 : EntDOk Tryz.prog dL18 := runD_ok tabA7_ok rL18
theorem rL0 : chkD (runD tabA7 dL0.f dL0.args (clE dL0.rows)) dL0 = true := by kernel_rfl
theorem oL0 : EntDOk Tryz.prog dL0 := runD_ok tabA7_ok rL0
theorem rL213 : chkD (runD tabA7 dL213.f dL213.args (clE dL213.rows)) dL213 = true := by kernel_rfl
theorem oL213 : EntDOk Tryz.prog dL213 := runD_ok tabA7_ok rL213
theorem rL179 : chkD (runD tabA7 dL179.f dL179.args (clE dL179.rows)) dL179 = true := by kernel_rfl
theorem oL179 : EntDOk Tryz.prog dL179 := runD_ok tabA7_ok rL179
theorem rL192 : chkD (runD tabA7 dL192.f dL192.args (clE dL192.rows)) dL192 = true := by kernel_rfl
theorem oL192 : EntDOk Tryz.prog dL192 := runD_ok tabA7_ok rL192
theorem rL244 : chkD (runD tabA7 dL244.f dL244.args (clE dL244.rows)) dL244 = true := by kernel_rfl
theorem oL244 : EntDOk Tryz.prog dL244 := runD_ok tabA7_ok rL244
theorem rL82 : chkD (runD tabA7 dL82.f dL82.args (clE dL82.rows)) dL82 = true := by kernel_rfl
theorem oL82 : EntDOk Tryz.prog dL82 := runD_ok tabA7_ok rL82
theorem rL30 : chkD (runD tabA7 dL30.f dL30.args (clE dL30.rows)) dL30 = true := by kernel_rfl
theorem oL30 : EntDOk Tryz.prog dL30 := runD_ok tabA7_ok rL30
theorem rL241 : chkD (runD tabA7 dL241.f dL241.args (clE dL241.rows)) dL241 = true := by kernel_rfl
theorem oL241 : EntDOk Tryz.prog dL241 := runD_ok tabA7_ok rL241
end Go.Proofs.YtllfnhapnndngaaGreatDoor.E
