/- Known calls in ValidateLongest: the runs, level 2. -/
import Derived.Test.YtllfnhapnndngaaGreatDoorVL1t
namespace Go.Proofs.YtllfnhapnndngaaGreatDoor.E
open Go Go.Proofs
set_option maxRecDepth 1000000
theorem rL26 : chkD (runD tabL1 dL26.f dL26.args (clE dL26.rows)) dL26 = true := by kernel_rfl
theorem oL26 : EntDOk Tryz.prog dL26 := runD_ok tabL1_ok rL26
theorem rL65 : chkD (runD tabL1 dL65.f dL65.args (clE dL65.rows)) dL65 = true := by kernel_rfl
theorem oL65 : EntDOk Tryz.prog dL65 := runD_ok tabL1_ok rL65
theorem rL134 : chkD (runD tabL1 dL134.f dL134.args (clE dL134.rows)) dL134 = true := by kernel_rfl
theorem oL134 : EntDOk Tryz.prog dL134 := runD_ok tabL1_ok rL134
theorem rL152 : chkD (runD tabL1 dL152.f dL152.args (clE dL152.rows)) dL152 = true := by kernel_rfl
theorem oL152 : EntDOk Tryz.prog dL152 := runD_ok tabL1_ok rL152
theorem rL212 : chkD (runD tabL1 dL212.f dL212.args (clE dL212.rows)) dL212 = true := by kernel_rfl
theorem oL212 : EntDOk Tryz.prog dL212 := runD_ok tabL1_ok rL212
theorem rL29 : chkD (runD tabL1 dL29.f dL29.args (clE dL29.rows)) dL29 = true := by kernel_rfl
theorem oL29 : EntDOk Tryz.prog dL29 := runD_ok tabL1_ok rL29
theorem rL112 : chkD (runD tabL1 dL112.f dL112.args (clE dL112.rows)) dL112 = true := by kernel_rfl
theorem oL112 : EntDOk Tryz.prog dL112 := runD_ok tabL1_ok rL112
theorem rL236 : chkD (runD tabL1 dL236.f dL236.args (clE dL236.rows)) dL236 = true := by kernel_rfl
theorem oL236 : EntDOk Tryz.prog dL236 := runD_ok tabL1_ok rL236
theorem rL63 : chkD (runD tabL1 dL63.f dL63.args (clE dL63.rows)) dL63 = true := by kernel_rfl
theorem oL63 : EntDOk Tryz.prog dL63 := runD_ok tabL1_ok rL63
theorem rL56 : chkD (runD tabL1 dL56.f dL56.args (clE dL56.rows)) dL56 = true := by kernel_rfl
theorem oL56 : EntDOk Tryz.prog dL56 := runD_ok tabL1_ok rL56
theorem rL17 : chkD (runD tabL1 dL17.f dL17.args (clE dL17.rows)) dL17 = true := by kernel_rfl
theorem oL17 : EntDOk Tryz.prog dL17 := runD_ok tabL1_ok rL17
theorem rL27 : chkD (runD tabL1 dL27.f dL27.args (clE dL27.rows)) dL27 = true := by kernel_rfl
theorem oL27 : EntDOk Tryz.prog dL27 := runD_ok tabL1_ok rL27
theorem rL66 : chkD (runD tabL1 dL66.f dL66.args (clE dL66.rows)) dL66 = true := by kernel_rfl
theorem oL66 : EntDOk Tryz.prog dL66 := runD_ok tabL1_ok rL66
theorem rL135 : chkD (runD tabL1 dL135.f dL135.args (clE dL135.rows)) dL135 = true := by kernel_rfl
theorem oL135 : EntDOk Tryz.prog dL135 := runD_ok tabL1_ok rL135
theorem rL153 : chkD (runD tabL1 dL153.f dL153.args (clE dL153.rows)) dL153 = true := by kernel_rfl
theorem oL153 : EntDOk Tryz.prog dL153 := runD_ok tabL1_ok rL153
theorem rL116 : chkD (runD tabL1 dL116.f dL116.args (clE dL116.rows)) dL116 = true := by kernel_rfl
theorem oL116 : EntDOk Tryz.prog dL116 := runD_ok tabL1_ok rL116
theorem rL133 : chkD (runD tabL1 dL133.f dL133.args (clE dL133.rows)) dL133 = true := by kernel_rfl
theorem oL133 : EntDOk Tryz.prog dL133 := runD_ok tabL1_ok rL133
theorem rL245 : chkD (runD tabL1 dL245.f dL245.args (clE dL245.rows)) dL245 = true := by kernel_rfl
theorem oL245 : EntDOk Tryz.prog dL245 := runD_ok tabL1_ok rL245
theorem rL4 : chkD (runD tabL1 dL4.f dL4.args (clE dL4.rows)) dL4 = true := by kernel_rfl
theorem oL4 : EntDOk Tryz.prog dL4 := runD_ok tabL1_ok rL4
theorem rL57 : chkD (runD tabL1 dL57.f dL57.args (clE dL57.rows)) dL57 = true := by kernel_rfl
theorem oL57 : EntDOk Tryz.prog dL57 := runD_ok tabL1_ok rL57
theorem rL166 : chkD (runD tabL1 dL166.f dL166.args (clE dL166.rows)) dL166 = true := by kernel_rfl
theorem oL166 : EntDOk Tryz.prog dL166 := runD_ok tabL1_ok rL166
theorem rL15 : chkD (runD tabL1 dL15.f dL15.args (clE dL15.rows)) dL15 = true := by kernel_rfl
theorem oL15 : EntDOk Tryz.prog dL15 := runD_ok tabL1_ok rL15
theorem rL44 : chkD (runD tabL1 dL44.f dL44.args (clE dL44.rows)) dL44 = true := by kernel_rfl
theorem oL44 : EntDOk Tryz.prog dL44 := runD_ok tabL1_ok rL44
theorem rL81 : chkD (runD tabL1 dL81.f dL81.args (clE dL81.rows)) dL81 = true := by kernel_rfl
theorem oL81 : EntDOk Tryz.prog dL81 := runD_ok tabL1_ok rL81
theorem rL95 : chkD (runD tabL1 dL95.f dL95.args (clE dL95.rows)) dL95 = true := by kernel_rfl
theorem oL95 : EntDOk Tryz.prog dL95 := runD_ok tabL1_ok rL95
end Go.Proofs.YtllfnhapnndngaaGreatDoor.E
