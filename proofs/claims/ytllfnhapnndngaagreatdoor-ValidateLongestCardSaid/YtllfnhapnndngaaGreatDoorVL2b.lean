/- Known calls in ValidateLongest: the runs, level 2. -/
import Derived.Test.YtllfnhapnndngaaGreatDoorVL1t
namespace Go.Proofs.YtllfnhapnndngaaGreatDoor.E
open Go Go.Proofs
set_option maxRecDepth 1000000
theorem rL41 : chkD (runD tabL1 dL41.f dL41.args (clE dL41.rows)) dL41 = true := by kernel_rfl
theorem oL41 : EntDOk Tryz.prog dL41 := runD_ok tabL1_ok rL41
theorem rL77 : chkD (runD tabL1 dL77.f dL77.args (clE dL77.rows)) dL77 = true := by kernel_rfl
theorem oL77 : EntDOk Tryz.prog dL77 := runD_ok tabL1_ok rL77
theorem rL140 : chkD (runD tabL1 dL140.f dL140.args (clE dL140.rows)) dL140 = true := by kernel_rfl
theorem oL140 : EntDOk Tryz.prog dL140 := runD_ok tabL1_ok rL140
theorem rL158 : chkD (runD tabL1 dL158.f dL158.args (clE dL158.rows)) dL158 = true := by kernel_rfl
theorem oL158 : EntDOk Tryz.prog dL158 := runD_ok tabL1_ok rL158
theorem rL218 : chkD (runD tabL1 dL218.f dL218.args (clE dL218.rows)) dL218 = true := by kernel_rfl
theorem oL218 : EntDOk Tryz.prog dL218 := runD_ok tabL1_ok rL218
theorem rL106 : chkD (runD tabL1 dL106.f dL106.args (clE dL106.rows)) dL106 = true := by kernel_rfl
theorem oL106 : EntDOk Tryz.prog dL106 := runD_ok tabL1_ok rL106
theorem rL176 : chkD (runD tabL1 dL176.f dL176.args (clE dL176.rows)) dL176 = true := by kernel_rfl
theorem oL176 : EntDOk Tryz.prog dL176 := runD_ok tabL1_ok rL176
theorem rL22 : chkD (runD tabL1 dL22.f dL22.args (clE dL22.rows)) dL22 = true := by kernel_rfl
theorem oL22 : EntDOk Tryz.prog dL22 := runD_ok tabL1_ok rL22
theorem rL12 : chkD (runD tabL1 dL12.f dL12.args (clE dL12.rows)) dL12 = true := by kernel_rfl
theorem oL12 : EntDOk Tryz.prog dL12 := runD_ok tabL1_ok rL12
theorem rL51 : chkD (runD tabL1 dL51.f dL51.args (clE dL51.rows)) dL51 = true := by kernel_rfl
theorem oL51 : EntDOk Tryz.prog dL51 := runD_ok tabL1_ok rL51
theorem rL2 : chkD (runD tabL1 dL2.f dL2.args (clE dL2.rows)) dL2 = true := by kernel_rfl
theorem oL2 : EntDOk Tryz.prog dL2 := runD_ok tabL1_ok rL2
theorem rL102 : chkD (runD tabL1 dL102.f dL102.args (clE dL102.rows)) dL102 = true := by kernel_rfl
theorem oL102 : EntDOk Tryz.prog dL102 := runD_ok tabL1_ok rL102
theorem rL42 : chkD (runD tabL1 dL42.f dL42.args (clE dL42.rows)) dL42 = true := by kernel_rfl
theorem oL42 : EntDOk Tryz.prog dL42 := runD_ok tabL1_ok rL42
theorem rL78 : chkD (runD tabL1 dL78.f dL78.args (clE dL78.rows)) dL78 = true := by kernel_rfl
theorem oL78 : EntDOk Tryz.prog dL78 := runD_ok tabL1_ok rL78
theorem rL141 : chkD (runD tabL1 dL141.f dL141.args (clE dL141.rows)) dL141 = true := by kernel_rfl
theorem oL141 : EntDOk Tryz.prog dL141 := runD_ok tabL1_ok rL141
theorem rL159 : chkD (runD tabL1 dL159.f dL159.args (clE dL159.rows)) dL159 = true := by kernel_rfl
theorem oL159 : EntDOk Tryz.prog dL159 := runD_ok tabL1_ok rL159
theorem rL119 : chkD (runD tabL1 dL119.f dL119.args (clE dL119.rows)) dL119 = true := by kernel_rfl
theorem oL119 : EntDOk Tryz.prog dL119 := runD_ok tabL1_ok rL119
theorem rL199 : chkD (runD tabL1 dL199.f dL199.args (clE dL199.rows)) dL199 = true := by kernel_rfl
theorem oL199 : EntDOk Tryz.prog dL199 := runD_ok tabL1_ok rL199
theorem rL248 : chkD (runD tabL1 dL248.f dL248.args (clE dL248.rows)) dL248 = true := by kernel_rfl
theorem oL248 : EntDOk Tryz.prog dL248 := runD_ok tabL1_ok rL248
theorem rL33 : chkD (runD tabL1 dL33.f dL33.args (clE dL33.rows)) dL33 = true := by kernel_rfl
theorem oL33 : EntDOk Tryz.prog dL33 := runD_ok tabL1_ok rL33
theorem rL69 : chkD (runD tabL1 dL69.f dL69.args (clE dL69.rows)) dL69 = true := by kernel_rfl
theorem oL69 : EntDOk Tryz.prog dL69 := runD_ok tabL1_ok rL69
theorem rL160 : chkD (runD tabL1 dL160.f dL160.args (clE dL160.rows)) dL160 = true := by kernel_rfl
theorem oL160 : EntDOk Tryz.prog dL160 := runD_ok tabL1_ok rL160
theorem rL79 : chkD (runD tabL1 dL79.f dL79.args (clE dL79.rows)) dL79 = true := by kernel_rfl
theorem oL79 : EntDOk Tryz.prog dL79 := runD_ok tabL1_ok rL79
theorem rL90 : chkD (runD tabL1 dL90.f dL90.args (clE dL90.rows)) dL90 = true := by kernel_rfl
theorem oL90 : EntDOk Tryz.prog dL90 := runD_ok tabL1_ok rL90
theorem rL183 : chkD (runD tabL1 dL183.f dL183.args (clE dL183.rows)) dL183 = true := by kernel_rfl
theorem oL183 : EntDOk Tryz.prog dL183 := runD_ok tabL1_ok rL183
end Go.Proofs.YtllfnhapnndngaaGreatDoor.E
