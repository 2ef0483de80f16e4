/- Known calls in ValidateLongest: the runs, level 2. -/
import Derived.Test.YtllfnhapnndngaaGreatDoorVL1t
namespace Go.Proofs.YtllfnhapnndngaaGreatDoor.E
open Go Go.Proofs
set_option maxRecDepth 1000000
theorem rL53 : chkD (runD tabL1 dL53.f dL53.args (clE dL53.rows)) dL53 = true := by kernel_rfl
theorem oL53 : EntDOk Tryz.prog dL53 := runD_ok tabL1_ok rL53
theorem rL132 : chkD (runD tabL1 dL132.f dL132.args (clE dL132.rows)) dL132 = true := by kernel_rfl
theorem oL132 : EntDOk Tryz.prog dL132 := runD_ok tabL1_ok rL132
theorem rL146 : chkD (runD tabL1 dL146.f dL146.args (clE dL146.rows)) dL146 = true := by kernel_rfl
theorem oL146 : EntDOk Tryz.prog dL146 := runD_ok tabL1_ok rL146
theorem rL200 : chkD (runD tabL1 dL200.f dL200.args (clE dL200.rows)) dL200 = true := by kernel_rfl
theorem oL200 : EntDOk Tryz.prog dL200 := runD_ok tabL1_ok rL200
theorem rL206 : chkD (runD tabL1 dL206.f dL206.args (clE dL206.rows)) dL206 = true := by kernel_rfl
theorem oL206 : EntDOk Tryz.prog dL206 := runD_ok tabL1_ok rL206
theorem rL224 : chkD (runD tabL1 dL224.f dL224.args (clE dL224.rows)) dL224 = true := by kernel_rfl
theorem oL224 : EntDOk Tryz.prog dL224 := runD_ok tabL1_ok rL224
theorem rL181 : chkD (runD tabL1 dL181.f dL181.args (clE dL181.rows)) dL181 = true := by kernel_rfl
theorem oL181 : EntDOk Tryz.prog dL181 := runD_ok tabL1_ok rL181
theorem rL173 : chkD (runD tabL1 dL173.f dL173.args (clE dL173.rows)) dL173 = true := by kernel_rfl
theorem oL173 : EntDOk Tryz.prog dL173 := runD_ok tabL1_ok rL173
theorem rL39 : chkD (runD tabL1 dL39.f dL39.args (clE dL39.rows)) dL39 = true := by kernel_rfl
theorem oL39 : EntDOk Tryz.prog dL39 := runD_ok tabL1_ok rL39
theorem rL75 : chkD (runD tabL1 dL75.f dL75.args (clE dL75.rows)) dL75 = true := by kernel_rfl
theorem oL75 : EntDOk Tryz.prog dL75 := runD_ok tabL1_ok rL75
theorem rL68 : chkD (runD tabL1 dL68.f dL68.args (clE dL68.rows)) dL68 = true := by kernel_rfl
theorem oL68 : EntDOk Tryz.prog dL68 := runD_ok tabL1_ok rL68
theorem rL168 : chkD (runD tabL1 dL168.f dL168.args (clE dL168.rows)) dL168 = true := by kernel_rfl
theorem oL168 : EntDOk Tryz.prog dL168 := runD_ok tabL1_ok rL168
theorem rL54 : chkD (runD tabL1 dL54.f dL54.args (clE dL54.rows)) dL54 = true := by kernel_rfl
theorem oL54 : EntDOk Tryz.prog dL54 := runD_ok tabL1_ok rL54
theorem rL96 : chkD (runD tabL1 dL96.f dL96.args (clE dL96.rows)) dL96 = true := by kernel_rfl
theorem oL96 : EntDOk Tryz.prog dL96 := runD_ok tabL1_ok rL96
theorem rL147 : chkD (runD tabL1 dL147.f dL147.args (clE dL147.rows)) dL147 = true := by kernel_rfl
theorem oL147 : EntDOk Tryz.prog dL147 := runD_ok tabL1_ok rL147
theorem rL110 : chkD (runD tabL1 dL110.f dL110.args (clE dL110.rows)) dL110 = true := by kernel_rfl
theorem oL110 : EntDOk Tryz.prog dL110 := runD_ok tabL1_ok rL110
theorem rL122 : chkD (runD tabL1 dL122.f dL122.args (clE dL122.rows)) dL122 = true := by kernel_rfl
theorem oL122 : EntDOk Tryz.prog dL122 := runD_ok tabL1_ok rL122
theorem rL242 : chkD (runD tabL1 dL242.f dL242.args (clE dL242.rows)) dL242 = true := by kernel_rfl
theorem oL242 : EntDOk Tryz.prog dL242 := runD_ok tabL1_ok rL242
theorem rL249 : chkD (runD tabL1 dL249.f dL249.args (clE dL249.rows)) dL249 = true := by kernel_rfl
theorem oL249 : EntDOk Tryz.prog dL249 := runD_ok tabL1_ok rL249
theorem rL45 : chkD (runD tabL1 dL45.f dL45.args (clE dL45.rows)) dL45 = true := by kernel_rfl
theorem oL45 : EntDOk Tryz.prog dL45 := runD_ok tabL1_ok rL45
theorem rL93 : chkD (runD tabL1 dL93.f dL93.args (clE dL93.rows)) dL93 = true := by kernel_rfl
theorem oL93 : EntDOk Tryz.prog dL93 := runD_ok tabL1_ok rL93
theorem rL226 : chkD (runD tabL1 dL226.f dL226.args (clE dL226.rows)) dL226 = true := by kernel_rfl
theorem oL226 : EntDOk Tryz.prog dL226 := runD_ok tabL1_ok rL226
theorem rL32 : chkD (runD tabL1 dL32.f dL32.args (clE dL32.rows)) dL32 = true := by kernel_rfl
theorem oL32 : EntDOk Tryz.prog dL32 := runD_ok tabL1_ok rL32
theorem rL10 : chkD (runD tabL1 dL10.f dL10.args (clE dL10.rows)) dL10 = true := by kernel_rfl
theorem oL10 : EntDOk Tryz.prog dL10 := runD_ok tabL1_ok rL10
theorem rL5 : chkD (runD tabL1 dL5.f dL5.args (clE dL5.rows)) dL5 = true := by kernel_rfl
theorem oL5 : EntDOk Tryz.prog dL5 := runD_ok tabL1_ok rL5
end Go.Proofs.YtllfnhapnndngaaGreatDoor.E
