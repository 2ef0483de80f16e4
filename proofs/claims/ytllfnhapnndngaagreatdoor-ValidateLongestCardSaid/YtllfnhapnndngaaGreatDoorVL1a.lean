/- Known calls in ValidateLongest: the runs, level 1. -/
import Derived.Test.YtllfnhapnndngaaGreatDoorVLE1
namespace Go.Proofs.YtllfnhapnndngaaGreatDoor.E
open Go Go.Proofs
set_option maxRecDepth 1000000
theorem rL240 : chkD (runD tabA7 dL240.f dL240.args (clE dL240.rows)) dL240 = true := by kernel_rfl
theorem oL240 : EntDOk Tryz.prog dL240 := runD_ok tabA7_ok rL240
theorem rL60 : chkD (runD tabA7 dL60.f dL60.args (clE dL60.rows)) dL60 = true := by kernel_rfl
theorem oL60 : EntDOk Tryz.prog dL60 := runD_ok tabA7_ok rL60
theorem rL100 : chkD (runD tabA7 dL100.f dL100.args (clE dL100.rows)) dL100 = true := by kernel_rfl
theorem oL100 : EntDOk Tryz.prog dL100 := runD_ok tabA7_ok rL100
theorem rL137 : chkD (runD tabA7 dL137.f dL137.args (clE dL137.rows)) dL137 = true := by kernel_rfl
theorem oL137 : EntDOk Tryz.prog dL137 := runD_ok tabA7_ok rL137
theorem rL155 : chkD (runD tabA7 dL155.f dL155.args (clE dL155.rows)) dL155 = true := by kernel_rfl
theorem oL155 : EntDOk Tryz.prog dL155 := runD_ok tabA7_ok rL155
theorem rL195 : chkD (runD tabA7 dL195.f dL195.args (clE dL195.rows)) dL195 = true := by kernel_rfl
theorem oL195 : EntDOk Tryz.prog dL195 := runD_ok tabA7_ok rL195
theorem rL215 : chkD (runD tabA7 dL215.f dL215.args (clE dL215.rows)) dL215 = true := by kernel_rfl
theorem oL215 : EntDOk Tryz.prog dL215 := runD_ok tabA7_ok rL215
theorem rL233 : chkD (runD tabA7 dL233.f dL233.args (clE dL233.rows)) dL233 = true := by kernel_rfl
theorem oL233 : EntDOk Tryz.prog dL233 := runD_ok tabA7_ok rL233
theorem rL165 : chkD (runD tabA7 dL165.f dL165.args (clE dL165.rows)) dL165 = true := by kernel_rfl
theorem oL165 : EntDOk Tryz.prog dL165 := runD_ok tabA7_ok rL165
theorem rL111 : chkD (runD tabA7 dL111.f dL111.args (clE dL111.rows)) dL111 = true := by kernel_rfl
theorem oL111 : EntDOk Tryz.prog dL111 := runD_ok tabA7_ok rL111
theorem rL104 : chkD (runD tabA7 dL104.f dL104.args (clE dL104.rows)) dL104 = true := by kernel_rfl
theorem oL104 : EntDOk Tryz.prog dL104 := runD_ok tabA7_ok rL104
theorem rL21 : chkD (runD tabA7 dL21.f dL21.args (clE dL21.rows)) dL21 = true := by kernel_rfl
theorem oL21 : EntDOk Tryz.prog dL21 := runD_ok tabA7_ok rL21
theorem rL61 : chkD (runD tabA7 dL61.f dL61.args (clE dL61.rows)) dL61 = true := by kernel_rfl
theorem oL61 : EntDOk Tryz.prog dL61 := runD_ok tabA7_ok rL61
theorem rL101 : chkD (runD tabA7 dL101.f dL101.args (clE dL101.rows)) dL101 = true := by kernel_rfl
theorem oL101 : EntDOk Tryz.prog dL101 := runD_ok tabA7_ok rL101
theorem rL138 : chkD (runD tabA7 dL138.f dL138.args (clE dL138.rows)) dL138 = true := by kernel_rfl
theorem oL138 : EntDOk Tryz.prog dL138 := runD_ok tabA7_ok rL138
theorem rL156 : chkD (runD tabA7 dL156.f dL156.args (clE dL156.rows)) dL156 = true := by kernel_rfl
theorem oL156 : EntDOk Tryz.prog dL156 := runD_ok tabA7_ok rL156
theorem rL196 : chkD (runD tabA7 dL196.f dL196.args (clE dL196.rows)) dL196 = true := by kernel_rfl
theorem oL196 : EntDOk Tryz.prog dL196 := runD_ok tabA7_ok rL196
theorem rL216 : chkD (runD tabA7 dL216.f dL216.args (clE dL216.rows)) dL216 = true := by kernel_rfl
theorem oL216 : EntDOk Tryz.prog dL216 := runD_ok tabA7_ok rL216
theorem rL234 : chkD (runD tabA7 dL234.f dL234.args (clE dL234.rows)) dL234 = true := by kernel_rfl
theorem oL234 : EntDOk Tryz.prog dL234 := runD_ok tabA7_ok rL234
theorem rL31 : chkD (runD tabA7 dL31.f dL31.args (clE dL31.rows)) dL31 = true := by kernel_rfl
theorem oL31 : EntDOk Tryz.prog dL31 := runD_ok tabA7_ok rL31
theorem rL67 : chkD (runD tabA7 dL67.f dL67.args (clE dL67.rows)) dL67 = true := by kernel_rfl
theorem oL67 : EntDOk Tryz.prog dL67 := runD_ok tabA7_ok rL67
theorem rL98 : chkD (runD tabA7 dL98.f dL98.args (clE dL98.rows)) dL98 = true := by kernel_rfl
theorem oL98 : EntDOk Tryz.prog dL98 := runD_ok tabA7_ok rL98
theorem rL201 : chkD (runD tabA7 dL201.f dL201.args (clE dL201.rows)) dL201 = true := by kernel_rfl
theorem oL201 : EntDOk Tryz.prog dL201 := runD_ok tabA7_ok rL201
theorem rL219 : chkD (runD tabA7 dL219.f dL219.args (clE dL219.rows)) dL219 = true := by kernel_rfl
theorem oL219 : EntDOk Tryz.prog dL219 := runD_ok tabA7_ok rL219
theorem rL186 : chkD (runD tabA7 dL186.f dL186.args (clE dL186.rows)) dL186 = true := by kernel_rfl
theorem oL186 : EntDOk Tryz.prog dL186 := runD_ok tabA7_ok rL186
theorem rL251 : chkD (runD tabA7 dL251.f dL251.args (clE dL251.rows)) dL251 = true := by kernel_rfl
theorem oL251 : EntDOk Tryz.prog dL251 := runD_ok tabA7_ok rL251
theorem rL247 : chkD (runD tabA7 dL247.f dL247.args (clE dL247.rows)) dL247 = true := by kernel_rfl
theorem oL247 : EntDOk Tryz.prog dL247 := runD_ok tabA7_ok rL247
theorem rL182 : chkD (runD tabA7 dL182.f dL182.args (clE dL182.rows)) dL182 = true := by kernel_rfl
theorem oL182 : EntDOk Tryz.prog dL182 := runD_ok tabA7_ok rL182
theorem rL107 : chkD (runD tabA7 dL107.f dL107.args (clE dL107.rows)) dL107 = true := by kernel_rfl
theorem oL107 : EntDOk Tryz.prog dL107 := runD_ok tabA7_ok rL107
theorem rL16 : chkD (runD tabA7 dL16.f dL16.args (clE dL16.rows)) dL16 = true := by kernel_rfl
theorem oL16 : EntDOk Tryz.prog dL16 := runD_ok tabA7_ok rL16
end Go.Proofs.YtllfnhapnndngaaGreatDoor.E
