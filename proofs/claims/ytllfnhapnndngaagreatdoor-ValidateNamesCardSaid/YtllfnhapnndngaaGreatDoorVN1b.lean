/- Known calls in ValidateNames: the runs, level 1. -/
import Derived.Test.YtllfnhapnndngaaGreatDoorVNE1
namespace Go.Proofs.YtllfnhapnndngaaGreatDoor.E
open Go Go.Proofs
set_option maxRecDepth 1000000
theorem rN52 : chkD (runD tabA7 dN52.f dN52.args (clE dN52.rows)) dN52 = true := by kernel_rfl
theorem oN52 : EntDOk Tryz.prog dN52 := runD_ok tabA7_ok rN52
theorem rN126 : chkD (runD tabA7 dN126.f dN126.args (clE dN126.rows)) dN126 = true := by kernel_rfl
theorem oN126 : EntDOk Tryz.prog dN126 := runD_ok tabA7_ok rN126
theorem rN20 : chkD (runD tabA7 dN20.f dN20.args (clE dN20.rows)) dN20 = true := by kernel_rfl
theorem oN20 : EntDOk Tryz.prog dN20 := runD_ok tabA7_ok rN20
theorem rN63 : chkD (runD tabA7 dN63.f dN63.args (clE dN63.rows)) dN63 = true := by kernel_rfl
theorem oN63 : EntDOk Tryz.prog dN63 := runD_ok tabA7_ok rN63
theorem rN100 : chkD (runD tabA7 dN100.f dN100.args (clE dN100.rows)) dN100 = true := by kernel_rfl
theorem oN100 : EntDOk Tryz.prog dN100 := runD_ok tabA7_ok rN100
theorem rN132 : chkD (runD tabA7 dN132.f dN132.args (clE dN132.rows)) dN132 = true := by kernel_rfl
theorem oN132 : EntDOk Tryz.prog dN132 := runD_ok tabA7_ok rN132
theorem rN161 : chkD (runD tabA7 dN161.f dN161.args (clE dN161.rows)) dN161 = true := by kernel_rfl
theorem oN161 : EntDOk Tryz.prog dN161 := runD_ok tabA7_ok rN161
theorem rN209 : chkD (runD tabA7 dN209.f dN209.args (clE dN209.rows)) dN209 = true := by kernel_rfl
theorem oN209 : EntDOk Tryz.prog dN209 := runD_ok tabA7_ok rN209
theorem rN269 : chkD (runD tabA7 dN269.f dN269.args (clE dN269.rows)) dN269 = true := by kernel_rfl
theorem oN269 : EntDOk Tryz.prog dN269 := runD_ok tabA7_ok rN269
theorem rN72 : chkD (runD tabA7 dN72.f dN72.args (clE dN72.rows)) dN72 = true := by kernel_rfl
theorem oN72 : EntDOk Tryz.prog dN72 := runD_ok tabA7_ok rN72
theorem rN34 : chkD (runD tabA7 dN34.f dN34.args (clE dN34.rows)) dN34 = true := by kernel_rfl
theorem oN34 : EntDOk Tryz.prog dN34 := runD_ok tabA7_ok rN34
theorem rN57 : chkD (runD tabA7 dN57.f dN57.args (clE dN57.rows)) dN57 = true := by kernel_rfl
theorem oN57 : EntDOk Tryz.prog dN57 := runD_ok tabA7_ok rN57
theorem rN43 : chkD (runD tabA7 dN43.f dN43.args (clE dN43.rows)) dN43 = true := by kernel_rfl
theorem oN43 : EntDOk Tryz.prog dN43 := runD_ok tabA7_ok rN43
theorem rN79 : chkD (runD tabA7 dN79.f dN79.args (clE dN79.rows)) dN79 = true := by kernel_rfl
theorem oN79 : EntDOk Tryz.prog dN79 := runD_ok tabA7_ok rN79
theorem rN111 : chkD (runD tabA7 dN111.f dN111.args (clE dN111.rows)) dN111 = true := by kernel_rfl
theorem oN111 : EntDOk Tryz.prog dN111 := runD_ok tabA7_ok rN111
theorem rN144 : chkD (runD tabA7 dN144.f dN144.args (clE dN144.rows)) dN144 = true := by kernel_rfl
theorem oN144 : EntDOk Tryz.prog dN144 := runD_ok tabA7_ok rN144
theorem rN176 : chkD (runD tabA7 dN176.f dN176.args (clE dN176.rows)) dN176 = true := by kernel_rfl
theorem oN176 : EntDOk Tryz.prog dN176 := runD_ok tabA7_ok rN176
theorem rN231 : chkD (runD tabA7 dN231.f dN231.args (clE dN231.rows)) dN231 = true := by kernel_rfl
theorem oN231 : EntDOk Tryz.prog dN231 := runD_ok tabA7_ok rN231
theorem rN283 : chkD (runD tabA7 dN283.f dN283.args (clE dN283.rows)) dN283 = true := by kernel_rfl
theorem oN283 : EntDOk Tryz.prog dN283 := runD_ok tabA7_ok rN283
theorem rN194 : chkD (runD tabA7 dN194.f dN194.args (clE dN194.rows)) dN194 = true := by kernel_rfl
theorem oN194 : EntDOk Tryz.prog dN194 := runD_ok tabA7_ok rN194
theorem rN159 : chkD (runD tabA7 dN159.f dN159.args (clE dN159.rows)) dN159 = true := by kernel_rfl
theorem oN159 : EntDOk Tryz.prog dN159 := runD_ok tabA7_ok rN159
theorem rN207 : chkD (runD tabA7 dN207.f dN207.args (clE dN207.rows)) dN207 = true := by kernel_rfl
theorem oN207 : EntDOk Tryz.prog dN207 := runD_ok tabA7_ok rN207
theorem rN267 : chkD (runD tabA7 dN267.f dN267.args (clE dN267.rows)) dN267 = true := by kernel_rfl
theorem oN267 : EntDOk Tryz.prog dN267 := runD_ok tabA7_ok rN267
theorem rN12 : chkD (runD tabA7 dN12.f dN12.args (clE dN12.rows)) dN12 = true := by kernel_rfl
theorem oN12 : EntDOk Tryz.prog dN12 := runD_ok tabA7_ok rN12
theorem rN36 : chkD (runD tabA7 dN36.f dN36.args (clE dN36.rows)) dN36 = true := by kernel_rfl
theorem oN36 : EntDOk Tryz.prog dN36 := runD_ok tabA7_ok rN36
theorem rN94 : chkD (runD tabA7 dN94.f dN94.args (clE dN94.rows)) dN94 = true := by kernel_rfl
theorem oN94 : EntDOk Tryz.prog dN94 := runD_ok tabA7_ok rN94
theorem rN226 : chkD (runD tabA7 dN226.f dN226.args (clE dN226.rows)) dN226 = true := by kernel_rfl
theorem oN226 : EntDOk Tryz.prog dN226 := runD_ok tabA7_ok rN226
theorem rN16 : chkD (runD tabA7 dN16.f dN16.args (clE dN16.rows)) dN16 = true := by kernel_rfl
theorem oN16 : EntDOk Tryz.prog dN16 := runD_ok tabA7_ok rN16
theorem rN75 : chkD (runD tabA7 dN75.f dN75.args (clE dN75.rows)) dN75 = true := by kernel_rfl
theorem oN75 : EntDOk Tryz.prog dN75 := runD_ok tabA7_ok rN75
theorem rN140 : chkD (runD tabA7 dN140.f dN140.args (clE dN140.rows)) dN140 = true := by kernel_rfl
theorem oN140 : EntDOk Tryz.prog dN140 := runD_ok tabA7_ok rN140
theorem rN86 : chkD (runD tabA7 dN86.f dN86.args (clE dN86.rows)) dN86 = true := by kernel_rfl
theorem oN86 : EntDOk Tryz.prog dN86 := runD_ok tabA7_ok rN86
theorem rN32 : chkD (runD tabA7 dN32.f dN32.args (clE dN32.rows)) dN32 = true := by kernel_rfl
theorem oN32 : EntDOk Tryz.prog dN32 := runD_ok tabA7_ok rN32
end Go.Proofs.YtllfnhapnndngaaGreatDoor.E
