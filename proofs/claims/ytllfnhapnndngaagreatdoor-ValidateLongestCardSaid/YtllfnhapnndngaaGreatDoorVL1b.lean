/- Known calls in ValidateLongest: the runs, level 1. -/
import Derived.Test.YtllfnhapnndngaaGreatDoorVLE1
namespace Go.Proofs.YtllfnhapnndngaaGreatDoor.E
open Go Go.Proofs
set_option maxRecDepth 1000000
theorem rL8 : chkD (runD tabA7 dL8.f dL8.args (clE dL8.rows)) dL8 = true := by kernel_rfl
theorem oL8 : EntDOk Tryz.prog dL8 := runD_ok tabA7_ok rL8
theorem rL36 : chkD (runD tabA7 dL36.f dL36.args (clE dL36.rows)) dL36 = true := by kernel_rfl
theorem oL36 : EntDOk Tryz.prog dL36 := runD_ok tabA7_ok rL36
theorem rL72 : chkD (runD tabA7 dL72.f dL72.args (clE dL72.rows)) dL72 = true := by kernel_rfl
theorem oL72 : EntDOk Tryz.prog dL72 := runD_ok tabA7_ok rL72
theorem rL125 : chkD (runD tabA7 dL125.f dL125.args (clE dL125.rows)) dL125 = true := by kernel_rfl
theorem oL125 : EntDOk Tryz.prog dL125 := runD_ok tabA7_ok rL125
theorem rL143 : chkD (runD tabA7 dL143.f dL143.args (clE dL143.rows)) dL143 = true := by kernel_rfl
theorem oL143 : EntDOk Tryz.prog dL143 := runD_ok tabA7_ok rL143
theorem rL162 : chkD (runD tabA7 dL162.f dL162.args (clE dL162.rows)) dL162 = true := by kernel_rfl
theorem oL162 : EntDOk Tryz.prog dL162 := runD_ok tabA7_ok rL162
theorem rL203 : chkD (runD tabA7 dL203.f dL203.args (clE dL203.rows)) dL203 = true := by kernel_rfl
theorem oL203 : EntDOk Tryz.prog dL203 := runD_ok tabA7_ok rL203
theorem rL221 : chkD (runD tabA7 dL221.f dL221.args (clE dL221.rows)) dL221 = true := by kernel_rfl
theorem oL221 : EntDOk Tryz.prog dL221 := runD_ok tabA7_ok rL221
theorem rL231 : chkD (runD tabA7 dL231.f dL231.args (clE dL231.rows)) dL231 = true := by kernel_rfl
theorem oL231 : EntDOk Tryz.prog dL231 := runD_ok tabA7_ok rL231
theorem rL3 : chkD (runD tabA7 dL3.f dL3.args (clE dL3.rows)) dL3 = true := by kernel_rfl
theorem oL3 : EntDOk Tryz.prog dL3 := runD_ok tabA7_ok rL3
theorem rL180 : chkD (runD tabA7 dL180.f dL180.args (clE dL180.rows)) dL180 = true := by kernel_rfl
theorem oL180 : EntDOk Tryz.prog dL180 := runD_ok tabA7_ok rL180
theorem rL174 : chkD (runD tabA7 dL174.f dL174.args (clE dL174.rows)) dL174 = true := by kernel_rfl
theorem oL174 : EntDOk Tryz.prog dL174 := runD_ok tabA7_ok rL174
theorem rL37 : chkD (runD tabA7 dL37.f dL37.args (clE dL37.rows)) dL37 = true := by kernel_rfl
theorem oL37 : EntDOk Tryz.prog dL37 := runD_ok tabA7_ok rL37
theorem rL73 : chkD (runD tabA7 dL73.f dL73.args (clE dL73.rows)) dL73 = true := by kernel_rfl
theorem oL73 : EntDOk Tryz.prog dL73 := runD_ok tabA7_ok rL73
theorem rL126 : chkD (runD tabA7 dL126.f dL126.args (clE dL126.rows)) dL126 = true := by kernel_rfl
theorem oL126 : EntDOk Tryz.prog dL126 := runD_ok tabA7_ok rL126
theorem rL144 : chkD (runD tabA7 dL144.f dL144.args (clE dL144.rows)) dL144 = true := by kernel_rfl
theorem oL144 : EntDOk Tryz.prog dL144 := runD_ok tabA7_ok rL144
theorem rL163 : chkD (runD tabA7 dL163.f dL163.args (clE dL163.rows)) dL163 = true := by kernel_rfl
theorem oL163 : EntDOk Tryz.prog dL163 := runD_ok tabA7_ok rL163
theorem rL204 : chkD (runD tabA7 dL204.f dL204.args (clE dL204.rows)) dL204 = true := by kernel_rfl
theorem oL204 : EntDOk Tryz.prog dL204 := runD_ok tabA7_ok rL204
theorem rL222 : chkD (runD tabA7 dL222.f dL222.args (clE dL222.rows)) dL222 = true := by kernel_rfl
theorem oL222 : EntDOk Tryz.prog dL222 := runD_ok tabA7_ok rL222
theorem rL94 : chkD (runD tabA7 dL94.f dL94.args (clE dL94.rows)) dL94 = true := by kernel_rfl
theorem oL94 : EntDOk Tryz.prog dL94 := runD_ok tabA7_ok rL94
theorem rL43 : chkD (runD tabA7 dL43.f dL43.args (clE dL43.rows)) dL43 = true := by kernel_rfl
theorem oL43 : EntDOk Tryz.prog dL43 := runD_ok tabA7_ok rL43
theorem rL80 : chkD (runD tabA7 dL80.f dL80.args (clE dL80.rows)) dL80 = true := by kernel_rfl
theorem oL80 : EntDOk Tryz.prog dL80 := runD_ok tabA7_ok rL80
theorem rL169 : chkD (runD tabA7 dL169.f dL169.args (clE dL169.rows)) dL169 = true := by kernel_rfl
theorem oL169 : EntDOk Tryz.prog dL169 := runD_ok tabA7_ok rL169
theorem rL207 : chkD (runD tabA7 dL207.f dL207.args (clE dL207.rows)) dL207 = true := by kernel_rfl
theorem oL207 : EntDOk Tryz.prog dL207 := runD_ok tabA7_ok rL207
theorem rL225 : chkD (runD tabA7 dL225.f dL225.args (clE dL225.rows)) dL225 = true := by kernel_rfl
theorem oL225 : EntDOk Tryz.prog dL225 := runD_ok tabA7_ok rL225
theorem rL189 : chkD (runD tabA7 dL189.f dL189.args (clE dL189.rows)) dL189 = true := by kernel_rfl
theorem oL189 : EntDOk Tryz.prog dL189 := runD_ok tabA7_ok rL189
theorem rL239 : chkD (runD tabA7 dL239.f dL239.args (clE dL239.rows)) dL239 = true := by kernel_rfl
theorem oL239 : EntDOk Tryz.prog dL239 := runD_ok tabA7_ok rL239
theorem rL89 : chkD (runD tabA7 dL89.f dL89.args (clE dL89.rows)) dL89 = true := by kernel_rfl
theorem oL89 : EntDOk Tryz.prog dL89 := runD_ok tabA7_ok rL89
theorem rL25 : chkD (runD tabA7 dL25.f dL25.args (clE dL25.rows)) dL25 = true := by kernel_rfl
theorem oL25 : EntDOk Tryz.prog dL25 := runD_ok tabA7_ok rL25
theorem rL113 : chkD (runD tabA7 dL113.f dL113.args (clE dL113.rows)) dL113 = true := by kernel_rfl
theorem oL113 : EntDOk Tryz.prog dL113 := runD_ok tabA7_ok rL113
theorem rL167 : chkD (runD tabA7 dL167.f dL167.args (clE dL167.rows)) dL167 = true := by kernel_rfl
theorem oL167 : EntDOk Tryz.prog dL167 := runD_ok tabA7_ok rL167
end Go.Proofs.YtllfnhapnndngaaGreatDoor.E
