/- Known calls: the runs, level 1. -/
import Derived.Test.YtapinochbblfbaaGreatDoorFO0
namespace Go.Proofs.YtapinochbblfbaaGreatDoor.E
open Go Go.Proofs
set_option maxRecDepth 1000000
theorem r0 : chk (runT tab0 e0.f e0.args) e0.res = true := by kernel_rfl
theorem o0 : EntOk Tryz.prog e0 := runT_ok tab0_ok r0 (by kernel_rfl)
theorem r2 : chk (runT tab0 e2.f e2.args) e2.res = true := by kernel_rfl
theorem o2 : EntOk Tryz.prog e2 := runT_ok tab0_ok r2 (by kernel_rfl)
theorem r3 : chk (runT tab0 e3.f e3.args) e3.res = true := by kernel_rfl
theorem o3 : EntOk Tryz.prog e3 := runT_ok tab0_ok r3 (by kernel_rfl)
theorem r4 : chk (runT tab0 e4.f e4.args) e4.res = true := by kernel_rfl
theorem o4 : EntOk Tryz.prog e4 := runT_ok tab0_ok r4 (by kernel_rfl)
theorem r5 : chk (runT tab0 e5.f e5.args) e5.res = true := by kernel_rfl
theorem o5 : EntOk Tryz.prog e5 := runT_ok tab0_ok r5 (by kernel_rfl)
theorem r6 : chk (runT tab0 e6.f e6.args) e6.res = true := by kernel_rfl
theorem o6 : EntOk Tryz.prog e6 := runT_ok tab0_ok r6 (by kernel_rfl)
theorem r8 : chk (runT tab0 e8.f e8.args) e8.res = true := by kernel_rfl
theorem o8 : EntOk Tryz.prog e8 := runT_ok tab0_ok r8 (by kernel_rfl)
theorem r10 : chk (runT tab0 e10.f e10.args) e10.res = true := by kernel_rfl
theorem o10 : EntOk Tryz.prog e10 := runT_ok tab0_ok r10 (by kernel_rfl)
theorem r11 : chk (runT tab0 e11.f e11.args) e11.res = true := by kernel_rfl
theorem o11 : EntOk Tryz.prog e11 := runT_ok tab0_ok r11 (by kernel_rfl)
theorem r16 : chk (runT tab0 e16.f e16.args) e16.res = true := by kernel_rfl
theorem o16 : EntOk Tryz.prog e16 := runT_ok tab0_ok r16 (by kernel_rfl)
theorem r18 : chk (runT tab0 e18.f e18.args) e18.res = true := by kernel_rfl
theorem o18 : EntOk Tryz.prog e18 := runT_ok tab0_ok r18 (by kernel_rfl)
theorem r20 : chk (runT tab0 e20.f e20.args) e20.res = true := by kernel_rfl
theorem o20 : EntOk Tryz.prog e20 := runT_ok tab0_ok r20 (by kernel_rfl)
theorem r21 : chk (runT tab0 e21.f e21.args) e21.res = true := by kernel_rfl
theorem o21 : EntOk Tryz.prog e21 := runT_ok tab0_ok r21 (by kernel_rfl)
theorem r25 : chk (runT tab0 e25.f e25.args) e25.res = true := by kernel_rfl
theorem o25 : EntOk Tryz.prog e25 := runT_ok tab0_ok r25 (by kernel_rfl)
theorem r28 : chk (runT tab0 e28.f e28.args) e28.res = true := by kernel_rfl
theorem o28 : EntOk Tryz.prog e28 := runT_ok tab0_ok r28 (by kernel_rfl)
theorem r29 : chk (runT tab0 e29.f e29.args) e29.res = true := by kernel_rfl
theorem o29 : EntOk Tryz.prog e29 := runT_ok tab0_ok r29 (by kernel_rfl)
theorem r30 : chk (runT tab0 e30.f e30.args) e30.res = true := by kernel_rfl
theorem o30 : EntOk Tryz.prog e30 := runT_ok tab0_ok r30 (by kernel_rfl)
theorem r35 : chk (runT tab0 e35.f e35.args) e35.res = true := by kernel_rfl
theorem o35 : EntOk Tryz.prog e35 := runT_ok tab0_ok r35 (by kernel_rfl)
theorem r36 : chk (runT tab0 e36.f e36.args) e36.res = true := by kernel_rfl
theorem o36 : EntOk Tryz.prog e36 := runT_ok tab0_ok r36 (by kernel_rfl)
theorem r41 : chk (runT tab0 e41.f e41.args) e41.res = true := by kernel_rfl
theorem o41 : EntOk Tryz.prog e41 := runT_ok tab0_ok r41 (by kernel_rfl)
theorem r43 : chk (runT tab0 e43.f e43.args) e43.res = true := by kernel_rfl
theorem o43 : EntOk Tryz.prog e43 := runT_ok tab0_ok r43 (by kernel_rfl)
theorem r44 : chk (runT tab0 e44.f e44.args) e44.res = true := by kernel_rfl
theorem o44 : EntOk Tryz.prog e44 := runT_ok tab0_ok r44 (by kernel_rfl)
theorem r45 : chk (runT tab0 e45.f e45.args) e45.res = true := by kernel_rfl
theorem o45 : EntOk Tryz.prog e45 := runT_ok tab0_ok r45 (by kernel_rfl)
theorem r47 : chk (runT tab0 e47.f e47.args) e47.res = true := by kernel_rfl
theorem o47 : EntOk Tryz.prog e47 := runT_ok tab0_ok r47 (by kernel_rfl)
theorem r48 : chk (runT tab0 e48.f e48.args) e48.res = true := by kernel_rfl
theorem o48 : EntOk Tryz.prog e48 := runT_ok tab0_ok r48 (by kernel_rfl)
theorem r51 : chk (runT tab0 e51.f e51.args) e51.res = true := by kernel_rfl
theorem o51 : EntOk Tryz.prog e51 := runT_ok tab0_ok r51 (by kernel_rfl)
theorem r53 : chk (runT tab0 e53.f e53.args) e53.res = true := by kernel_rfl
theorem o53 : EntOk Tryz.prog e53 := runT_ok tab0_ok r53 (by kernel_rfl)
theorem r54 : chk (runT tab0 e54.f e54.args) e54.res = true := by kernel_rfl
theorem o54 : EntOk Tryz.prog e54 := runT_ok tab0_ok r54 (by kernel_rfl)
theorem r58 : chk (runT tab0 e58.f e58.args) e58.res = true := by kernel_rfl
theorem o58 : EntOk Tryz.prog e58 := runT_ok tab0_ok r58 (by kernel_rfl)
theorem r61 : chk (runT tab0 e61.f e61.args) e61.res = true := by kernel_rfl
theorem o61 : EntOk Tryz.prog e61 := runT_ok tab0_ok r61 (by kernel_rfl)
theorem r62 : chk (runT tab0 e62.f e62.args) e62.res = true := by kernel_rfl
theorem o62 : EntOk Tryz.prog e62 := runT_ok tab0_ok r62 (by kernel_rfl)
theorem r66 : chk (runT tab0 e66.f e66.args) e66.res = true := by kernel_rfl
theorem o66 : EntOk Tryz.prog e66 := runT_ok tab0_ok r66 (by kernel_rfl)
noncomputable def tab1 : Tr (List Ent) :=
  .node none (.node none (.node none (.node none (.node none (.node none .leaf (.node none (.node (some [e16, e18]) .leaf .leaf) .leaf)) .leaf) (.node none .leaf (.node none (.node none (.node none (.node (some [e4, e5]) .leaf .leaf) .leaf) .leaf) .leaf))) (.node none .leaf (.node none .leaf (.node none (.node (some [e10]) (.node none (.node (some [e48]) .leaf .leaf) .leaf) .leaf) .leaf)))) (.node none (.node none (.node none (.node none .leaf (.node none .leaf (.node (some [e3, e30, e44, e47]) .leaf .leaf))) .leaf) .leaf) (.node none (.node none (.node none .leaf (.node none (.node none (.node (some [e35]) .leaf .leaf) .leaf) .leaf)) .leaf) (.node none (.node none (.node none (.node (some [e0, e2]) .leaf .leaf) .leaf) (.node none .leaf (.node (some [e8, e11, e45, e51]) .leaf .leaf))) .leaf)))) (.node none (.node none (.node none (.node none (.node none .leaf (.node none .leaf (.node (some [e6]) .leaf .leaf))) .leaf) .leaf) .leaf) (.node none (.node none (.node none (.node none .leaf (.node (some [e20, e53]) .leaf .leaf)) .leaf) (.node none (.node none (.node none .leaf (.node (some [e41, e66]) .leaf .leaf)) .leaf) .leaf)) (.node none (.node none (.node none .leaf (.node none (.node none (.node (some [e36]) .leaf .leaf) .leaf) .leaf)) (.node none .leaf (.node none (.node none (.node (some [e43]) .leaf .leaf) .leaf) .leaf))) (.node none (.node none .leaf (.node none .leaf (.node (some [e21, e25, e28, e29, e54, e58, e61, e62]) .leaf .leaf))) .leaf))))
theorem tab1_ok : AllT (TabOk Tryz.prog) tab1 :=
  .bare (.bare (.bare (.bare (.bare (.bare .leaf (.bare (.full (tabok_cons o16 rfl (tabok_cons o18 rfl (tabok_nil))) .leaf .leaf) .leaf)) .leaf) (.bare .leaf (.bare (.bare (.bare (.full (tabok_cons o4 rfl (tabok_cons o5 rfl (tabok_nil))) .leaf .leaf) .leaf) .leaf) .leaf))) (.bare .leaf (.bare .leaf (.bare (.full (tabok_cons o10 rfl (tabok_nil)) (.bare (.full (tabok_cons o48 rfl (tabok_nil)) .leaf .leaf) .leaf) .leaf) .leaf)))) (.bare (.bare (.bare (.bare .leaf (.bare .leaf (.full (tabok_cons o3 rfl (tabok_cons o30 rfl (tabok_cons o44 rfl (tabok_cons o47 rfl (tabok_nil))))) .leaf .leaf))) .leaf) .leaf) (.bare (.bare (.bare .leaf (.bare (.bare (.full (tabok_cons o35 rfl (tabok_nil)) .leaf .leaf) .leaf) .leaf)) .leaf) (.bare (.bare (.bare (.full (tabok_cons o0 rfl (tabok_cons o2 rfl (tabok_nil))) .leaf .leaf) .leaf) (.bare .leaf (.full (tabok_cons o8 rfl (tabok_cons o11 rfl (tabok_cons o45 rfl (tabok_cons o51 rfl (tabok_nil))))) .leaf .leaf))) .leaf)))) (.bare (.bare (.bare (.bare (.bare .leaf (.bare .leaf (.full (tabok_cons o6 rfl (tabok_nil)) .leaf .leaf))) .leaf) .leaf) .leaf) (.bare (.bare (.bare (.bare .leaf (.full (tabok_cons o20 rfl (tabok_cons o53 rfl (tabok_nil))) .leaf .leaf)) .leaf) (.bare (.bare (.bare .leaf (.full (tabok_cons o41 rfl (tabok_cons o66 rfl (tabok_nil))) .leaf .leaf)) .leaf) .leaf)) (.bare (.bare (.bare .leaf (.bare (.bare (.full (tabok_cons o36 rfl (tabok_nil)) .leaf .leaf) .leaf) .leaf)) (.bare .leaf (.bare (.bare (.full (tabok_cons o43 rfl (tabok_nil)) .leaf .leaf) .leaf) .leaf))) (.bare (.bare .leaf (.bare .leaf (.full (tabok_cons o21 rfl (tabok_cons o25 rfl (tabok_cons o28 rfl (tabok_cons o29 rfl (tabok_cons o54 rfl (tabok_cons o58 rfl (tabok_cons o61 rfl (tabok_cons o62 rfl (tabok_nil))))))))) .leaf .leaf))) .leaf))))
end Go.Proofs.YtapinochbblfbaaGreatDoor.E
