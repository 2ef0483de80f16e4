/- Known calls: the runs, level 2. -/
import Derived.Test.YtapinochbblfbaaGreatDoorFO1
namespace Go.Proofs.YtapinochbblfbaaGreatDoor.E
open Go Go.Proofs
set_option maxRecDepth 1000000
theorem r1 : chk (runT tab1 e1.f e1.args) e1.res = true := by kernel_rfl
theorem o1 : EntOk Tryz.prog e1 := runT_ok tab1_ok r1 (by kernel_rfl)
theorem r7 : chk (runT tab1 e7.f e7.args) e7.res = true := by kernel_rfl
theorem o7 : EntOk Tryz.prog e7 := runT_ok tab1_ok r7 (by kernel_rfl)
theorem r9 : chk (runT tab1 e9.f e9.args) e9.res = true := by kernel_rfl
theorem o9 : EntOk Tryz.prog e9 := runT_ok tab1_ok r9 (by kernel_rfl)
theorem r12 : chk (runT tab1 e12.f e12.args) e12.res = true := by kernel_rfl
theorem o12 : EntOk Tryz.prog e12 := runT_ok tab1_ok r12 (by kernel_rfl)
theorem r17 : chk (runT tab1 e17.f e17.args) e17.res = true := by kernel_rfl
theorem o17 : EntOk Tryz.prog e17 := runT_ok tab1_ok r17 (by kernel_rfl)
theorem r19 : chk (runT tab1 e19.f e19.args) e19.res = true := by kernel_rfl
theorem o19 : EntOk Tryz.prog e19 := runT_ok tab1_ok r19 (by kernel_rfl)
theorem r22 : chk (runT tab1 e22.f e22.args) e22.res = true := by kernel_rfl
theorem o22 : EntOk Tryz.prog e22 := runT_ok tab1_ok r22 (by kernel_rfl)
theorem r26 : chk (runT tab1 e26.f e26.args) e26.res = true := by kernel_rfl
theorem o26 : EntOk Tryz.prog e26 := runT_ok tab1_ok r26 (by kernel_rfl)
theorem r31 : chk (runT tab1 e31.f e31.args) e31.res = true := by kernel_rfl
theorem o31 : EntOk Tryz.prog e31 := runT_ok tab1_ok r31 (by kernel_rfl)
theorem r33 : chk (runT tab1 e33.f e33.args) e33.res = true := by kernel_rfl
theorem o33 : EntOk Tryz.prog e33 := runT_ok tab1_ok r33 (by kernel_rfl)
theorem r37 : chk (runT tab1 e37.f e37.args) e37.res = true := by kernel_rfl
theorem o37 : EntOk Tryz.prog e37 := runT_ok tab1_ok r37 (by kernel_rfl)
theorem r40 : chk (runT tab1 e40.f e40.args) e40.res = true := by kernel_rfl
theorem o40 : EntOk Tryz.prog e40 := runT_ok tab1_ok r40 (by kernel_rfl)
theorem r42 : chk (runT tab1 e42.f e42.args) e42.res = true := by kernel_rfl
theorem o42 : EntOk Tryz.prog e42 := runT_ok tab1_ok r42 (by kernel_rfl)
theorem r46 : chk (runT tab1 e46.f e46.args) e46.res = true := by kernel_rfl
theorem o46 : EntOk Tryz.prog e46 := runT_ok tab1_ok r46 (by kernel_rfl)
theorem r49 : chk (runT tab1 e49.f e49.args) e49.res = true := by kernel_rfl
theorem o49 : EntOk Tryz.prog e49 := runT_ok tab1_ok r49 (by kernel_rfl)
theorem r52 : chk (runT tab1 e52.f e52.args) e52.res = true := by kernel_rfl
theorem o52 : EntOk Tryz.prog e52 := runT_ok tab1_ok r52 (by kernel_rfl)
theorem r55 : chk (runT tab1 e55.f e55.args) e55.res = true := by kernel_rfl
theorem o55 : EntOk Tryz.prog e55 := runT_ok tab1_ok r55 (by kernel_rfl)
theorem r59 : chk (runT tab1 e59.f e59.args) e59.res = true := by kernel_rfl
theorem o59 : EntOk Tryz.prog e59 := runT_ok tab1_ok r59 (by kernel_rfl)
theorem r63 : chk (runT tab1 e63.f e63.args) e63.res = true := by kernel_rfl
theorem o63 : EntOk Tryz.prog e63 := runT_ok tab1_ok r63 (by kernel_rfl)
theorem r65 : chk (runT tab1 e65.f e65.args) e65.res = true := by kernel_rfl
theorem o65 : EntOk Tryz.prog e65 := runT_ok tab1_ok r65 (by kernel_rfl)
theorem r67 : chk (runT tab1 e67.f e67.args) e67.res = true := by kernel_rfl
theorem o67 : EntOk Tryz.prog e67 := runT_ok tab1_ok r67 (by kernel_rfl)
noncomputable def tab2 : Tr (List Ent) :=
  .node none (.node none (.node none (.node none (.node (some [e1, e40]) (.node none (.node none (.node (some [e42, e67]) .leaf .leaf) .leaf) (.node none (.node (some [e16, e18]) .leaf .leaf) .leaf)) .leaf) (.node none .leaf (.node none (.node none (.node none (.node (some [e4, e5]) .leaf .leaf) .leaf) .leaf) .leaf))) (.node none .leaf (.node none .leaf (.node none (.node (some [e10]) (.node none (.node (some [e48, e49]) .leaf .leaf) .leaf) .leaf) .leaf)))) (.node none (.node none (.node none (.node none .leaf (.node none .leaf (.node (some [e3, e30, e44, e47]) .leaf .leaf))) (.node none .leaf (.node none .leaf (.node (some [e37]) .leaf .leaf)))) .leaf) (.node none (.node none (.node none .leaf (.node none (.node (some [e22, e26, e55, e59]) (.node (some [e35]) .leaf .leaf) .leaf) .leaf)) .leaf) (.node none (.node none (.node none (.node (some [e0, e2]) .leaf .leaf) .leaf) (.node none .leaf (.node (some [e8, e11, e45, e51]) .leaf .leaf))) .leaf)))) (.node none (.node none (.node none (.node none (.node none .leaf (.node (some [e17, e19]) (.node (some [e9, e12, e46, e52]) .leaf .leaf) (.node (some [e6]) .leaf .leaf))) .leaf) .leaf) .leaf) (.node none (.node none (.node none (.node none .leaf (.node (some [e20, e53]) .leaf .leaf)) .leaf) (.node none (.node none (.node none .leaf (.node (some [e41, e66]) .leaf .leaf)) .leaf) .leaf)) (.node none (.node none (.node none .leaf (.node none (.node none (.node (some [e36]) .leaf .leaf) .leaf) .leaf)) (.node none (.node none (.node (some [e7]) .leaf .leaf) .leaf) (.node none (.node none (.node (some [e43]) .leaf .leaf) .leaf) (.node (some [e31, e33, e63, e65]) .leaf .leaf)))) (.node none (.node none .leaf (.node none .leaf (.node (some [e21, e25, e28, e29, e54, e58, e61, e62]) .leaf .leaf))) .leaf))))
theorem tab2_ok : AllT (TabOk Tryz.prog) tab2 :=
  .bare (.bare (.bare (.bare (.full (tabok_cons o1 rfl (tabok_cons o40 rfl (tabok_nil))) (.bare (.bare (.full (tabok_cons o42 rfl (tabok_cons o67 rfl (tabok_nil))) .leaf .leaf) .leaf) (.bare (.full (tabok_cons o16 rfl (tabok_cons o18 rfl (tabok_nil))) .leaf .leaf) .leaf)) .leaf) (.bare .leaf (.bare (.bare (.bare (.full (tabok_cons o4 rfl (tabok_cons o5 rfl (tabok_nil))) .leaf .leaf) .leaf) .leaf) .leaf))) (.bare .leaf (.bare .leaf (.bare (.full (tabok_cons o10 rfl (tabok_nil)) (.bare (.full (tabok_cons o48 rfl (tabok_cons o49 rfl (tabok_nil))) .leaf .leaf) .leaf) .leaf) .leaf)))) (.bare (.bare (.bare (.bare .leaf (.bare .leaf (.full (tabok_cons o3 rfl (tabok_cons o30 rfl (tabok_cons o44 rfl (tabok_cons o47 rfl (tabok_nil))))) .leaf .leaf))) (.bare .leaf (.bare .leaf (.full (tabok_cons o37 rfl (tabok_nil)) .leaf .leaf)))) .leaf) (.bare (.bare (.bare .leaf (.bare (.full (tabok_cons o22 rfl (tabok_cons o26 rfl (tabok_cons o55 rfl (tabok_cons o59 rfl (tabok_nil))))) (.full (tabok_cons o35 rfl (tabok_nil)) .leaf .leaf) .leaf) .leaf)) .leaf) (.bare (.bare (.bare (.full (tabok_cons o0 rfl (tabok_cons o2 rfl (tabok_nil))) .leaf .leaf) .leaf) (.bare .leaf (.full (tabok_cons o8 rfl (tabok_cons o11 rfl (tabok_cons o45 rfl (tabok_cons o51 rfl (tabok_nil))))) .leaf .leaf))) .leaf)))) (.bare (.bare (.bare (.bare (.bare .leaf (.full (tabok_cons o17 rfl (tabok_cons o19 rfl (tabok_nil))) (.full (tabok_cons o9 rfl (tabok_cons o12 rfl (tabok_cons o46 rfl (tabok_cons o52 rfl (tabok_nil))))) .leaf .leaf) (.full (tabok_cons o6 rfl (tabok_nil)) .leaf .leaf))) .leaf) .leaf) .leaf) (.bare (.bare (.bare (.bare .leaf (.full (tabok_cons o20 rfl (tabok_cons o53 rfl (tabok_nil))) .leaf .leaf)) .leaf) (.bare (.bare (.bare .leaf (.full (tabok_cons o41 rfl (tabok_cons o66 rfl (tabok_nil))) .leaf .leaf)) .leaf) .leaf)) (.bare (.bare (.bare .leaf (.bare (.bare (.full (tabok_cons o36 rfl (tabok_nil)) .leaf .leaf) .leaf) .leaf)) (.bare (.bare (.full (tabok_cons o7 rfl (tabok_nil)) .leaf .leaf) .leaf) (.bare (.bare (.full (tabok_cons o43 rfl (tabok_nil)) .leaf .leaf) .leaf) (.full (tabok_cons o31 rfl (tabok_cons o33 rfl (tabok_cons o63 rfl (tabok_cons o65 rfl (tabok_nil))))) .leaf .leaf)))) (.bare (.bare .leaf (.bare .leaf (.full (tabok_cons o21 rfl (tabok_cons o25 rfl (tabok_cons o28 rfl (tabok_cons o29 rfl (tabok_cons o54 rfl (tabok_cons o58 rfl (tabok_cons o61 rfl (tabok_cons o62 rfl (tabok_nil))))))))) .leaf .leaf))) .leaf))))
end Go.Proofs.YtapinochbblfbaaGreatDoor.E
