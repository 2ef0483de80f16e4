/- ValidateLongest on unknown numbers: the first steps, and which numbers they give. -/
import Derived.Test.YtllfnhapnndngaaGreatDoorVL4t
namespace Go.Proofs.YtllfnhapnndngaaGreatDoor.E
open Go Go.Proofs
set_option maxRecDepth 1000000
noncomputable def hooksL : CF := tabD tabL5 hooksN
theorem hooksL_ok : CallOk Tryz.prog hooksL := tabD_ok tabL5_ok hooksN_ok
theorem hooksL_log : LogOk hooksL := tabD_log hooksN_log
noncomputable def fdL : FD := match fdOf Tryz.f3 with | some d => d | none => ⟨.skip, 0, []⟩
theorem fdL_eq : funF fnT 3 = some fdL := by kernel_rfl
noncomputable def cvL (c : Code) : Tr AV → AH → Option (XE × Tr AV × AH) := codeE env (runF hooksL 59) (drawE env (runF hooksL 59) fdL.nt) 100000 fdL.nt c
theorem cvL_seq (a b : Code) (r : Tr AV) (H : AH) : cvL (.seq a b) r H = thenW (cvL a r H) (cvL b) := rfl
noncomputable def psL0 : List Code := [seqX (dropC 0 fdL.code), seqX (dropC 1 fdL.code)]
noncomputable def psL1 : List Code := [seqX (dropC 2 fdL.code)]
noncomputable def psL2 : List Code := [seqX (dropC 3 fdL.code)]
noncomputable def restL : Code := dropC 4 fdL.code
theorem codeL_eq : fdL.code = seqsC psL0 (seqsC psL1 (seqsC psL2 (restL))) := by kernel_rfl
noncomputable def stL0 (x0 : Int) (x1 : Int) (x2 : Int) : Option (XE × Tr AV × AH) := runsC cvL psL0 (Tr.leaf.puts 0 [.int .i64 x0, .int .i64 x1, .int .i64 x2]) (AH.none)
noncomputable def srL0 (x0 : Int) (x1 : Int) (x2 : Int) : Tr AV := match stL0 x0 x1 x2 with | some p => p.2.1 | none => .leaf
noncomputable def shL0 (x0 : Int) (x1 : Int) (x2 : Int) : AH := match stL0 x0 x1 x2 with | some p => p.2.2 | none => AH.none
noncomputable def zLn (x0 : Int) (x1 : Int) (x2 : Int) : Int := match (srL0 x0 x1 x2).get 0 with | some (.int _ z) => z | _ => 0
noncomputable def stL1 (a0 : Int) (x0 : Int) (x1 : Int) (x2 : Int) : Option (XE × Tr AV × AH) := runsC cvL psL1 (((srL0 x0 x1 x2).set 0 (.int .i64 a0))) (shL0 x0 x1 x2)
noncomputable def srL1 (a0 : Int) (x0 : Int) (x1 : Int) (x2 : Int) : Tr AV := match stL1 a0 x0 x1 x2 with | some p => p.2.1 | none => .leaf
noncomputable def shL1 (a0 : Int) (x0 : Int) (x1 : Int) (x2 : Int) : AH := match stL1 a0 x0 x1 x2 with | some p => p.2.2 | none => AH.none
noncomputable def zLk (a0 : Int) (x0 : Int) (x1 : Int) (x2 : Int) : Int := match (srL1 a0 x0 x1 x2).get 1 with | some (.int _ z) => z | _ => 0
noncomputable def stL2 (a0 : Int) (a1 : Int) (x0 : Int) (x1 : Int) (x2 : Int) : Option (XE × Tr AV × AH) := runsC cvL psL2 (((srL1 a0 x0 x1 x2).set 1 (.int .i64 a1))) (shL1 a0 x0 x1 x2)
noncomputable def srL2 (a0 : Int) (a1 : Int) (x0 : Int) (x1 : Int) (x2 : Int) : Tr AV := match stL2 a0 a1 x0 x1 x2 with | some p => p.2.1 | none => .leaf
noncomputable def shL2 (a0 : Int) (a1 : Int) (x0 : Int) (x1 : Int) (x2 : Int) : AH := match stL2 a0 a1 x0 x1 x2 with | some p => p.2.2 | none => AH.none
noncomputable def zLl (a0 : Int) (a1 : Int) (x0 : Int) (x1 : Int) (x2 : Int) : Int := match (srL2 a0 a1 x0 x1 x2).get 7 with | some (.int _ z) => z | _ => 0
theorem stL0_eq (x0 : Int) (x1 : Int) (x2 : Int) : stL0 x0 x1 x2 = some (.normal, ((srL0 x0 x1 x2).set 0 (.int .i64 (zLn x0 x1 x2))), shL0 x0 x1 x2) := by kernel_rfl
theorem zLn_eq (x0 : Int) (x1 : Int) (x2 : Int) : zLn x0 x1 x2 = IntKind.i64.wrap (2 + Int.tmod (IntKind.i64.wrap (Int.tmod x0 4 + 4)) 4) := by kernel_rfl
theorem zLn_rg (x0 : Int) (x1 : Int) (x2 : Int) : 2 ≤ zLn x0 x1 x2 ∧ zLn x0 x1 x2 ≤ 5 := by
  rw [zLn_eq]
  exact plus_range 2 x0 4 (by omega) (by omega) (by omega) (by omega)
theorem stL1_eq_2 (x0 : Int) (x1 : Int) (x2 : Int) : stL1 2 x0 x1 x2 = some (.normal, ((srL1 2 x0 x1 x2).set 1 (.int .i64 (zLk 2 x0 x1 x2))), shL1 2 x0 x1 x2) := by kernel_rfl
theorem zLk_eq_2 (x0 : Int) (x1 : Int) (x2 : Int) : zLk 2 x0 x1 x2 = Int.tmod (IntKind.i64.wrap (Int.tmod x1 1 + 1)) 1 := by kernel_rfl
theorem zLk_rg_2 (x0 : Int) (x1 : Int) (x2 : Int) : 0 ≤ zLk 2 x0 x1 x2 ∧ zLk 2 x0 x1 x2 ≤ 0 := by
  rw [zLk_eq_2]
  exact mod_range x1 1 (by omega) (by omega)
theorem stL2_eq_2_0 (x0 : Int) (x1 : Int) (x2 : Int) : stL2 2 0 x0 x1 x2 = some (.normal, ((srL2 2 0 x0 x1 x2).set 7 (.int .i64 (zLl 2 0 x0 x1 x2))), shL2 2 0 x0 x1 x2) := by kernel_rfl
theorem zLl_eq_2_0 (x0 : Int) (x1 : Int) (x2 : Int) : zLl 2 0 x0 x1 x2 = Int.tmod (IntKind.i64.wrap (Int.tmod x2 5 + 5)) 5 := by kernel_rfl
theorem zLl_rg_2_0 (x0 : Int) (x1 : Int) (x2 : Int) : 0 ≤ zLl 2 0 x0 x1 x2 ∧ zLl 2 0 x0 x1 x2 ≤ 4 := by
  rw [zLl_eq_2_0]
  exact mod_range x2 5 (by omega) (by omega)
theorem stL1_eq_3 (x0 : Int) (x1 : Int) (x2 : Int) : stL1 3 x0 x1 x2 = some (.normal, ((srL1 3 x0 x1 x2).set 1 (.int .i64 (zLk 3 x0 x1 x2))), shL1 3 x0 x1 x2) := by kernel_rfl
theorem zLk_eq_3 (x0 : Int) (x1 : Int) (x2 : Int) : zLk 3 x0 x1 x2 = Int.tmod (IntKind.i64.wrap (Int.tmod x1 2 + 2)) 2 := by kernel_rfl
theorem zLk_rg_3 (x0 : Int) (x1 : Int) (x2 : Int) : 0 ≤ zLk 3 x0 x1 x2 ∧ zLk 3 x0 x1 x2 ≤ 1 := by
  rw [zLk_eq_3]
  exact mod_range x1 2 (by omega) (by omega)
theorem stL2_eq_3_0 (x0 : Int) (x1 : Int) (x2 : Int) : stL2 3 0 x0 x1 x2 = some (.normal, ((srL2 3 0 x0 x1 x2).set 7 (.int .i64 (zLl 3 0 x0 x1 x2))), shL2 3 0 x0 x1 x2) := by kernel_rfl
theorem zLl_eq_3_0 (x0 : Int) (x1 : Int) (x2 : Int) : zLl 3 0 x0 x1 x2 = Int.tmod (IntKind.i64.wrap (Int.tmod x2 5 + 5)) 5 := by kernel_rfl
theorem zLl_rg_3_0 (x0 : Int) (x1 : Int) (x2 : Int) : 0 ≤ zLl 3 0 x0 x1 x2 ∧ zLl 3 0 x0 x1 x2 ≤ 4 := by
  rw [zLl_eq_3_0]
  exact mod_range x2 5 (by omega) (by omega)
theorem stL2_eq_3_1 (x0 : Int) (x1 : Int) (x2 : Int) : stL2 3 1 x0 x1 x2 = some (.normal, ((srL2 3 1 x0 x1 x2).set 7 (.int .i64 (zLl 3 1 x0 x1 x2))), shL2 3 1 x0 x1 x2) := by kernel_rfl
theorem zLl_eq_3_1 (x0 : Int) (x1 : Int) (x2 : Int) : zLl 3 1 x0 x1 x2 = Int.tmod (IntKind.i64.wrap (Int.tmod x2 5 + 5)) 5 := by kernel_rfl
theorem zLl_rg_3_1 (x0 : Int) (x1 : Int) (x2 : Int) : 0 ≤ zLl 3 1 x0 x1 x2 ∧ zLl 3 1 x0 x1 x2 ≤ 4 := by
  rw [zLl_eq_3_1]
  exact mod_range x2 5 (by omega) (by omega)
theorem stL1_eq_4 (x0 : Int) (x1 : Int) (x2 : Int) : stL1 4 x0 x1 x2 = some (.normal, ((srL1 4 x0 x1 x2).set 1 (.int .i64 (zLk 4 x0 x1 x2))), shL1 4 x0 x1 x2) := by kernel_rfl
theorem zLk_eq_4 (x0 : Int) (x1 : Int) (x2 : Int) : zLk 4 x0 x1 x2 = Int.tmod (IntKind.i64.wrap (Int.tmod x1 3 + 3)) 3 := by kernel_rfl
theorem zLk_rg_4 (x0 : Int) (x1 : Int) (x2 : Int) : 0 ≤ zLk 4 x0 x1 x2 ∧ zLk 4 x0 x1 x2 ≤ 2 := by
  rw [zLk_eq_4]
  exact mod_range x1 3 (by omega) (by omega)
theorem stL2_eq_4_0 (x0 : Int) (x1 : Int) (x2 : Int) : stL2 4 0 x0 x1 x2 = some (.normal, ((srL2 4 0 x0 x1 x2).set 7 (.int .i64 (zLl 4 0 x0 x1 x2))), shL2 4 0 x0 x1 x2) := by kernel_rfl
theorem zLl_eq_4_0 (x0 : Int) (x1 : Int) (x2 : Int) : zLl 4 0 x0 x1 x2 = Int.tmod (IntKind.i64.wrap (Int.tmod x2 5 + 5)) 5 := by kernel_rfl
theorem zLl_rg_4_0 (x0 : Int) (x1 : Int) (x2 : Int) : 0 ≤ zLl 4 0 x0 x1 x2 ∧ zLl 4 0 x0 x1 x2 ≤ 4 := by
  rw [zLl_eq_4_0]
  exact mod_range x2 5 (by omega) (by omega)
theorem stL2_eq_4_1 (x0 : Int) (x1 : Int) (x2 : Int) : stL2 4 1 x0 x1 x2 = some (.normal, ((srL2 4 1 x0 x1 x2).set 7 (.int .i64 (zLl 4 1 x0 x1 x2))), shL2 4 1 x0 x1 x2) := by kernel_rfl
theorem zLl_eq_4_1 (x0 : Int) (x1 : Int) (x2 : Int) : zLl 4 1 x0 x1 x2 = Int.tmod (IntKind.i64.wrap (Int.tmod x2 5 + 5)) 5 := by kernel_rfl
theorem zLl_rg_4_1 (x0 : Int) (x1 : Int) (x2 : Int) : 0 ≤ zLl 4 1 x0 x1 x2 ∧ zLl 4 1 x0 x1 x2 ≤ 4 := by
  rw [zLl_eq_4_1]
  exact mod_range x2 5 (by omega) (by omega)
theorem stL2_eq_4_2 (x0 : Int) (x1 : Int) (x2 : Int) : stL2 4 2 x0 x1 x2 = some (.normal, ((srL2 4 2 x0 x1 x2).set 7 (.int .i64 (zLl 4 2 x0 x1 x2))), shL2 4 2 x0 x1 x2) := by kernel_rfl
theorem zLl_eq_4_2 (x0 : Int) (x1 : Int) (x2 : Int) : zLl 4 2 x0 x1 x2 = Int.tmod (IntKind.i64.wrap (Int.tmod x2 5 + 5)) 5 := by kernel_rfl
theorem zLl_rg_4_2 (x0 : Int) (x1 : Int) (x2 : Int) : 0 ≤ zLl 4 2 x0 x1 x2 ∧ zLl 4 2 x0 x1 x2 ≤ 4 := by
  rw [zLl_eq_4_2]
  exact mod_range x2 5 (by omega) (by omega)
theorem stL1_eq_5 (x0 : Int) (x1 : Int) (x2 : Int) : stL1 5 x0 x1 x2 = some (.normal, ((srL1 5 x0 x1 x2).set 1 (.int .i64 (zLk 5 x0 x1 x2))), shL1 5 x0 x1 x2) := by kernel_rfl
theorem zLk_eq_5 (x0 : Int) (x1 : Int) (x2 : Int) : zLk 5 x0 x1 x2 = Int.tmod (IntKind.i64.wrap (Int.tmod x1 4 + 4)) 4 := by kernel_rfl
theorem zLk_rg_5 (x0 : Int) (x1 : Int) (x2 : Int) : 0 ≤ zLk 5 x0 x1 x2 ∧ zLk 5 x0 x1 x2 ≤ 3 := by
  rw [zLk_eq_5]
  exact mod_range x1 4 (by omega) (by omega)
theorem stL2_eq_5_0 (x0 : Int) (x1 : Int) (x2 : Int) : stL2 5 0 x0 x1 x2 = some (.normal, ((srL2 5 0 x0 x1 x2).set 7 (.int .i64 (zLl 5 0 x0 x1 x2))), shL2 5 0 x0 x1 x2) := by kernel_rfl
theorem zLl_eq_5_0 (x0 : Int) (x1 : Int) (x2 : Int) : zLl 5 0 x0 x1 x2 = Int.tmod (IntKind.i64.wrap (Int.tmod x2 5 + 5)) 5 := by kernel_rfl
theorem zLl_rg_5_0 (x0 : Int) (x1 : Int) (x2 : Int) : 0 ≤ zLl 5 0 x0 x1 x2 ∧ zLl 5 0 x0 x1 x2 ≤ 4 := by
  rw [zLl_eq_5_0]
  exact mod_range x2 5 (by omega) (by omega)
theorem stL2_eq_5_1 (x0 : Int) (x1 : Int) (x2 : Int) : stL2 5 1 x0 x1 x2 = some (.normal, ((srL2 5 1 x0 x1 x2).set 7 (.int .i64 (zLl 5 1 x0 x1 x2))), shL2 5 1 x0 x1 x2) := by kernel_rfl
theorem zLl_eq_5_1 (x0 : Int) (x1 : Int) (x2 : Int) : zLl 5 1 x0 x1 x2 = Int.tmod (IntKind.i64.wrap (Int.tmod x2 5 + 5)) 5 := by kernel_rfl
theorem zLl_rg_5_1 (x0 : Int) (x1 : Int) (x2 : Int) : 0 ≤ zLl 5 1 x0 x1 x2 ∧ zLl 5 1 x0 x1 x2 ≤ 4 := by
  rw [zLl_eq_5_1]
  exact mod_range x2 5 (by omega) (by omega)
theorem stL2_eq_5_2 (x0 : Int) (x1 : Int) (x2 : Int) : stL2 5 2 x0 x1 x2 = some (.normal, ((srL2 5 2 x0 x1 x2).set 7 (.int .i64 (zLl 5 2 x0 x1 x2))), shL2 5 2 x0 x1 x2) := by kernel_rfl
theorem zLl_eq_5_2 (x0 : Int) (x1 : Int) (x2 : Int) : zLl 5 2 x0 x1 x2 = Int.tmod (IntKind.i64.wrap (Int.tmod x2 5 + 5)) 5 := by kernel_rfl
theorem zLl_rg_5_2 (x0 : Int) (x1 : Int) (x2 : Int) : 0 ≤ zLl 5 2 x0 x1 x2 ∧ zLl 5 2 x0 x1 x2 ≤ 4 := by
  rw [zLl_eq_5_2]
  exact mod_range x2 5 (by omega) (by omega)
theorem stL2_eq_5_3 (x0 : Int) (x1 : Int) (x2 : Int) : stL2 5 3 x0 x1 x2 = some (.normal, ((srL2 5 3 x0 x1 x2).set 7 (.int .i64 (zLl 5 3 x0 x1 x2))), shL2 5 3 x0 x1 x2) := by kernel_rfl
theorem zLl_eq_5_3 (x0 : Int) (x1 : Int) (x2 : Int) : zLl 5 3 x0 x1 x2 = Int.tmod (IntKind.i64.wrap (Int.tmod x2 5 + 5)) 5 := by kernel_rfl
theorem zLl_rg_5_3 (x0 : Int) (x1 : Int) (x2 : Int) : 0 ≤ zLl 5 3 x0 x1 x2 ∧ zLl 5 3 x0 x1 x2 ≤ 4 := by
  rw [zLl_eq_5_3]
  exact mod_range x2 5 (by omega) (by omega)
noncomputable def outL (o : Option (XE × Tr AV × AH)) : Bool := match o with
  | some (e, r, H) => (match e with
    | .exit _ => false
    | _ => match resL env.T H r fdL.res with
      | some [.bool true] => true
      | _ => false)
  | none => false
theorem hooksL_none (x0 : Int) (x1 : Int) (x2 : Int) : hooksL 3 [.int .i64 x0, .int .i64 x1, .int .i64 x2] AH.none = none := by kernel_rfl
theorem ntL_ok : Nat.ble 3 fdL.nt = true := by kernel_rfl
end Go.Proofs.YtllfnhapnndngaaGreatDoor.E
