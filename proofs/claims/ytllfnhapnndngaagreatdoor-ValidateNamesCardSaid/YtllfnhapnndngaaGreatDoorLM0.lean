/- ValidateNames on unknown numbers: the first steps, and which numbers they give. -/
import Derived.Test.YtllfnhapnndngaaGreatDoorVN4t
namespace Go.Proofs.YtllfnhapnndngaaGreatDoor.E
open Go Go.Proofs
set_option maxRecDepth 1000000
noncomputable def hooksM : CF := tabD tabN4 hooksN
theorem hooksM_ok : CallOk Tryz.prog hooksM := tabD_ok tabN4_ok hooksN_ok
theorem hooksM_log : LogOk hooksM := tabD_log hooksN_log
noncomputable def fdM : FD := match fdOf Tryz.f5 with | some d => d | none => ⟨.skip, 0, []⟩
theorem fdM_eq : funF fnT 5 = some fdM := by kernel_rfl
noncomputable def cvM (c : Code) : Tr AV → AH → Option (XE × Tr AV × AH) := codeE env (runF hooksM 59) (drawE env (runF hooksM 59) fdM.nt) 100000 fdM.nt c
theorem cvM_seq (a b : Code) (r : Tr AV) (H : AH) : cvM (.seq a b) r H = thenW (cvM a r H) (cvM b) := rfl
noncomputable def psM0 : List Code := [seqX (dropC 0 fdM.code), seqX (dropC 1 fdM.code), seqX (dropC 2 fdM.code), seqX (dropC 3 fdM.code), seqX (dropC 4 fdM.code)]
noncomputable def restM : Code := dropC 5 fdM.code
theorem codeM_eq : fdM.code = seqsC psM0 (restM) := by kernel_rfl
noncomputable def stM0 (x0 : Int) (x1 : Int) (b2 : Bool) (b3 : Bool) : Option (XE × Tr AV × AH) := runsC cvM psM0 (Tr.leaf.puts 0 [.int .i64 x0, .int .i64 x1, .bool b2, .bool b3]) (AH.none)
noncomputable def srM0 (x0 : Int) (x1 : Int) (b2 : Bool) (b3 : Bool) : Tr AV := match stM0 x0 x1 b2 b3 with | some p => p.2.1 | none => .leaf
noncomputable def shM0 (x0 : Int) (x1 : Int) (b2 : Bool) (b3 : Bool) : AH := match stM0 x0 x1 b2 b3 with | some p => p.2.2 | none => AH.none
noncomputable def zMa (x0 : Int) (x1 : Int) (b2 : Bool) (b3 : Bool) : Int := match (srM0 x0 x1 b2 b3).get 12 with | some (.int _ z) => z | _ => 0
noncomputable def zMb (x0 : Int) (x1 : Int) (b2 : Bool) (b3 : Bool) : Int := match (srM0 x0 x1 b2 b3).get 13 with | some (.int _ z) => z | _ => 0
theorem stM0_eq (x0 : Int) (x1 : Int) (b2 : Bool) (b3 : Bool) : stM0 x0 x1 b2 b3 = some (.normal, (((srM0 x0 x1 b2 b3).set 12 (.int .i64 (zMa x0 x1 b2 b3))).set 13 (.int .i64 (zMb x0 x1 b2 b3))), shM0 x0 x1 b2 b3) := by kernel_rfl
theorem zMa_eq (x0 : Int) (x1 : Int) (b2 : Bool) (b3 : Bool) : zMa x0 x1 b2 b3 = Int.tmod (IntKind.i64.wrap (Int.tmod x0 5 + 5)) 5 := by kernel_rfl
theorem zMa_rg (x0 : Int) (x1 : Int) (b2 : Bool) (b3 : Bool) : 0 ≤ zMa x0 x1 b2 b3 ∧ zMa x0 x1 b2 b3 ≤ 4 := by
  rw [zMa_eq]
  exact mod_range x0 5 (by omega) (by omega)
theorem zMb_eq (x0 : Int) (x1 : Int) (b2 : Bool) (b3 : Bool) : zMb x0 x1 b2 b3 = Int.tmod (IntKind.i64.wrap (Int.tmod x1 5 + 5)) 5 := by kernel_rfl
theorem zMb_rg (x0 : Int) (x1 : Int) (b2 : Bool) (b3 : Bool) : 0 ≤ zMb x0 x1 b2 b3 ∧ zMb x0 x1 b2 b3 ≤ 4 := by
  rw [zMb_eq]
  exact mod_range x1 5 (by omega) (by omega)
noncomputable def outM (o : Option (XE × Tr AV × AH)) : Bool := match o with
  | some (e, r, H) => (match e with
    | .exit _ => false
    | _ => match resL env.T H r fdM.res with
      | some [.bool true] => true
      | _ => false)
  | none => false
theorem hooksM_none (x0 : Int) (x1 : Int) (b2 : Bool) (b3 : Bool) : hooksM 5 [.int .i64 x0, .int .i64 x1, .bool b2, .bool b3] AH.none = none := by kernel_rfl
theorem ntM_ok : Nat.ble 4 fdM.nt = true := by kernel_rfl
end Go.Proofs.YtllfnhapnndngaaGreatDoor.E
