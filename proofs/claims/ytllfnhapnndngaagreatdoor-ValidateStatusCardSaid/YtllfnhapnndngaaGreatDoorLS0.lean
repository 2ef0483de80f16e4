/- ValidateStatus on unknown numbers: the first steps, and which numbers they give. -/
import Derived.Test.YtllfnhapnndngaaGreatDoorVS1t
namespace Go.Proofs.YtllfnhapnndngaaGreatDoor.E
open Go Go.Proofs
set_option maxRecDepth 1000000
noncomputable def hooksS : CF := tabD tabS4 hooksN
theorem hooksS_ok : CallOk Tryz.prog hooksS := tabD_ok tabS4_ok hooksN_ok
theorem hooksS_log : LogOk hooksS := tabD_log hooksN_log
noncomputable def fdS : FD := match fdOf Tryz.f4 with | some d => d | none => ⟨.skip, 0, []⟩
theorem fdS_eq : funF fnT 4 = some fdS := by kernel_rfl
noncomputable def cvS (c : Code) : Tr AV → AH → Option (XE × Tr AV × AH) := codeE env (runF hooksS 59) (drawE env (runF hooksS 59) fdS.nt) 100000 fdS.nt c
theorem cvS_seq (a b : Code) (r : Tr AV) (H : AH) : cvS (.seq a b) r H = thenW (cvS a r H) (cvS b) := rfl
noncomputable def psS0 : List Code := [seqX (dropC 0 fdS.code), seqX (dropC 1 fdS.code)]
noncomputable def restS : Code := dropC 2 fdS.code
theorem codeS_eq : fdS.code = seqsC psS0 (restS) := by kernel_rfl
noncomputable def stS0 (x0 : Int) (x1 : Int) (b2 : Bool) : Option (XE × Tr AV × AH) := runsC cvS psS0 (Tr.leaf.puts 0 [.int .i64 x0, .int .i64 x1, .bool b2]) (AH.none)
noncomputable def srS0 (x0 : Int) (x1 : Int) (b2 : Bool) : Tr AV := match stS0 x0 x1 b2 with | some p => p.2.1 | none => .leaf
noncomputable def shS0 (x0 : Int) (x1 : Int) (b2 : Bool) : AH := match stS0 x0 x1 b2 with | some p => p.2.2 | none => AH.none
noncomputable def zSa (x0 : Int) (x1 : Int) (b2 : Bool) : Int := match (srS0 x0 x1 b2).get 7 with | some (.int _ z) => z | _ => 0
noncomputable def zSb (x0 : Int) (x1 : Int) (b2 : Bool) : Int := match (srS0 x0 x1 b2).get 8 with | some (.int _ z) => z | _ => 0
theorem stS0_eq (x0 : Int) (x1 : Int) (b2 : Bool) : stS0 x0 x1 b2 = some (.normal, (((srS0 x0 x1 b2).set 7 (.int .i64 (zSa x0 x1 b2))).set 8 (.int .i64 (zSb x0 x1 b2))), shS0 x0 x1 b2) := by kernel_rfl
theorem zSa_eq (x0 : Int) (x1 : Int) (b2 : Bool) : zSa x0 x1 b2 = Int.tmod (IntKind.i64.wrap (Int.tmod x0 4 + 4)) 4 := by kernel_rfl
theorem zSa_rg (x0 : Int) (x1 : Int) (b2 : Bool) : 0 ≤ zSa x0 x1 b2 ∧ zSa x0 x1 b2 ≤ 3 := by
  rw [zSa_eq]
  exact mod_range x0 4 (by omega) (by omega)
theorem zSb_eq (x0 : Int) (x1 : Int) (b2 : Bool) : zSb x0 x1 b2 = Int.tmod (IntKind.i64.wrap (Int.tmod x1 4 + 4)) 4 := by kernel_rfl
theorem zSb_rg (x0 : Int) (x1 : Int) (b2 : Bool) : 0 ≤ zSb x0 x1 b2 ∧ zSb x0 x1 b2 ≤ 3 := by
  rw [zSb_eq]
  exact mod_range x1 4 (by omega) (by omega)
noncomputable def outS (o : Option (XE × Tr AV × AH)) : Bool := match o with
  | some (e, r, H) => (match e with
    | .exit _ => false
    | _ => match resL env.T H r fdS.res with
      | some [.bool true] => true
      | _ => false)
  | none => false
theorem hooksS_none (x0 : Int) (x1 : Int) (b2 : Bool) : hooksS 4 [.int .i64 x0, .int .i64 x1, .bool b2] AH.none = none := by kernel_rfl
theorem ntS_ok : Nat.ble 3 fdS.nt = true := by kernel_rfl
end Go.Proofs.YtllfnhapnndngaaGreatDoor.E
