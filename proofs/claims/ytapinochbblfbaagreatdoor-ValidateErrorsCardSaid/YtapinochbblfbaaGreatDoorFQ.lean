/- ValidateErrors on an unknown number: the prefix, and which number it gives. -/
import Derived.Test.YtapinochbblfbaaGreatDoorFP
namespace Go.Proofs.YtapinochbblfbaaGreatDoor.E
open Go Go.Proofs
set_option maxRecDepth 1000000
set_option linter.unusedVariables false
noncomputable def awN (base : CF) : CF := fun f xs H => bif Nat.beq f 10 then (match xs with | [] => some (.bool true, H) | _ => none) else base f xs H
theorem awN_log {base : CF} (hb : LogOk base) : LogOk (awN base) := by
  intro f xs H v H' h
  unfold awN at h
  rcases cond_two h with h | h
  · split at h
    · cases h; exact Logged.refl _
    · cases h
  · exact hb _ _ _ _ _ h
theorem awN_ok {base : CF} (hb : CallOk Tryz.prog base) : CallOk Tryz.prog (awN base) := by
  intro f xs H v H' h ρ w args hr hx
  unfold awN at h
  cases hf : Nat.beq f 10 with
  | false => rw [hf] at h; exact hb f xs H v H' h ρ w args hr hx
  | true =>
    rw [hf] at h
    have := Nat.eq_of_beq_eq_true hf
    subst this
    simp only [cond_true] at h
    split at h
    · cases h
      exact oAw ρ H w args hr hx
    · cases h
noncomputable def hooksV : CF := awN (tabN tab4 hooksN)
theorem hooksV_ok : CallOk Tryz.prog hooksV := awN_ok (tab_ok tab4_ok hooksN_ok)
theorem hooksV_log : LogOk hooksV := awN_log (tab_log hooksN_log)
noncomputable def d3 : FD := match fdOf Tryz.f3 with | some d => d | none => ⟨.skip, 0, []⟩
theorem d3_eq : funF fnT 3 = some d3 := by kernel_rfl
noncomputable def seqA (c : Code) : Code := match c with | .seq a _ => a | _ => .skip
noncomputable def seqB (c : Code) : Code := match c with | .seq _ b => b | _ => .skip
noncomputable def c0 : Code := seqA d3.code
noncomputable def c1 : Code := seqA (seqB d3.code)
noncomputable def c2 : Code := seqB (seqB d3.code)
theorem code_eq : d3.code = .seq c0 (.seq c1 c2) := by kernel_rfl
noncomputable def cV (c : Code) : Tr AV → AH → Option (XE × Tr AV × AH) := codeE env (runF hooksV 59) (drawE env (runF hooksV 59) d3.nt) 100000 d3.nt c
noncomputable def thenV (o : Option (XE × Tr AV × AH)) (k : Tr AV → AH → Option (XE × Tr AV × AH)) : Option (XE × Tr AV × AH) := o.bind fun p => match p.1 with
  | .normal => k p.2.1 p.2.2
  | .exit id => some (.exit id, p.2)
  | .ret => some (.ret, p.2)
theorem cV_seq (a b : Code) (r : Tr AV) (H : AH) : cV (.seq a b) r H = thenV (cV a r H) (cV b) := rfl
noncomputable def preV (n : Int) (b : Bool) : Option (XE × Tr AV × AH) := thenV (cV c0 (Tr.leaf.puts 0 [.int .i64 n, .bool b]) AH.none) (cV c1)
noncomputable def rV (n : Int) (b : Bool) : Tr AV := match preV n b with | some p => p.2.1 | none => .leaf
noncomputable def hV (n : Int) (b : Bool) : AH := match preV n b with | some p => p.2.2 | none => AH.none
noncomputable def zV (n : Int) (b : Bool) : Int := match (rV n b).get 0 with | some (.int _ z) => z | _ => 0
theorem preV_eq (n : Int) (b : Bool) : preV n b = some (.normal, (rV n b).set 0 (.int .i64 (zV n b)), hV n b) := by kernel_rfl
end Go.Proofs.YtapinochbblfbaaGreatDoor.E
