/- The program, seen by the abstract machine. -/
import Derived.Test.YtapinochbblfbaaGreatDoorTA
import Derived.Test.YtapinochbblfbaaGreatDoorTB
namespace Go.Proofs.YtapinochbblfbaaGreatDoor.E
open Go Go.Proofs
set_option linter.unusedVariables false
set_option maxRecDepth 100000
noncomputable def sT (_ : TypeId) : Bool := false
def nE : String := "certpath/validate.enter"
noncomputable def methE (b : Nat) (name : String) : Option FuncId :=
  bif name == "certpath/validate.apply" then some b else bif name == "certpath/validate.empty" then some (b + 1) else bif name == "certpath/validate.enter" then some (b + 2) else bif name == "certpath/validate.names" then some (b + 3) else
  bif name == "certpath/validate.restrict" then some (b + 4) else none
noncomputable def mT (t : TypeId) (name : String) : Option FuncId := bif Nat.beq t 61 then methE 376 name else bif Nat.beq t 68 then methE 475 name else none
noncomputable def env : Env := ⟨tyT.get, sT, mT⟩
theorem cond_bif {c : Bool} {α : Type} {a b x : α} (h : (bif c then a else b) = x) : (c = true ∧ a = x) ∨ (c = false ∧ b = x) := by cases c <;> simp_all
theorem env_ok : EnvOk Tryz.prog env := by
  refine ⟨types_of tyT_ok, ⟨fun t ht => ?_⟩, ⟨fun t name f hf => ?_⟩⟩
  · cases ht
  · have key : ∀ b, methE b name = some f → (name = "certpath/validate.apply" ∧ f = b) ∨ (name = "certpath/validate.empty" ∧ f = b + 1) ∨ (name = "certpath/validate.enter" ∧ f = b + 2) ∨ (name = "certpath/validate.names" ∧ f = b + 3) ∨ (name = "certpath/validate.restrict" ∧ f = b + 4) := by
      intro b h
      unfold methE at h
      rcases cond_bif h with ⟨h1, h⟩ | ⟨_, h⟩
      · cases h; exact .inl ⟨eq_of_beq h1, rfl⟩
      rcases cond_bif h with ⟨h1, h⟩ | ⟨_, h⟩
      · cases h; exact .inr (.inl ⟨eq_of_beq h1, rfl⟩)
      rcases cond_bif h with ⟨h1, h⟩ | ⟨_, h⟩
      · cases h; exact .inr (.inr (.inl ⟨eq_of_beq h1, rfl⟩))
      rcases cond_bif h with ⟨h1, h⟩ | ⟨_, h⟩
      · cases h; exact .inr (.inr (.inr (.inl ⟨eq_of_beq h1, rfl⟩)))
      rcases cond_bif h with ⟨h1, h⟩ | ⟨_, h⟩
      · cases h; exact .inr (.inr (.inr (.inr ⟨eq_of_beq h1, rfl⟩)))
      cases h
    have hf' : (bif Nat.beq t 61 then methE 376 name else bif Nat.beq t 68 then methE 475 name else none) = some f := hf
    rcases cond_bif hf' with ⟨h1, h⟩ | ⟨_, h⟩
    · have : t = 61 := Nat.eq_of_beq_eq_true h1
      subst this
      rcases key _ h with ⟨rfl, rfl⟩ | ⟨rfl, rfl⟩ | ⟨rfl, rfl⟩ | ⟨rfl, rfl⟩ | ⟨rfl, rfl⟩
      · exact ⟨_, { name := "certpath/validate.apply", sig := 124, path := #[], func := some (376, true) }, _, Tryz.type61, by simp [Tryz.t61], rfl, rfl, Tryz.underlying61⟩
      · exact ⟨_, { name := "certpath/validate.empty", sig := 55, path := #[], func := some (377, true) }, _, Tryz.type61, by simp [Tryz.t61], rfl, rfl, Tryz.underlying61⟩
      · exact ⟨_, { name := "certpath/validate.enter", sig := 120, path := #[], func := some (378, true) }, _, Tryz.type61, by simp [Tryz.t61], rfl, rfl, Tryz.underlying61⟩
      · exact ⟨_, { name := "certpath/validate.names", sig := 89, path := #[], func := some (379, true) }, _, Tryz.type61, by simp [Tryz.t61], rfl, rfl, Tryz.underlying61⟩
      · exact ⟨_, { name := "certpath/validate.restrict", sig := 127, path := #[], func := some (380, true) }, _, Tryz.type61, by simp [Tryz.t61], rfl, rfl, Tryz.underlying61⟩
    rcases cond_bif h with ⟨h1, h⟩ | ⟨_, h⟩
    · have : t = 68 := Nat.eq_of_beq_eq_true h1
      subst this
      rcases key _ h with ⟨rfl, rfl⟩ | ⟨rfl, rfl⟩ | ⟨rfl, rfl⟩ | ⟨rfl, rfl⟩ | ⟨rfl, rfl⟩
      · exact ⟨_, { name := "certpath/validate.apply", sig := 124, path := #[], func := some (475, true) }, _, Tryz.type68, by simp [Tryz.t68], rfl, rfl, Tryz.underlying68⟩
      · exact ⟨_, { name := "certpath/validate.empty", sig := 55, path := #[], func := some (476, true) }, _, Tryz.type68, by simp [Tryz.t68], rfl, rfl, Tryz.underlying68⟩
      · exact ⟨_, { name := "certpath/validate.enter", sig := 120, path := #[], func := some (477, true) }, _, Tryz.type68, by simp [Tryz.t68], rfl, rfl, Tryz.underlying68⟩
      · exact ⟨_, { name := "certpath/validate.names", sig := 89, path := #[], func := some (478, true) }, _, Tryz.type68, by simp [Tryz.t68], rfl, rfl, Tryz.underlying68⟩
      · exact ⟨_, { name := "certpath/validate.restrict", sig := 127, path := #[], func := some (479, true) }, _, Tryz.type68, by simp [Tryz.t68], rfl, rfl, Tryz.underlying68⟩
    cases h
theorem mixed : Tryz.prog.follows .mixedOrders = true := rfl
noncomputable def noHooks : CF := fun _ _ _ => none
theorem noHooks_ok : CallOk Tryz.prog noHooks := by intro f xs H v H' h; cases h
/-- The program's functions, to a depth, with hooks. -/
noncomputable def runF (hooks : CF) (depth : Nat) : CF := evalF env (funF fnT) hooks (fun cf nt => drawE env cf nt) 100000 depth
theorem runF_log {hooks : CF} (hl : LogOk hooks) (depth : Nat) : LogOk (runF hooks depth) :=
  evalF_log hl (fun cf hlg nt ops r H r' H' h => draw_log hlg h) _ _
theorem runF_ok {hooks : CF} (hh : CallOk Tryz.prog hooks) (hl : LogOk hooks) (depth : Nat) : CallOk Tryz.prog (runF hooks depth) :=
  evalF_ok env_ok (funs_of fnT_ok) hh (fun k => runF_log hl k) (fun cf hcf hlg nt => draw_ok mixed env_ok hcf hlg nt) _
theorem noHooks_log : LogOk noHooks := by intro f xs H v H' h; cases h
end Go.Proofs.YtapinochbblfbaaGreatDoor.E
