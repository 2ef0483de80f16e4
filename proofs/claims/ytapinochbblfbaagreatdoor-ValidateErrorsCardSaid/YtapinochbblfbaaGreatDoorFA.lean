/- Tables of a program for the abstract machine: from tries with a word on every entry. -/
import Derived.Test.YtapinochbblfbaaGreatDoorEX
namespace Go.Proofs.YtapinochbblfbaaGreatDoor.E
open Go
set_option linter.unusedVariables false
inductive AllT {α : Type} : (Nat → α → Prop) → Tr α → Prop where
  | leaf {p : Nat → α → Prop} : AllT p .leaf
  | bare {p : Nat → α → Prop} {l r : Tr α} (hl : AllT (fun m => p (2 * m + 1)) l) (hr : AllT (fun m => p (2 * m + 2)) r) : AllT p (.node none l r)
  | full {p : Nat → α → Prop} {x : α} {l r : Tr α} (h : p 0 x) (hl : AllT (fun m => p (2 * m + 1)) l) (hr : AllT (fun m => p (2 * m + 2)) r) : AllT p (.node (some x) l r)
theorem AllT.get {α : Type} {p : Nat → α → Prop} {t : Tr α} (h : AllT p t) : ∀ k x, t.get k = some x → p k x := by
  induction h with
  | leaf => intro k x h; cases h
  | bare hl hr ihl ihr =>
    intro k x h
    cases k with
    | zero => cases h
    | succ m =>
      rw [Tr.get_node_succ] at h
      have e1 : Nat.div m 2 = m / 2 := rfl
      have e2 : Nat.mod m 2 = m % 2 := rfl
      cases hb : Nat.beq (Nat.mod m 2) 0 with
      | true =>
        rw [hb] at h
        have hb' := Nat.eq_of_beq_eq_true hb
        have := ihl _ x h
        dsimp only at this
        rwa [show 2 * Nat.div m 2 + 1 = m + 1 by omega] at this
      | false =>
        rw [hb] at h
        have hb' := Nat.ne_of_beq_eq_false hb
        have := ihr _ x h
        dsimp only at this
        rwa [show 2 * Nat.div m 2 + 2 = m + 1 by omega] at this
  | full h0 hl hr ihl ihr =>
    intro k x h
    cases k with
    | zero => cases h; exact h0
    | succ m =>
      rw [Tr.get_node_succ] at h
      have e1 : Nat.div m 2 = m / 2 := rfl
      have e2 : Nat.mod m 2 = m % 2 := rfl
      cases hb : Nat.beq (Nat.mod m 2) 0 with
      | true =>
        rw [hb] at h
        have hb' := Nat.eq_of_beq_eq_true hb
        have := ihl _ x h
        dsimp only at this
        rwa [show 2 * Nat.div m 2 + 1 = m + 1 by omega] at this
      | false =>
        rw [hb] at h
        have hb' := Nat.ne_of_beq_eq_false hb
        have := ihr _ x h
        dsimp only at this
        rwa [show 2 * Nat.div m 2 + 2 = m + 1 by omega] at this
def TOk (P : Program) (t : TypeId) (i : TI) : Prop := ∃ d j z, P.underlying t = some d ∧ i.td.Ok d ∧ P.info? t = some j ∧ j.size = i.size ∧ j.bytes = i.bytes ∧ j.zero = some z ∧ ∀ ρ, R ρ i.zero z
theorem mkT {P : Program} {t : TypeId} {d : TypeDesc} {j : TypeInfo} {i : TI} {z : Value} (hu : P.underlying t = some d) (hj : P.info? t = some j) (hd : i.td.Ok d) (hs : j.size = i.size) (hb : j.bytes = i.bytes) (hz : j.zero = some z) (ho : ofV z = some i.zero) : TOk P t i :=
  ⟨d, j, z, hu, hd, hj, hs, hb, hz, ofV_ok ho⟩
theorem types_of {P : Program} {t : Tr TI} (h : AllT (TOk P) t) : Types P t.get := ⟨fun k i hk => h.get k i hk⟩
def FOk (P : Program) (f : FuncId) (fn : Func) : Prop := P.funcs[f]? = some fn ∧ (fn.name == "runtime.NumGoroutine") = false
theorem fOk {P : Program} {f : FuncId} {fn : Func} (h : P.funcs[f]? = some fn) (hn : (fn.name == "runtime.NumGoroutine") = false) : FOk P f fn := ⟨h, hn⟩
noncomputable def fdOf (fn : Func) : Option FD :=
  match fn.body with
  | some c => some ⟨c, fn.ntmps, fn.results.toList⟩
  | none => none
noncomputable def funF (t : Tr Func) (f : FuncId) : Option FD := (t.get f).bind fdOf
theorem funs_of {P : Program} {t : Tr Func} (h : AllT (FOk P) t) : Funs P (funF t) := ⟨fun f d hd => by
  simp only [funF, Option.bind_eq_some_iff] at hd
  obtain ⟨fn, hfn, hd⟩ := hd
  obtain ⟨h1, h2⟩ := h.get f fn hfn
  unfold fdOf at hd
  split at hd
  · rename_i c hc
    cases hd
    exact ⟨fn, h1, h2, hc, rfl, rfl⟩
  · cases hd⟩
end Go.Proofs.YtapinochbblfbaaGreatDoor.E
