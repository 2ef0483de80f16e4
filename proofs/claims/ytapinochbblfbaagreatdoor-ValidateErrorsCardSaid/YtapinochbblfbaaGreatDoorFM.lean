/- Calls that are known already: tables of closed calls, as hooks. -/
import Derived.Test.YtapinochbblfbaaGreatDoorFJ
import Derived.Test.YtapinochbblfbaaGreatDoorFL
namespace Go.Proofs.YtapinochbblfbaaGreatDoor.E
open Go Go.Proofs
set_option linter.unusedVariables false
set_option linter.unusedSimpArgs false
set_option maxRecDepth 100000
/-- Values with no word of memory in them, to a depth. -/
noncomputable def flN (n : Nat) : AV → Bool :=
  Nat.rec (motive := fun _ => AV → Bool) (fun x => x.bare) (fun _ ih x => match x with
    | .agg l => l.all ih
    | .tup l => l.all ih
    | x => x.bare) n
theorem RL.mapAll {ρ ρ' : Rho} {p : AV → Bool} (hp : ∀ x y, R ρ x y → p x = true → R ρ' x y) {l : List AV} : ∀ {vs : List Value}, RL ρ l vs → l.all p = true → RL ρ' l vs := by
  induction l with
  | nil => intro vs h _; cases h; exact .nil
  | cons x l ih =>
    intro vs h hb
    simp only [List.all_cons, Bool.and_eq_true] at hb
    cases h with | cons _ _ _ _ h hs => exact .cons _ _ _ _ (hp _ _ h hb.1) (ih hs hb.2)
theorem R.flN {ρ ρ' : Rho} (n : Nat) : ∀ (x : AV) (y : Value), R ρ x y → flN n x = true → R ρ' x y := by
  induction n with
  | zero => intro x y h hb; exact h.bare hb
  | succ n ih =>
    intro x y h hb
    cases h with
    | agg l vs hl => exact .agg _ _ (hl.mapAll ih hb)
    | tup l vs hl => exact .tup _ _ (hl.mapAll ih hb)
    | bool b => exact .bool b
    | int k n => exact .int k n
    | str s l h => exact .str s l h
    | nilp => exact .nilp
    | nils => exact .nils
    | nilm => exact .nilm
    | nilf => exact .nilf
    | nili => exact .nili
    | ptr => cases hb
    | sl => cases hb
    | sle => cases hb
    | map => cases hb
    | iter => cases hb
    | fn => cases hb
    | ifc => cases hb
/-- A call with no memory in its arguments nor in its answer. -/
theorem flat_callN {P : Program} {cf : CF} (hcf : CallOk P cf) {n : Nat} {f : FuncId} {xs : List AV} {Hc' : AH} {v : AV} (he : cf f xs AH.none = some (v, Hc')) (hxs : xs.all (flN n) = true) (hv : flN n v = true) {ρ : Rho} {H : AH} {w : World} {args : Array Value} (hr : Rel ρ H w) (hx : RL ρ xs args.toList) :
    (callFunc f args).run P w = .ok (.enter f args) w ∧ Calls P f args w fun e w' => ∃ ρ' y, e = .returned y ∧ R ρ' v y ∧ Rel ρ' H w' ∧ Stp ρ H w ρ' H w' := by
  have hx0 : RL rho0 xs args.toList := hx.mapAll (R.flN n) hxs
  obtain ⟨h1, h2⟩ := sub_call hcf he rfl (fun g b hb => (none_get hb).elim) (rel_none w) hx0
  refine ⟨h1, Calls.mono h2 fun e w' hp => ?_⟩
  obtain ⟨ρ', y, rfl, g1, g2, g3, g4⟩ := hp
  obtain ⟨a, b⟩ := hr.stay g3
  exact ⟨ρ, y, rfl, g1.flN n _ _ hv, a, b⟩
/-- A call that is known. -/
structure Ent where
  f : FuncId
  args : List AV
  res : AV
def EntOk (P : Program) (e : Ent) : Prop := ∀ (ρ : Rho) (H : AH) (w : World) (args : Array Value), Rel ρ H w → RL ρ e.args args.toList →
  (callFunc e.f args).run P w = .ok (.enter e.f args) w ∧ Calls P e.f args w fun en w' => ∃ ρ' y, en = .returned y ∧ R ρ' e.res y ∧ Rel ρ' H w' ∧ Stp ρ H w ρ' H w'
noncomputable def chk (o : Option (AV × AH)) (res : AV) : Bool := match o with | some p => eqV 12 p.1 res | none => false
noncomputable def flE (e : Ent) : Bool := e.args.all (flN 6) && flN 6 e.res
theorem ent_ok {P : Program} {cf : CF} (hcf : CallOk P cf) {e : Ent} (h : chk (cf e.f e.args AH.none) e.res = true) (hf : flE e = true) : EntOk P e := by
  intro ρ H w args hr hx
  unfold flE at hf
  rw [Bool.and_eq_true] at hf
  unfold chk at h
  split at h
  · rename_i p hp
    obtain ⟨v, H'⟩ := p
    have := eqV_ok 12 _ _ h
    simp only at this
    subst this
    exact flat_callN hcf hp hf.1 hf.2 hr hx
  · cases h
noncomputable def lookE (l : List Ent) (xs : List AV) : Option AV :=
  List.rec (motive := fun _ => Option AV) none (fun e _ ih => bif eqVs (eqV 12) e.args xs then some e.res else ih) l
theorem lookE_ok {l : List Ent} {xs : List AV} {v : AV} (h : lookE l xs = some v) : ∃ e ∈ l, e.args = xs ∧ e.res = v := by
  induction l with
  | nil => cases h
  | cons e l ih =>
    change (bif eqVs (eqV 12) e.args xs then some e.res else lookE l xs) = some v at h
    cases hc : eqVs (eqV 12) e.args xs <;> rw [hc] at h
    · obtain ⟨e', he, h1⟩ := ih h; exact ⟨e', List.mem_cons_of_mem _ he, h1⟩
    · cases h; exact ⟨e, List.mem_cons_self, eqVs_ok (eqV_ok 12) _ _ hc, rfl⟩
/-- The table's hook. -/
noncomputable def tabN (T : Tr (List Ent)) (base : CF) : CF := fun f xs H => match T.get f with
  | some l => (match lookE l xs with
    | some v => some (v, H)
    | none => base f xs H)
  | none => base f xs H
def TabOk (P : Program) (f : Nat) (l : List Ent) : Prop := ∀ e ∈ l, e.f = f ∧ EntOk P e
theorem tab_log {T : Tr (List Ent)} {base : CF} (hb : LogOk base) : LogOk (tabN T base) := by
  intro f xs H v H' h
  unfold tabN at h
  split at h
  · split at h
    · cases h; exact Logged.refl _
    · exact hb _ _ _ _ _ h
  · exact hb _ _ _ _ _ h
theorem tab_ok {P : Program} {T : Tr (List Ent)} (hT : AllT (TabOk P) T) {base : CF} (hb : CallOk P base) : CallOk P (tabN T base) := by
  intro f xs H v H' h ρ w args hr hx
  unfold tabN at h
  split at h
  · rename_i l hl
    split at h
    · rename_i v' hv
      cases h
      obtain ⟨e, he, rfl, rfl⟩ := lookE_ok hv
      obtain ⟨hf, ho⟩ := hT.get f l hl e he
      subst hf
      exact ho ρ H w args hr hx
    · exact hb _ _ _ _ _ h ρ w args hr hx
  · exact hb _ _ _ _ _ h ρ w args hr hx
theorem tabok_nil {P : Program} {f : Nat} : TabOk P f [] := by intro e he; cases he
theorem tabok_cons {P : Program} {f : Nat} {e : Ent} {l : List Ent} (h : EntOk P e) (hf : e.f = f) (hl : TabOk P f l) : TabOk P f (e :: l) := by
  intro e' he
  rcases List.mem_cons.1 he with rfl | he
  · exact ⟨hf, h⟩
  · exact hl e' he
/-- All hooks. -/
noncomputable def hooksN : CF := pruneN (sortN walkN)
theorem hooksN_ok : CallOk Tryz.prog hooksN := pruneN_ok (sortN_ok walkN_ok)
theorem hooksN_log : LogOk hooksN := pruneN_log (sortN_log walkN_log)
noncomputable def runT (T : Tr (List Ent)) (f : FuncId) (xs : List AV) : Option (AV × AH) := runF (tabN T hooksN) 60 f xs AH.none
theorem runT_ok {T : Tr (List Ent)} (hT : AllT (TabOk Tryz.prog) T) {e : Ent} (h : chk (runT T e.f e.args) e.res = true) (hf : flE e = true) : EntOk Tryz.prog e :=
  ent_ok (runF_ok (tab_ok hT hooksN_ok) (tab_log hooksN_log) 60) h hf
end Go.Proofs.YtapinochbblfbaaGreatDoor.E
