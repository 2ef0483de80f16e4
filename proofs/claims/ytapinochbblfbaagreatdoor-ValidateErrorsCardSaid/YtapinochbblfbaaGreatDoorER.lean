/- Regions in the order of their text, the code of a function, loops. The code of functions, calls, and calls to a given depth. Regions that draw an order: what is asked of their text, and one run of them in the order of the text. -/
import Derived.Test.YtapinochbblfbaaGreatDoorEO
import Derived.Scope
import Derived.Tactics
namespace Go.Proofs.YtapinochbblfbaaGreatDoor.E
open Go
set_option linter.unusedVariables false
set_option linter.unusedSimpArgs false
/-- A function, as far as the machine here must know it. -/
structure FD where
  code : Code
  nt : Nat
  res : List ResultVar
structure Funs (P : Program) (F : FuncId → Option FD) : Prop where
  ok : ∀ f d, F f = some d → ∃ fn, P.funcs[f]? = some fn ∧ (fn.name == "runtime.NumGoroutine") = false ∧ fn.body = some d.code ∧ fn.ntmps = d.nt ∧ fn.results.toList = d.res
def CF : Type := FuncId → List AV → AH → Option (AV × AH)
/-- A call that the machine here answers is a call of the program's that answers alike. -/
def CallOk (P : Program) (cf : CF) : Prop :=
  ∀ f xs H v H', cf f xs H = some (v, H') → ∀ (ρ : Rho) (w : World) (args : Array Value), Rel ρ H w → RL ρ xs args.toList →
    (callFunc f args).run P w = .ok (.enter f args) w ∧
    Calls P f args w fun e w' => ∃ ρ' y, e = .returned y ∧ R ρ' v y ∧ Rel ρ' H' w' ∧ Stp ρ H w ρ' H' w'
/-- A call changes nothing but what its log says. -/
def LogOk (cf : CF) : Prop := ∀ f xs H v H', cf f xs H = some (v, H') → Logged H H'
structure Env where
  T : TypeId → Option TI
  S : TypeId → Bool
  M : TypeId → String → Option FuncId
structure EnvOk (P : Program) (E : Env) : Prop where
  T : Types P E.T
  S : Eqs P E.S
  M : Meths P E.M

noncomputable def stepE (E : Env) (cf : CF) (r : Tr AV) (H : AH) (op : Op) : Option (AV × AH) :=
  match readE E.T E.S H r op with
  | some x => some (x, H)
  | none => match allocE E.T r op with
    | some p => some (p.2 H.next, H.new p.1)
    | none => match effE E.T H r op with
      | some p => some p
      | none => (targetE E.M r op).bind fun p => cf p.1 p.2 H
noncomputable def putE (nt : Nat) (r : Tr AV) (dst : Option Tmp) (x : AV) : Option (Tr AV) :=
  match dst with
  | none => some r
  | some d => bif Nat.blt d nt then some (r.set d x) else none
noncomputable def dstOf (ops : List Oper) (j : Nat) : Option Tmp := (nth ops j).bind fun o => o.dst
noncomputable def wantE (ops : List Oper) (r : Tr AV) (o : Oper) : Option Bool :=
  match o.guard with
  | none => some true
  | some g => (dstOf ops g.1).bind fun d => (r.get d).bind fun x => match x with
    | .bool b => some (bif g.2 then b else !b)
    | .tup [] => some false
    | _ => none
noncomputable def seqE (E : Env) (cf : CF) (nt : Nat) (ops : List Oper) (l : List Oper) : Tr AV → AH → Option (Tr AV × AH) :=
  List.rec (motive := fun _ => Tr AV → AH → Option (Tr AV × AH)) (fun r H => some (r, H))
    (fun o _ ih r H => (wantE ops r o).bind fun b => bif b
      then (stepE E cf r H o.op).bind fun p => (putE nt r o.dst p.1).bind fun r' => ih r' p.2
      else (putE nt r o.dst (.tup [])).bind fun r' => ih r' H) l
inductive XE where
  | normal
  | exit (id : Nat)
  | ret
def XE.x : XE → Exit
  | .normal => .normal
  | .exit id => .exit id
  | .ret => .ret
noncomputable def loopE (body : Tr AV → AH → Option (XE × Tr AV × AH)) (n : Nat) : Tr AV → AH → Option (XE × Tr AV × AH) :=
  Nat.rec (motive := fun _ => Tr AV → AH → Option (XE × Tr AV × AH)) (fun _ _ => none)
    (fun _ ih r H => (body r H).bind fun p => match p.1 with
      | .normal => ih p.2.1 p.2.2
      | .exit id => some (.exit id, p.2)
      | .ret => some (.ret, p.2)) n
section
variable {P : Program} {E : Env} {cf : CF} {w : World} {ρ : Rho} {H : AH} {r : Tr AV} {a : Act} {nt : Nat}
theorem Regs.put {ρ : Rho} {r r' : Tr AV} {a : Act} {dst : Option Tmp} {x : AV} {y : Value} (h : Regs ρ r a) (hx : R ρ x y) (hp : putE nt r dst x = some r') (hs : a.tmps.size = nt) :
    Regs ρ r' (a.put dst y) ∧ (a.put dst y).tmps.size = nt ∧ (a.put dst y).defers = a.defers := by
  cases dst with
  | none => cases hp; exact ⟨h, hs, rfl⟩
  | some d =>
    replace hp := cond_some hp
    obtain ⟨hc, hp⟩ := hp
    rw [Nat.blt_eq] at hc
    cases hp
    refine ⟨fun i z hz => ?_, by simp [Act.put, hs], rfl⟩
    rw [Tr.get_set] at hz
    by_cases e : d = i
    · rw [if_pos e] at hz; cases hz; subst e
      simp [Act.put, hs, hc]; exact hx
    · rw [if_neg e] at hz
      have := h i z hz
      simpa [Act.put, Array.getElem?_setIfInBounds_ne e] using this
theorem wantE_ok {ops : Array Oper} {o : Oper} {b : Bool} (hg : Regs ρ r a) (h : wantE ops.toList r o = some b) : Region.wanted o (yielded ops a.tmps) = b := by
  unfold wantE at h
  unfold Region.wanted
  split at h
  · rename_i e; cases h; rw [e]
  · rename_i g e
    obtain ⟨j, want⟩ := g
    rw [e]
    simp only [dstOf, nth_eq, Option.bind_eq_some_iff] at h
    obtain ⟨d, ⟨o', ho', hd⟩, x, hx, h⟩ := h
    have k := hg d x hx
    have ho2 : ops[j]? = some o' := by rw [← Array.getElem?_toList]; exact ho'
    have hy : yielded ops a.tmps j = match a.tmps[d]? with | some (.bool b) => some b | _ => none := by
      unfold yielded
      simp only [ho2, Option.bind_some, hd]
      rfl
    simp only [hy]
    split at h
    · rename_i b'
      cases h
      have : a.tmps[d]? = some (.bool b') := by
        cases ht : a.tmps[d]? with
        | none => simp [ht, undef] at k; cases k
        | some y => simp [ht] at k; cases k; rfl
      rw [this]
      cases b' <;> cases want <;> rfl
    · cases h
      cases ht : a.tmps[d]? with
      | none => simp
      | some y =>
        simp [ht] at k
        cases k
        simp
    · cases h
def LetsK (P : Program) (ρ : Rho) (H : AH) (w : World) (x : AV) (H' : AH) (o : Oper) (a : Act) (K : Act → World → Prop) : Prop :=
  ∀ ρ' w' y, R ρ' x y → Rel ρ' H' w' → Stp ρ H w ρ' H' w' → K (a.put o.dst y) w'
theorem Ran.wp {o : Oper} {x : AV} {H' : AH} {K : Act → World → Prop} {Q : Exit → Act → World → Prop} (h : Ran P (execOp a.eval o) w ρ H x H') (hK : LetsK P ρ H w x H' o a K) : o.wp P a w K Q := by
  obtain ⟨ρ', w', y, h1, h2, h3, h4⟩ := h
  unfold Oper.wp
  rcases h1 with h1 | ⟨h1, rfl⟩
  · rw [h1]; exact hK ρ' w' y h2 h3 h4
  · rw [h1]; exact hK ρ' w' undef h2 h3 h4
theorem stepE_ok (hE : EnvOk P E) (hcf : CallOk P cf) (hr : Rel ρ H w) (hg : Regs ρ r a) {o : Oper} {x : AV} {H' : AH} (h : stepE E cf r H o.op = some (x, H')) {K : Act → World → Prop} {Q : Exit → Act → World → Prop}
    (hK : LetsK P ρ H w x H' o a K) : o.wp P a w K Q := by
  unfold stepE at h
  split at h
  · rename_i x' hx
    cases h
    obtain ⟨y, h1, h2⟩ := readE_ok hE.T hE.S hr hg hx
    exact (Ran.still hr h1 h2).wp hK
  · split at h
    · rename_i p hp
      cases h
      exact ((allocE_ok (w := w) hE.T hg (l := p.1) (mk := p.2) hp).ran hr).wp hK
    · split at h
      · rename_i p hp
        cases h
        exact (effE_ok hE.T hr hg hp).wp hK
      · simp only [Option.bind_eq_some_iff] at h
        obtain ⟨⟨f, xs⟩, hp, h⟩ := h
        obtain ⟨args, h1, h2⟩ := targetE_ok (w := w) hE.M hg hp
        obtain ⟨h3, h4⟩ := hcf f xs H x H' h ρ w args hr h2
        unfold Oper.wp
        rw [h1, h3, Oper.upon_enter]
        refine Calls.mono h4 fun e w' he => ?_
        obtain ⟨ρ', y, rfl, g1, g2, g3⟩ := he
        exact hK ρ' w' y g1 g2 g3
theorem seqE_ok (hE : EnvOk P E) (hcf : CallOk P cf) {ops : Array Oper} {Q : Exit → Act → World → Prop} (l : List Oper) : ∀ {r r' : Tr AV} {H H' : AH} {ρ : Rho} {a : Act} {w : World}, seqE E cf nt ops.toList l r H = some (r', H') → Regs ρ r a → Rel ρ H w → a.tmps.size = nt →
    (∀ ρ' a' w', Regs ρ' r' a' → Rel ρ' H' w' → Stp ρ H w ρ' H' w' → a'.tmps.size = nt → a'.defers = a.defers → Q .normal a' w') → wpList P ops Q l a w := by
  induction l with
  | nil => intro r r' H H' ρ a w h hg hr hs hQ; cases h; exact hQ ρ a w hg hr (Stp.refl _ _ _) hs rfl
  | cons o l ih =>
    intro r r' H H' ρ a w h hg hr hs hQ
    change ((wantE ops.toList r o).bind fun b => bif b
      then (stepE E cf r H o.op).bind fun p => (putE nt r o.dst p.1).bind fun r' => seqE E cf nt ops.toList l r' p.2
      else (putE nt r o.dst (.tup [])).bind fun r' => seqE E cf nt ops.toList l r' H) = some (r', H') at h
    simp only [Option.bind_eq_some_iff] at h
    obtain ⟨b, hb, h⟩ := h
    have hw := wantE_ok hg hb
    unfold wpList
    cases b with
    | true =>
      rw [if_pos hw]
      refine .inl ?_
      simp only [cond_true, Option.bind_eq_some_iff] at h
      obtain ⟨⟨x, H1⟩, hx, r1, hr1, h⟩ := h
      refine stepE_ok hE hcf hr hg hx fun ρ' w' y g1 g2 g3 => ?_
      obtain ⟨k1, k2, k3⟩ := (hg.mono g3.le).put g1 hr1 hs
      exact ih h k1 g2 k2 fun ρ'' a' w'' m1 m2 m3 m4 m5 => hQ ρ'' a' w'' m1 m2 (g3.trans m3) m4 (m5.trans k3)
    | false =>
      rw [if_neg (by rw [hw]; simp)]
      simp only [cond_false, Option.bind_eq_some_iff] at h
      obtain ⟨r1, hr1, h⟩ := h
      obtain ⟨k1, k2, k3⟩ := hg.put (x := .tup []) (y := undef) (.tup _ _ .nil) hr1 hs
      exact ih h k1 hr k2 fun ρ'' a' w'' m1 m2 m3 m4 m5 => hQ ρ'' a' w'' m1 m2 m3 m4 (m5.trans k3)

theorem stepE_log (hlg : LogOk cf) {op : Op} {x : AV} {H' : AH} (h : stepE E cf r H op = some (x, H')) : Logged H H' := by
  unfold stepE at h
  split at h
  · cases h; exact Logged.refl _
  · split at h
    · cases h; exact Logged.new _ _
    · split at h
      · rename_i p hp
        cases h
        exact effE_log hp
      · simp only [Option.bind_eq_some_iff] at h
        obtain ⟨p, hp, h⟩ := h
        exact hlg _ _ _ _ _ h
theorem seqE_log (hlg : LogOk cf) {ops : List Oper} (l : List Oper) : ∀ {r r' : Tr AV} {H H' : AH}, seqE E cf nt ops l r H = some (r', H') → Logged H H' := by
  induction l with
  | nil => intro r r' H H' h; cases h; exact Logged.refl _
  | cons o l ih =>
    intro r r' H H' h
    change ((wantE ops r o).bind fun b => bif b
      then (stepE E cf r H o.op).bind fun p => (putE nt r o.dst p.1).bind fun r' => seqE E cf nt ops l r' p.2
      else (putE nt r o.dst (.tup [])).bind fun r' => seqE E cf nt ops l r' H) = some (r', H') at h
    simp only [Option.bind_eq_some_iff] at h
    obtain ⟨b, hb, h⟩ := h
    cases b with
    | true =>
      simp only [cond_true, Option.bind_eq_some_iff] at h
      obtain ⟨⟨x, H1⟩, hx, r1, hr1, h⟩ := h
      exact (stepE_log hlg hx).trans (ih h)
    | false =>
      simp only [cond_false, Option.bind_eq_some_iff] at h
      obtain ⟨r1, hr1, h⟩ := h
      exact ih h

/-! ### Loops -/
def LoopWp (P : Program) (c : Code) (Q : Exit → Act → World → Prop) (a : Act) (w : World) : Prop :=
  ∀ (b : Frame) (k : List Item) (cs : List Frame), ∃ e a' w', Q e a' w' ∧ Arrives P (lone (b.at a (.code c :: .inLoop c :: k)) cs w) b k cs e a' w'
theorem LoopWp.step {c : Code} {Q : Exit → Act → World → Prop} (h : c.wp P (Exit.then (LoopWp P c Q) Q) a w) : LoopWp P c Q a w := by
  intro b k cs
  obtain ⟨e, a₁, w₁, hq, harr⟩ := h b (.inLoop c :: k) cs
  cases e with
  | normal =>
    obtain ⟨e₂, a₂, w₂, hq₂, harr₂⟩ := hq b k cs
    exact ⟨e₂, a₂, w₂, hq₂, .of_steps (Steps.trans harr (.one step_inLoop)) harr₂⟩
  | exit id => exact ⟨_, a₁, w₁, hq, .pass (x := .inLoop c) rfl (fun _ _ => .inl (by simp)) harr⟩
  | goto l => exact ⟨_, a₁, w₁, hq, .pass (x := .inLoop c) rfl (fun _ _ => .inl (by simp)) harr⟩
  | ret => exact ⟨_, a₁, w₁, hq, .pass (x := .inLoop c) rfl (fun _ _ => .inl (by simp)) harr⟩
  | panic ch => exact ⟨_, a₁, w₁, hq, .pass (x := .inLoop c) rfl (fun _ _ => .inl (by simp)) harr⟩
  | outgrown => exact ⟨_, a₁, w₁, hq, .pass (x := .inLoop c) rfl (fun _ _ => .inl (by simp)) harr⟩
theorem LoopWp.loop {c : Code} {Q : Exit → Act → World → Prop} (h : LoopWp P c Q a w) : (Code.loop c).wp P Q a w := by
  intro b k cs
  obtain ⟨e, a', w', hq, harr⟩ := h b k cs
  exact ⟨e, a', w', hq, .of_steps (.one step_loop) harr⟩
/-- What the machine here says of a piece of code is so. -/
def CodeOk (P : Program) (nt : Nat) (c : Code) (ev : Tr AV → AH → Option (XE × Tr AV × AH)) : Prop :=
  ∀ r H e r' H', ev r H = some (e, r', H') → ∀ (ρ : Rho) (a : Act) (w : World) (Q : Exit → Act → World → Prop), Regs ρ r a → Rel ρ H w → a.tmps.size = nt →
    (∀ ρ' a' w', Regs ρ' r' a' → Rel ρ' H' w' → Stp ρ H w ρ' H' w' → a'.tmps.size = nt → a'.defers = a.defers → Q e.x a' w') → c.wp P Q a w
theorem loop_ok {c : Code} {body : Tr AV → AH → Option (XE × Tr AV × AH)} (hb : CodeOk P nt c body) (n : Nat) : CodeOk P nt (.loop c) (loopE body n) := by
  have key : ∀ n r H e r' H', loopE body n r H = some (e, r', H') → ∀ (ρ : Rho) (a : Act) (w : World) (Q : Exit → Act → World → Prop), Regs ρ r a → Rel ρ H w → a.tmps.size = nt →
    (∀ ρ' a' w', Regs ρ' r' a' → Rel ρ' H' w' → Stp ρ H w ρ' H' w' → a'.tmps.size = nt → a'.defers = a.defers → Q e.x a' w') → LoopWp P c Q a w := by
    intro n
    induction n with
    | zero => intro r H e r' H' h; cases h
    | succ n ih =>
      intro r H e r' H' h ρ a w Q hg hr hs hQ
      change ((body r H).bind fun p => match p.1 with
        | .normal => loopE body n p.2.1 p.2.2
        | .exit id => some (.exit id, p.2)
        | .ret => some (.ret, p.2)) = some (e, r', H') at h
      simp only [Option.bind_eq_some_iff] at h
      obtain ⟨⟨e1, r1, H1⟩, h1, h⟩ := h
      refine LoopWp.step (hb r H e1 r1 H1 h1 ρ a w _ hg hr hs fun ρ' a' w' g1 g2 g3 g4 g5 => ?_)
      cases e1 with
      | normal => exact ih r1 H1 e r' H' h ρ' a' w' Q g1 g2 g4 fun ρ'' a'' w'' m1 m2 m3 m4 m5 => hQ ρ'' a'' w'' m1 m2 (g3.trans m3) m4 (m5.trans g5)
      | exit id => cases h; exact hQ ρ' a' w' g1 g2 g3 g4 g5
      | ret => cases h; exact hQ ρ' a' w' g1 g2 g3 g4 g5
  intro r H e r' H' h ρ a w Q hg hr hs hQ
  exact (key n r H e r' H' h ρ a w Q hg hr hs hQ).loop
theorem loop_log {body : Tr AV → AH → Option (XE × Tr AV × AH)} (hb : ∀ r H e r' H', body r H = some (e, r', H') → Logged H H') (n : Nat) : ∀ r H e r' H', loopE body n r H = some (e, r', H') → Logged H H' := by
  induction n with
  | zero => intro r H e r' H' h; cases h
  | succ n ih =>
    intro r H e r' H' h
    change ((body r H).bind fun p => match p.1 with
      | .normal => loopE body n p.2.1 p.2.2
      | .exit id => some (.exit id, p.2)
      | .ret => some (.ret, p.2)) = some (e, r', H') at h
    simp only [Option.bind_eq_some_iff] at h
    obtain ⟨⟨e1, r1, H1⟩, h1, h⟩ := h
    cases e1 with
    | normal => exact (hb _ _ _ _ _ h1).trans (ih _ _ _ _ _ h)
    | exit id => cases h; exact hb _ _ _ _ _ h1
    | ret => cases h; exact hb _ _ _ _ _ h1
end
end Go.Proofs.YtapinochbblfbaaGreatDoor.E
namespace Go.Proofs.YtapinochbblfbaaGreatDoor.E
open Go
set_option linter.unusedVariables false
set_option linter.unusedSimpArgs false
def DR : Type := List Oper → Tr AV → AH → Option (Tr AV × AH)
def DrawOk (P : Program) (nt : Nat) (dr : DR) : Prop :=
  ∀ (ops : Array Oper) r H r' H', dr ops.toList r H = some (r', H') → ∀ (id : Nat) (ρ : Rho) (a : Act) (w : World) (Q : Exit → Act → World → Prop), Regs ρ r a → Rel ρ H w → a.tmps.size = nt →
    (∀ ρ' a' w', Regs ρ' r' a' → Rel ρ' H' w' → Stp ρ H w ρ' H' w' → a'.tmps.size = nt → a'.defers = a.defers → Q .normal a' w') → (Code.region id ops true).wp P Q a w
abbrev EV : Type := Tr AV → AH → Option (XE × Tr AV × AH)
noncomputable def codeE (E : Env) (cf : CF) (dr : DR) (n nt : Nat) (c : Code) : EV :=
  Code.rec (motive := fun _ => EV)
    (fun r H => some (.normal, r, H))
    (fun _ ops draw r H => (bif draw then dr ops.toList r H else seqE E cf nt ops.toList ops.toList r H).bind fun p => some (.normal, p))
    (fun _ _ fa fb r H => (fa r H).bind fun p => match p.1 with
      | .normal => fb p.2.1 p.2.2
      | .exit id => some (.exit id, p.2)
      | .ret => some (.ret, p.2))
    (fun c _ _ fa fb r H => (evO r c).bind fun x => match x with
      | .bool b => bif b then fa r H else fb r H
      | _ => none)
    (fun id _ fa r H => (fa r H).bind fun p => match p.1 with
      | .normal => some (.normal, p.2)
      | .exit id' => bif Nat.beq id' id then some (.normal, p.2) else some (.exit id', p.2)
      | .ret => some (.ret, p.2))
    (fun _ fa => loopE fa n)
    (fun _ _ _ _ _ _ _ _ => none)
    (fun id r H => some (.exit id, r, H))
    (fun _ fa => fa)
    (fun _ _ _ => none)
    (fun _ _ _ => none)
    (fun r H => some (.ret, r, H))
    (fun _ _ _ => none) c
noncomputable def resL (T : TypeId → Option TI) (H : AH) (r : Tr AV) (l : List ResultVar) : Option (List AV) :=
  List.rec (motive := fun _ => Option (List AV)) (some []) (fun v _ ih => (match v with
    | .tmp t => r.get t
    | .cell a t => (r.get a).bind fun p => loadE T H t p).bind fun x => ih.bind fun l => some (x :: l)) l
noncomputable def resV (l : List AV) : AV :=
  match l with
  | [x] => x
  | l => .tup l
noncomputable def callE (E : Env) (cf : CF) (dr : Nat → DR) (n : Nat) (d : FD) (xs : List AV) (H : AH) : Option (AV × AH) :=
  bif Nat.ble xs.length d.nt then
    (codeE E cf (dr d.nt) n d.nt d.code (Tr.leaf.puts 0 xs) H).bind fun p => match p.1 with
      | .exit _ => none
      | _ => (resL E.T p.2.2 p.2.1 d.res).bind fun l => some (resV l, p.2.2)
  else none
noncomputable def evalF (E : Env) (F : FuncId → Option FD) (hooks : CF) (dr : CF → Nat → DR) (n : Nat) (depth : Nat) : CF :=
  Nat.rec (motive := fun _ => CF) (fun _ _ _ => none) (fun _ ih f xs H => match hooks f xs H with
    | some p => some p
    | none => (F f).bind fun d => callE E ih (dr ih) n d xs H) depth
section
variable {P : Program} {E : Env} {cf : CF} {dr : DR} {n nt : Nat} {w : World} {ρ : Rho} {H : AH} {r : Tr AV} {a : Act}
theorem codeE_ok (hE : EnvOk P E) (hcf : CallOk P cf) (hdr : DrawOk P nt dr) (c : Code) : CodeOk P nt c (codeE E cf dr n nt c) := by
  induction c with
  | skip =>
    intro r H e r' H' h ρ a w Q hg hr hs hQ
    cases h
    exact wp_skip (hQ ρ a w hg hr (Stp.refl _ _ _) hs rfl)
  | region id ops draw =>
    intro r H e r' H' h ρ a w Q hg hr hs hQ
    change ((bif draw then dr ops.toList r H else seqE E cf nt ops.toList ops.toList r H).bind fun p => some (XE.normal, p)) = some (e, r', H') at h
    simp only [Option.bind_eq_some_iff, Option.some.injEq, Prod.mk.injEq] at h
    obtain ⟨p, hp, rfl, rfl⟩ := h
    cases draw with
    | true => exact hdr ops r H r' H' hp id ρ a w Q hg hr hs hQ
    | false => exact wp_region_list (seqE_ok hE hcf ops.toList hp hg hr hs hQ)
  | seq x y ihx ihy =>
    intro r H e r' H' h ρ a w Q hg hr hs hQ
    change ((codeE E cf dr n nt x r H).bind fun p => match p.1 with
      | .normal => codeE E cf dr n nt y p.2.1 p.2.2
      | .exit id => some (.exit id, p.2)
      | .ret => some (.ret, p.2)) = some (e, r', H') at h
    simp only [Option.bind_eq_some_iff] at h
    obtain ⟨⟨e1, r1, H1⟩, h1, h⟩ := h
    refine wp_seq (ihx r H e1 r1 H1 h1 ρ a w _ hg hr hs fun ρ' a' w' g1 g2 g3 g4 g5 => ?_)
    cases e1 with
    | normal => exact ihy r1 H1 e r' H' h ρ' a' w' Q g1 g2 g4 fun ρ'' a'' w'' m1 m2 m3 m4 m5 => hQ ρ'' a'' w'' m1 m2 (g3.trans m3) m4 (m5.trans g5)
    | exit id => cases h; exact hQ ρ' a' w' g1 g2 g3 g4 g5
    | ret => cases h; exact hQ ρ' a' w' g1 g2 g3 g4 g5
  | cond c x y ihx ihy =>
    intro r H e r' H' h ρ a w Q hg hr hs hQ
    change ((evO r c).bind fun v => match v with
      | .bool b => bif b then codeE E cf dr n nt x r H else codeE E cf dr n nt y r H
      | _ => none) = some (e, r', H') at h
    simp only [Option.bind_eq_some_iff] at h
    obtain ⟨v, hv, h⟩ := h
    have k := evO_ok hg hv
    split at h
    · rename_i b
      cases hb : a.eval c <;> rw [hb] at k <;> cases k
      cases b with
      | true => exact wp_cond_true hb (ihx r H e r' H' h ρ a w Q hg hr hs hQ)
      | false => exact wp_cond_false hb (ihy r H e r' H' h ρ a w Q hg hr hs hQ)
    · cases h
  | block id x ih =>
    intro r H e r' H' h ρ a w Q hg hr hs hQ
    change ((codeE E cf dr n nt x r H).bind fun p => match p.1 with
      | .normal => some (XE.normal, p.2)
      | .exit id' => bif Nat.beq id' id then some (.normal, p.2) else some (.exit id', p.2)
      | .ret => some (.ret, p.2)) = some (e, r', H') at h
    simp only [Option.bind_eq_some_iff] at h
    obtain ⟨⟨e1, r1, H1⟩, h1, h⟩ := h
    refine wp_block (ih r H e1 r1 H1 h1 ρ a w _ hg hr hs fun ρ' a' w' g1 g2 g3 g4 g5 => ?_)
    cases e1 with
    | normal => cases h; exact hQ ρ' a' w' g1 g2 g3 g4 g5
    | exit id' =>
      dsimp only at h
      show if id' = id then Q .normal a' w' else Q (.exit id') a' w'
      by_cases hid : id' = id
      · subst hid
        rw [if_pos rfl]
        simp at h
        obtain ⟨rfl, rfl, rfl⟩ := h
        exact hQ ρ' a' w' g1 g2 g3 g4 g5
      · rw [if_neg hid]
        rw [nbeq_false hid] at h
        cases h
        exact hQ ρ' a' w' g1 g2 g3 g4 g5
    | ret => cases h; exact hQ ρ' a' w' g1 g2 g3 g4 g5
  | loop x ih => exact loop_ok ih n
  | rangeFunc f ps x y ihx ihy => intro r H e r' H' h; cases h
  | exit id =>
    intro r H e r' H' h ρ a w Q hg hr hs hQ
    cases h
    exact wp_exit (hQ ρ a w hg hr (Stp.refl _ _ _) hs rfl)
  | scope x ih =>
    intro r H e r' H' h ρ a w Q hg hr hs hQ
    refine wp_scope_straight (ih r H e r' H' h ρ a w _ hg hr hs fun ρ' a' w' g1 g2 g3 g4 g5 => ?_)
    have := hQ ρ' a' w' g1 g2 g3 g4 g5
    cases e <;> exact this
  | label l => intro r H e r' H' h; cases h
  | goto l => intro r H e r' H' h; cases h
  | ret =>
    intro r H e r' H' h ρ a w Q hg hr hs hQ
    cases h
    exact wp_ret (hQ ρ a w hg hr (Stp.refl _ _ _) hs rfl)
  | refuse s => intro r H e r' H' h; cases h
def resOne (tmps : Array Value) : ResultVar → Sem Value
  | .tmp t => pure (tmps.getD t undef)
  | .cell b t => do loadVar t (← asAddr (tmps.getD b undef))
def valOf : List Value → Value
  | [x] => x
  | vs => .tuple vs.toArray
theorem resL_ok (hE : EnvOk P E) (hr : Rel ρ H w) (hg : Regs ρ r a) (l : List ResultVar) : ∀ {xs : List AV}, resL E.T H r l = some xs → ∃ vs, (l.mapM (resOne a.tmps)).run P w = .ok vs w ∧ RL ρ xs vs := by
  induction l with
  | nil => intro xs h; cases h; exact ⟨[], rfl, .nil⟩
  | cons v l ih =>
    intro xs h
    change ((match v with
      | .tmp t => r.get t
      | .cell b t => (r.get b).bind fun p => loadE E.T H t p).bind fun x => (resL E.T H r l).bind fun l => some (x :: l)) = some xs at h
    simp only [Option.bind_eq_some_iff, Option.some.injEq] at h
    obtain ⟨x, hx, ys, hys, rfl⟩ := h
    obtain ⟨vs, h1, h2⟩ := ih hys
    cases v with
    | tmp t =>
      have k := hg t x hx
      exact ⟨a.tmps.getD t undef :: vs, by simp only [List.mapM_cons, resOne, Sem.run_bind, Sem.run_pure, Result.andThen_ok, h1], .cons _ _ _ _ k h2⟩
    | cell b t =>
      simp only [Option.bind_eq_some_iff] at hx
      obtain ⟨p, hp, hx⟩ := hx
      have k := hg b p hp
      obtain ⟨y, g1, g2⟩ := run_loadVar_ok (P := P) hE.T hr hx k
      refine ⟨y :: vs, ?_, .cons _ _ _ _ g2 h2⟩
      unfold loadE at hx
      split at hx
      · generalize hv : a.tmps.getD b undef = pv at k g1
        cases k
        simp only [Instr.loadAt, Instr.sureAddr, Sem.run_bind, Sem.run_pure, Result.andThen_ok] at g1
        have g3 : (resOne a.tmps (.cell b t)).run P w = .ok y w := by
          show (do loadVar t (← asAddr (a.tmps.getD b undef)) : Sem Value).run P w = _
          rw [hv]; exact g1
        simp only [List.mapM_cons, Sem.run_bind, Sem.run_pure, Result.andThen_ok, g3, h1]
      · cases hx
theorem run_results {fn : Func} {l : List ResultVar} {tmps : Array Value} {vs : List Value} (hl : fn.results.toList = l)
    (h : (l.mapM (resOne tmps)).run P w = .ok vs w) :
    (results fn tmps).run P w = .ok (valOf vs) w := by
  have e0 : results fn tmps = (do
      let vs ← fn.results.mapM (resOne tmps)
      pure (if h : vs.size = 1 then vs[0] else .tuple vs)) := rfl
  have e : (fn.results.mapM (resOne tmps)).run P w = .ok vs.toArray w := by
    rw [Array.mapM_eq_mapM_toList, hl, map_eq_pure_bind, Sem.run_bind, h]; rfl
  rw [e0, Sem.run_bind, e, Result.andThen_ok, Sem.run_pure]
  congr 1
  match vs with
  | [] => rfl
  | [x] => rfl
  | x :: y :: l => simp [valOf]
theorem resV_ok {xs : List AV} {vs : List Value} (h : RL ρ xs vs) : R ρ (resV xs) (valOf vs) := by
  cases h with
  | nil => exact .tup _ _ .nil
  | cons x y xs ys h hs =>
    cases hs with
    | nil => exact h
    | cons x' y' xs ys h' hs => exact .tup _ _ (.cons _ _ _ _ h (.cons _ _ _ _ h' hs))
theorem regs_start {xs : List AV} {args : Array Value} (h : RL ρ xs args.toList) (k : Nat) : Regs ρ (Tr.leaf.puts 0 xs) { tmps := args ++ Array.replicate k undef, defers := [] } := by
  intro i x hx
  have hx' := get_leaf_puts xs i x hx
  obtain ⟨y, hy, hR⟩ := h.get i x hx'
  rw [Array.getElem?_toList] at hy
  have hlt : i < args.size := (Array.getElem?_eq_some_iff.1 hy).1
  have : (args ++ Array.replicate k undef).getD i undef = y := by
    rw [Array.getD_eq_getD_getElem?, Array.getElem?_append_left hlt, hy]; rfl
  show R ρ x ((args ++ Array.replicate k undef).getD i undef)
  rw [this]; exact hR
theorem callE_ok (hE : EnvOk P E) (hcf : CallOk P cf) {dr : Nat → DR} (hdr : ∀ nt, DrawOk P nt (dr nt)) {F : FuncId → Option FD} (hF : Funs P F) {f : FuncId} {d : FD} (hd : F f = some d) {xs : List AV} {v : AV} {H' : AH} (h : callE E cf dr n d xs H = some (v, H'))
    {args : Array Value} (hr : Rel ρ H w) (hx : RL ρ xs args.toList) : (callFunc f args).run P w = .ok (.enter f args) w ∧
    Calls P f args w fun e w' => ∃ ρ' y, e = .returned y ∧ R ρ' v y ∧ Rel ρ' H' w' ∧ Stp ρ H w ρ' H' w' := by
  obtain ⟨fn, f1, f0, f2, f3, f4⟩ := hF.ok f d hd
  have hlen : xs.length = args.size := by rw [hx.length]; simp
  replace h := cond_some h
  obtain ⟨hc, h⟩ := h
  rw [Nat.ble_eq] at hc
  simp only [Option.bind_eq_some_iff] at h
  obtain ⟨⟨e, r', H1⟩, h1, h⟩ := h
  refine ⟨by simp [callFunc, f1, beq_eq_false_iff_ne.1 f0, f2], ?_⟩
  refine calls_of_wp f1 f2 (codeE_ok hE hcf (hdr d.nt) d.code _ _ _ _ _ h1 ρ _ w _ (regs_start hx _) hr (by simp; omega) fun ρ' a' w' g1 g2 g3 g4 g5 => ?_)
  have main : (resL E.T H1 r' d.res).bind (fun l => some (resV l, H1)) = some (v, H') → a'.defers = [] ∧ ∃ u, (results fn a'.tmps).run P w' = .ok u w' ∧ ∃ ρ' y, Ending.returned u = .returned y ∧ R ρ' v y ∧ Rel ρ' H' w' ∧ Stp ρ H w ρ' H' w' := by
    intro h
    simp only [Option.bind_eq_some_iff, Option.some.injEq, Prod.mk.injEq] at h
    obtain ⟨l, hl, rfl, rfl⟩ := h
    obtain ⟨vs, m1, m2⟩ := resL_ok hE g2 g1 d.res hl
    exact ⟨g5, _, run_results f4 m1, ρ', _, rfl, resV_ok m2, g2, g3⟩
  cases e with
  | normal => exact main h
  | exit id => cases h
  | ret => exact main h
theorem evalF_ok {n : Nat} (hE : EnvOk P E) {F : FuncId → Option FD} (hF : Funs P F) {hooks : CF} (hh : CallOk P hooks) {dr : CF → Nat → DR} (hlg : ∀ k, LogOk (evalF E F hooks dr n k)) (hdr : ∀ cf, CallOk P cf → LogOk cf → ∀ nt, DrawOk P nt (dr cf nt)) (depth : Nat) : CallOk P (evalF E F hooks dr n depth) := by
  induction depth with
  | zero => intro f xs H v H' h; cases h
  | succ k ih =>
    intro f xs H v H' h ρ w args hr hx
    change (match hooks f xs H with
      | some p => some p
      | none => (F f).bind fun d => callE E (evalF E F hooks dr n k) (dr (evalF E F hooks dr n k)) n d xs H) = some (v, H') at h
    split at h
    · rename_i p hp
      cases h
      exact hh f xs H v H' hp ρ w args hr hx
    · simp only [Option.bind_eq_some_iff] at h
      obtain ⟨d, hd, h⟩ := h
      exact callE_ok hE ih (hdr _ ih (hlg k)) hF hd h hr hx
theorem codeE_log (hlg : LogOk cf) (hdr : ∀ ops r H r' H', dr ops r H = some (r', H') → Logged H H') (c : Code) : ∀ r H e r' H', codeE E cf dr n nt c r H = some (e, r', H') → Logged H H' := by
  induction c with
  | skip => intro r H e r' H' h; cases h; exact Logged.refl _
  | region id ops draw =>
    intro r H e r' H' h
    change ((bif draw then dr ops.toList r H else seqE E cf nt ops.toList ops.toList r H).bind fun p => some (XE.normal, p)) = some (e, r', H') at h
    simp only [Option.bind_eq_some_iff, Option.some.injEq, Prod.mk.injEq] at h
    obtain ⟨p, hp, rfl, rfl⟩ := h
    cases draw with
    | true => exact hdr _ _ _ _ _ hp
    | false => exact seqE_log hlg _ hp
  | seq x y ihx ihy =>
    intro r H e r' H' h
    change ((codeE E cf dr n nt x r H).bind fun p => match p.1 with
      | .normal => codeE E cf dr n nt y p.2.1 p.2.2
      | .exit id => some (.exit id, p.2)
      | .ret => some (.ret, p.2)) = some (e, r', H') at h
    simp only [Option.bind_eq_some_iff] at h
    obtain ⟨⟨e1, r1, H1⟩, h1, h⟩ := h
    cases e1 with
    | normal => exact (ihx _ _ _ _ _ h1).trans (ihy _ _ _ _ _ h)
    | exit id => cases h; exact ihx _ _ _ _ _ h1
    | ret => cases h; exact ihx _ _ _ _ _ h1
  | cond c x y ihx ihy =>
    intro r H e r' H' h
    change ((evO r c).bind fun v => match v with
      | .bool b => bif b then codeE E cf dr n nt x r H else codeE E cf dr n nt y r H
      | _ => none) = some (e, r', H') at h
    simp only [Option.bind_eq_some_iff] at h
    obtain ⟨v, hv, h⟩ := h
    split at h
    · rename_i b
      cases b with
      | true => exact ihx _ _ _ _ _ h
      | false => exact ihy _ _ _ _ _ h
    · cases h
  | block id x ih =>
    intro r H e r' H' h
    change ((codeE E cf dr n nt x r H).bind fun p => match p.1 with
      | .normal => some (XE.normal, p.2)
      | .exit id' => bif Nat.beq id' id then some (.normal, p.2) else some (.exit id', p.2)
      | .ret => some (.ret, p.2)) = some (e, r', H') at h
    simp only [Option.bind_eq_some_iff] at h
    obtain ⟨⟨e1, r1, H1⟩, h1, h⟩ := h
    cases e1 with
    | normal => cases h; exact ih _ _ _ _ _ h1
    | exit id' => rcases cond_two h with h | h <;> cases h <;> exact ih _ _ _ _ _ h1
    | ret => cases h; exact ih _ _ _ _ _ h1
  | loop x ih => exact loop_log ih n
  | rangeFunc f ps x y ihx ihy => intro r H e r' H' h; cases h
  | exit id => intro r H e r' H' h; cases h; exact Logged.refl _
  | scope x ih => exact ih
  | label l => intro r H e r' H' h; cases h
  | goto l => intro r H e r' H' h; cases h
  | ret => intro r H e r' H' h; cases h; exact Logged.refl _
  | refuse s => intro r H e r' H' h; cases h
theorem callE_log (hlg : LogOk cf) {dr : Nat → DR} (hdr : ∀ nt ops r H r' H', dr nt ops r H = some (r', H') → Logged H H') {d : FD} {xs : List AV} {v : AV} {H' : AH} (h : callE E cf dr n d xs H = some (v, H')) : Logged H H' := by
  replace h := cond_some h
  obtain ⟨hc, h⟩ := h
  simp only [Option.bind_eq_some_iff] at h
  obtain ⟨⟨e, r', H1⟩, h1, h⟩ := h
  have g := codeE_log hlg (hdr d.nt) d.code _ _ _ _ _ h1
  have key : (resL E.T H1 r' d.res).bind (fun l => some (resV l, H1)) = some (v, H') → Logged H H' := by
    intro h
    simp only [Option.bind_eq_some_iff, Option.some.injEq, Prod.mk.injEq] at h
    obtain ⟨l, hl, rfl, rfl⟩ := h
    exact g
  cases e with
  | normal => exact key h
  | exit id => cases h
  | ret => exact key h
theorem evalF_log {F : FuncId → Option FD} {hooks : CF} (hh : LogOk hooks) {dr : CF → Nat → DR} (hdr : ∀ cf, LogOk cf → ∀ nt ops r H r' H', dr cf nt ops r H = some (r', H') → Logged H H') (n depth : Nat) : LogOk (evalF E F hooks dr n depth) := by
  induction depth with
  | zero => intro f xs H v H' h; cases h
  | succ k ih =>
    intro f xs H v H' h
    change (match hooks f xs H with
      | some p => some p
      | none => (F f).bind fun d => callE E (evalF E F hooks dr n k) (dr (evalF E F hooks dr n k)) n d xs H) = some (v, H') at h
    split at h
    · rename_i p hp
      cases h
      exact hh _ _ _ _ _ hp
    · simp only [Option.bind_eq_some_iff] at h
      obtain ⟨d, hd, h⟩ := h
      exact callE_log ih (hdr _ ih) h
end
end Go.Proofs.YtapinochbblfbaaGreatDoor.E
namespace Go.Proofs.YtapinochbblfbaaGreatDoor.E
open Go
set_option linter.unusedVariables false
set_option linter.unusedSimpArgs false
/-! ### Sets of numbers as numbers -/
noncomputable def hasB (m i : Nat) : Bool := Nat.beq (Nat.land (Nat.shiftRight m i) 1) 1
theorem hasB_eq (m i : Nat) : hasB m i = m.testBit i := by
  have h1 : Nat.land (Nat.shiftRight m i) 1 = m >>> i % 2 := Nat.and_one_is_mod _
  unfold hasB
  rw [h1, Nat.testBit_eq_decide_div_mod_eq, Nat.shiftRight_eq_div_pow]
  rw [Bool.eq_iff_iff, Nat.beq_eq, decide_eq_true_iff]
theorem hasB_or (a b i : Nat) : hasB (Nat.lor a b) i = (hasB a i || hasB b i) := by
  rw [hasB_eq, hasB_eq, hasB_eq]; exact Nat.testBit_or a b i
theorem hasB_bit (n i : Nat) : hasB (2 ^ n) i = decide (n = i) := by
  rw [hasB_eq, Nat.testBit_two_pow]
theorem hasB_zero (i : Nat) : hasB 0 i = false := by rw [hasB_eq]; exact Nat.zero_testBit i
theorem hasB_all (n i : Nat) (h : i < n) : hasB (Nat.sub (2 ^ n) 1) i = true := by
  rw [hasB_eq]
  have : Nat.sub (2 ^ n) 1 = 2 ^ n - 1 := rfl
  rw [this, Nat.testBit_two_pow_sub_one]
  simpa using h
theorem sub_of_lor {a b : Nat} (h : Nat.beq (Nat.lor a b) b = true) {i : Nat} (hi : hasB a i = true) : hasB b i = true := by
  have e := Nat.eq_of_beq_eq_true h
  rw [← e, hasB_or, hi]; rfl

/-! ### The text of a region -/
noncomputable def allI {α : Type} (f : Nat → α → Bool) (l : List α) : Nat → Bool :=
  List.rec (motive := fun _ => Nat → Bool) (fun _ => true) (fun x _ ih i => bif f i x then ih (Nat.succ i) else false) l
theorem allI_ok {α : Type} {f : Nat → α → Bool} {l : List α} : ∀ {k : Nat}, allI f l k = true → ∀ (i : Nat) (x : α), l[i]? = some x → f (k + i) x = true := by
  induction l with
  | nil => intro k _ i x h; simp at h
  | cons a l ih =>
    intro k h i x hx
    replace h := cond_some (α := Unit) (x := bif allI f l (k + 1) then some () else none) (y := ()) (c := f k a) (by
      have h' : (bif f k a then allI f l (k + 1) else false) = true := h
      cases hc : f k a <;> rw [hc] at h' <;> simp_all)
    obtain ⟨h1, h2⟩ := h
    cases i with
    | zero => simp at hx; subst hx; simpa using h1
    | succ i =>
      have h3 : allI f l (k + 1) = true := by cases hc : allI f l (k + 1) <;> simp_all
      have := ih h3 i x (by simpa using hx)
      rwa [show k + 1 + i = k + (i + 1) by omega] at this
noncomputable def bindsE (e : Edge) : Bool :=
  match e.ground with
  | .textOnly _ => false
  | .gcOnly _ => false
  | _ => true
theorem bindsE_eq (e : Edge) : Region.binds .any e = bindsE e := by
  unfold Region.binds bindsE
  cases e.ground <;> rfl
noncomputable def depL (D : Tr Nat) (l : List Edge) : Nat :=
  List.rec (motive := fun _ => Nat) 0 (fun e _ ih => bif bindsE e then Nat.lor (Nat.lor (2 ^ e.on) ((D.get e.on).getD 0)) ih else ih) l
noncomputable def depsE (ops : List Oper) : Nat → Tr Nat → Tr Nat :=
  List.rec (motive := fun _ => Nat → Tr Nat → Tr Nat) (fun _ D => D) (fun o _ ih i D => ih (Nat.succ i) (D.set i (depL D o.after.toList))) ops
noncomputable def tmpsL (l : List Operand) (k : List Tmp) : List Tmp :=
  List.rec (motive := fun _ => List Tmp) k (fun o _ ih => match o with | .tmp t => t :: ih | _ => ih) l
noncomputable def looksE (ops : List Oper) (o : Oper) : List Tmp :=
  tmpsL o.op.operands.toList (match o.guard with
    | none => []
    | some g => match dstOf ops g.1 with
      | some d => [d]
      | none => [])
noncomputable def memN (t : Nat) (l : List Nat) : Bool :=
  List.rec (motive := fun _ => Bool) false (fun x _ ih => bif Nat.beq x t then true else ih) l
theorem memN_ok {t : Nat} {l : List Nat} : memN t l = true ↔ t ∈ l := by
  induction l with
  | nil => simp [memN]
  | cons x l ih =>
    show (bif Nat.beq x t then true else memN t l) = true ↔ _
    by_cases e : x = t
    · subst e; simp
    · rw [nbeq_false e]; simp [ih]; intro h; exact absurd h.symm e
noncomputable def edgesOk (i : Nat) (l : List Edge) : Bool :=
  List.rec (motive := fun _ => Bool) true (fun e _ ih => bif bindsE e then (bif Nat.blt e.on i then ih else false) else ih) l
theorem edgesOk_ok {i : Nat} {l : List Edge} (h : edgesOk i l = true) : ∀ e ∈ l, bindsE e = true → e.on < i := by
  induction l with
  | nil => intro e he; cases he
  | cons a l ih =>
    intro e he hb
    change (bif bindsE a then (bif Nat.blt a.on i then edgesOk i l else false) else edgesOk i l) = true at h
    cases he with
    | head =>
      rw [hb] at h
      cases hc : Nat.blt a.on i with
      | true => simpa [Nat.blt_eq] using hc
      | false => rw [hc] at h; cases h
    | tail _ he =>
      refine ih ?_ e he hb
      cases h1 : bindsE a <;> rw [h1] at h
      · exact h
      · cases h2 : Nat.blt a.on i <;> rw [h2] at h
        · cases h
        · exact h
noncomputable def pairOk (D : Tr Nat) (i : Nat) (lk : List Tmp) (dst : Option Tmp) (j : Nat) (o : Oper) : Bool :=
  match o.dst with
  | none => true
  | some t => (bif Nat.beq i j then true else match dst with | none => true | some u => !(Nat.beq u t)) && (bif memN t lk then (bif Nat.blt j i then hasB ((D.get i).getD 0) j else true) && (bif Nat.blt i j then hasB ((D.get j).getD 0) i else true) else true)
noncomputable def textE (ops : List Oper) (D : Tr Nat) : Bool :=
  allI (fun i o => edgesOk i o.after.toList && (Nat.beq ((D.get i).getD 0) (depL D o.after.toList) && allI (fun j o' => pairOk D i (looksE ops o) o.dst j o') ops 0)) ops 0
/-- What the text's look says. -/
structure Text (ops : List Oper) (D : Nat → Nat) : Prop where
  edge : ∀ i o, ops[i]? = some o → ∀ e ∈ o.after.toList, bindsE e = true → e.on < i ∧ hasB (D i) e.on = true ∧ ∀ j, hasB (D e.on) j = true → hasB (D i) j = true
  conv : ∀ i o, ops[i]? = some o → ∀ j, hasB (D i) j = true → ∃ e ∈ o.after.toList, bindsE e = true ∧ (j = e.on ∨ hasB (D e.on) j = true)
  looks : ∀ i o j o' t, ops[i]? = some o → ops[j]? = some o' → o'.dst = some t → t ∈ looksE ops o → (j < i → hasB (D i) j = true) ∧ (i < j → hasB (D j) i = true)
  dist : ∀ (i : Nat) (o : Oper) (j : Nat) (o' : Oper) (t : Tmp), ops[i]? = some o → ops[j]? = some o' → o.dst = some t → o'.dst = some t → i = j
theorem depL_has {D : Tr Nat} {l : List Edge} {j : Nat} : hasB (depL D l) j = true ↔ ∃ e ∈ l, bindsE e = true ∧ (j = e.on ∨ hasB ((D.get e.on).getD 0) j = true) := by
  induction l with
  | nil => simp [depL, hasB_zero]
  | cons a l ih =>
    have e0 : depL D (a :: l) = bif bindsE a then Nat.lor (Nat.lor (2 ^ a.on) ((D.get a.on).getD 0)) (depL D l) else depL D l := rfl
    rw [e0]
    cases hb : bindsE a
    · simp only [cond_false, ih, List.mem_cons]
      constructor
      · rintro ⟨e, he, h⟩; exact ⟨e, .inr he, h⟩
      · rintro ⟨e, rfl | he, h⟩
        · rw [hb] at h; simp at h
        · exact ⟨e, he, h⟩
    · simp only [cond_true, hasB_or, hasB_bit, Bool.or_eq_true, decide_eq_true_iff, ih, List.mem_cons]
      constructor
      · rintro ((h | h) | ⟨e, he, h⟩)
        · exact ⟨a, .inl rfl, hb, .inl h.symm⟩
        · exact ⟨a, .inl rfl, hb, .inr h⟩
        · exact ⟨e, .inr he, h⟩
      · rintro ⟨e, rfl | he, h1, h | h⟩
        · exact .inl (.inl h.symm)
        · exact .inl (.inr h)
        · exact .inr ⟨e, he, h1, .inl h⟩
        · exact .inr ⟨e, he, h1, .inr h⟩
theorem textE_ok {ops : List Oper} {D : Tr Nat} (h : textE ops D = true) : Text ops (fun i => (D.get i).getD 0) := by
  have key := fun i o hi => allI_ok h i o hi
  simp only [Nat.zero_add, Bool.and_eq_true] at key
  refine ⟨fun i o hi e he hb => ?_, fun i o hi j hj => ?_, fun i o j o' t hi hj hd ht => ?_, fun i o j o' t hi hj hd hd' => ?_⟩
  · obtain ⟨h1, h2, h3⟩ := key i o hi
    have e2 := Nat.eq_of_beq_eq_true h2
    refine ⟨edgesOk_ok h1 e he hb, ?_, fun j hj => ?_⟩
    · show hasB ((D.get i).getD 0) e.on = true
      rw [e2, depL_has]; exact ⟨e, he, hb, .inl rfl⟩
    · show hasB ((D.get i).getD 0) j = true
      rw [e2, depL_has]; exact ⟨e, he, hb, .inr hj⟩
  · obtain ⟨h1, h2, h3⟩ := key i o hi
    have e2 := Nat.eq_of_beq_eq_true h2
    have hj' : hasB ((D.get i).getD 0) j = true := hj
    rw [e2, depL_has] at hj'
    exact hj'
  · obtain ⟨h1, h2, h3⟩ := key i o hi
    have h4 := allI_ok h3 j o' hj
    rw [Nat.zero_add] at h4
    unfold pairOk at h4
    rw [hd] at h4
    simp only [memN_ok.2 ht, cond_true, Bool.and_eq_true] at h4
    replace h4 := h4.2
    constructor
    · intro hlt
      have h5 := h4.1
      rw [show Nat.blt j i = true by rw [Nat.blt_eq]; exact hlt] at h5
      exact h5
    · intro hlt
      have h5 := h4.2
      rw [show Nat.blt i j = true by rw [Nat.blt_eq]; exact hlt] at h5
      exact h5
  · obtain ⟨h1, h2, h3⟩ := key i o hi
    have h4 := allI_ok h3 j o' hj
    rw [Nat.zero_add] at h4
    unfold pairOk at h4
    rw [hd', hd] at h4
    simp only [Bool.and_eq_true] at h4
    replace h4 := h4.1
    by_cases e : i = j
    · exact e
    · rw [nbeq_false e] at h4
      simp at h4

/-! ### Equality of abstract values -/
noncomputable def eqVs (f : AV → AV → Bool) (l : List AV) : List AV → Bool :=
  List.rec (motive := fun _ => List AV → Bool) (fun m => match m with | [] => true | _ => false) (fun x _ ih m => match m with | [] => false | y :: m => bif f x y then ih m else false) l
noncomputable def eqCap : Option Nat → Option Nat → Bool
  | none, none => true
  | some a, some b => Nat.beq a b
  | _, _ => false
noncomputable def eqV (n : Nat) : AV → AV → Bool :=
  Nat.rec (motive := fun _ => AV → AV → Bool) (fun _ _ => false) (fun _ ih x y => match x, y with
    | .bool a, .bool b => a == b
    | .int j a, .int k b => decide (j = k) && decide (a = b)
    | .str a, .str b => eqL a b
    | .ptr f v o k, .ptr f' v' o' k' => Nat.beq f f' && (Nat.beq v v' && (Nat.beq o o' && Nat.beq k k'))
    | .nilp, .nilp => true
    | .sl f v o l e c, .sl f' v' o' l' e' c' => Nat.beq f f' && (Nat.beq v v' && (Nat.beq o o' && (Nat.beq l l' && (Nat.beq e e' && eqCap c c'))))
    | .nils, .nils => true
    | .map f, .map f' => Nat.beq f f'
    | .nilm, .nilm => true
    | .fn g a b, .fn g' a' b' => Nat.beq g g' && (eqVs ih a a' && eqVs ih b b')
    | .nilf, .nilf => true
    | .ifc t x, .ifc t' x' => Nat.beq t t' && ih x x'
    | .nili, .nili => true
    | .agg l, .agg l' => eqVs ih l l'
    | .tup l, .tup l' => eqVs ih l l'
    | _, _ => false) n
theorem eqVs_ok {f : AV → AV → Bool} (hf : ∀ x y, f x y = true → x = y) (l : List AV) : ∀ m, eqVs f l m = true → l = m := by
  induction l with
  | nil => intro m h; cases m with | nil => rfl | cons y m => cases h
  | cons x l ih =>
    intro m h
    cases m with
    | nil => cases h
    | cons y m =>
      change (bif f x y then eqVs f l m else false) = true at h
      cases hc : f x y <;> rw [hc] at h
      · cases h
      · rw [hf x y hc, ih m h]
theorem eqCap_ok {a b : Option Nat} (h : eqCap a b = true) : a = b := by
  cases a <;> cases b <;> simp_all [eqCap]
theorem eqV_ok (n : Nat) : ∀ x y, eqV n x y = true → x = y := by
  induction n with
  | zero => intro x y h; cases h
  | succ n ih =>
    intro x y h
    have hs := eqVs_ok ih
    cases x <;> cases y <;> first | (cases h; done) | skip
    case bool.bool a b => have h' : (a == b) = true := h; rw [eq_of_beq h']
    case int.int j a k b =>
      have h' : (decide (j = k) && decide (a = b)) = true := h
      simp only [Bool.and_eq_true, decide_eq_true_iff] at h'
      rw [h'.1, h'.2]
    case str.str a b =>
      have h' : eqL a b = true := h
      rw [eqL_iff, decide_eq_true_iff] at h'
      rw [h']
    case ptr.ptr f v o k f' v' o' k' =>
      have h' : (Nat.beq f f' && (Nat.beq v v' && (Nat.beq o o' && Nat.beq k k'))) = true := h
      simp only [Bool.and_eq_true, Nat.beq_eq] at h'
      obtain ⟨rfl, rfl, rfl, rfl⟩ := h'; rfl
    case nilp.nilp => rfl
    case sl.sl f v o l e c f' v' o' l' e' c' =>
      have h' : (Nat.beq f f' && (Nat.beq v v' && (Nat.beq o o' && (Nat.beq l l' && (Nat.beq e e' && eqCap c c'))))) = true := h
      simp only [Bool.and_eq_true, Nat.beq_eq] at h'
      obtain ⟨rfl, rfl, rfl, rfl, rfl, h6⟩ := h'
      rw [eqCap_ok h6]
    case nils.nils => rfl
    case map.map f f' => have h' : Nat.beq f f' = true := h; rw [Nat.eq_of_beq_eq_true h']
    case nilm.nilm => rfl
    case fn.fn g a b g' a' b' =>
      have h' : (Nat.beq g g' && (eqVs (eqV n) a a' && eqVs (eqV n) b b')) = true := h
      simp only [Bool.and_eq_true] at h'
      rw [Nat.eq_of_beq_eq_true h'.1, hs _ _ h'.2.1, hs _ _ h'.2.2]
    case nilf.nilf => rfl
    case ifc.ifc t x t' x' =>
      have h' : (Nat.beq t t' && eqV n x x') = true := h
      simp only [Bool.and_eq_true] at h'
      rw [Nat.eq_of_beq_eq_true h'.1, ih _ _ h'.2]
    case nili.nili => rfl
    case agg.agg l l' => have h' : eqVs (eqV n) l l' = true := h; rw [hs _ _ h']
    case tup.tup l l' => have h' : eqVs (eqV n) l l' = true := h; rw [hs _ _ h']
end Go.Proofs.YtapinochbblfbaaGreatDoor.E
