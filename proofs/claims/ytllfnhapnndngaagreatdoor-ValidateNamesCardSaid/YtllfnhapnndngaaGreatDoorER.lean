/- Regions in the order of their text, the code of a function, loops. The code of functions, calls, and calls to a given depth. Regions that draw an order: what is asked of their text, and one run of them in the order of the text. One run of a region that draws, in the order of its text, and what it says of each operation. What the run in the order of the text says of every operation. Blocks made out of turn: held aside, and taken in. -/
import Derived.Test.YtllfnhapnndngaaGreatDoorEJ
import Derived.Scope
import Derived.Tactics
namespace Go.Proofs.YtllfnhapnndngaaGreatDoor.E
open Go
set_option linter.unusedVariables false
set_option linter.unusedSimpArgs false
/-- A function, as far as the machine here must know it. -/
structure FD where
  code : Code
  nt : Nat
  res : List ResultVar
structure Funs (P : Program) (F : FuncId → Option FD) : Prop where
  ok : ∀ f d, F f = some d → ∃ fn, P.funcs[f]? = some fn ∧ (fn.name == "runtime.NumGoroutine") = false ∧ fn.body = some d.code ∧ fn.ntmps = d.nt ∧ fn.results.toList = d.res
def CF : Type := FuncId → List AV → AH → Option (AV × AH)
/-- A call that the machine here answers is a call of the program's that answers alike. -/
def CallOk (P : Program) (cf : CF) : Prop :=
  ∀ f xs H v H', cf f xs H = some (v, H') → ∀ (ρ : Rho) (w : World) (args : Array Value), Rel ρ H w → RL ρ xs args.toList →
    (callFunc f args).run P w = .ok (.enter f args) w ∧
    Calls P f args w fun e w' => ∃ ρ' y, e = .returned y ∧ R ρ' v y ∧ Rel ρ' H' w' ∧ Stp ρ H w ρ' H' w'
/-- A call changes nothing but what its log says. -/
def LogOk (cf : CF) : Prop := ∀ f xs H v H', cf f xs H = some (v, H') → Logged H H'
structure Env where
  T : TypeId → Option TI
  S : TypeId → Bool
  M : TypeId → String → Option FuncId
structure EnvOk (P : Program) (E : Env) : Prop where
  T : Types P E.T
  S : Eqs P E.S
  M : Meths P E.M

noncomputable def stepE (E : Env) (cf : CF) (r : Tr AV) (H : AH) (op : Op) : Option (AV × AH) :=
  match readE E.T E.S H r op with
  | some x => some (x, H)
  | none => match allocE E.T r op with
    | some p => some (p.2 H.next, H.new p.1)
    | none => match effE E.T H r op with
      | some p => some p
      | none => (targetE E.M r op).bind fun p => cf p.1 p.2 H
noncomputable def putE (nt : Nat) (r : Tr AV) (dst : Option Tmp) (x : AV) : Option (Tr AV) :=
  match dst with
  | none => some r
  | some d => bif Nat.blt d nt then some (r.set d x) else none
noncomputable def dstOf (ops : List Oper) (j : Nat) : Option Tmp := (nth ops j).bind fun o => o.dst
noncomputable def wantE (ops : List Oper) (r : Tr AV) (o : Oper) : Option Bool :=
  match o.guard with
  | none => some true
  | some g => (dstOf ops g.1).bind fun d => (r.get d).bind fun x => match x with
    | .bool b => some (bif g.2 then b else !b)
    | .tup [] => some false
    | _ => none
noncomputable def seqE (E : Env) (cf : CF) (nt : Nat) (ops : List Oper) (l : List Oper) : Tr AV → AH → Option (Tr AV × AH) :=
  List.rec (motive := fun _ => Tr AV → AH → Option (Tr AV × AH)) (fun r H => some (r, H))
    (fun o _ ih r H => (wantE ops r o).bind fun b => bif b
      then (stepE E cf r H o.op).bind fun p => (putE nt r o.dst p.1).bind fun r' => ih r' p.2
      else (putE nt r o.dst (.tup [])).bind fun r' => ih r' H) l
inductive XE where
  | normal
  | exit (id : Nat)
  | ret
def XE.x : XE → Exit
  | .normal => .normal
  | .exit id => .exit id
  | .ret => .ret
noncomputable def loopE (body : Tr AV → AH → Option (XE × Tr AV × AH)) (n : Nat) : Tr AV → AH → Option (XE × Tr AV × AH) :=
  Nat.rec (motive := fun _ => Tr AV → AH → Option (XE × Tr AV × AH)) (fun _ _ => none)
    (fun _ ih r H => (body r H).bind fun p => match p.1 with
      | .normal => ih p.2.1 p.2.2
      | .exit id => some (.exit id, p.2)
      | .ret => some (.ret, p.2)) n
section
variable {P : Program} {E : Env} {cf : CF} {w : World} {ρ : Rho} {H : AH} {r : Tr AV} {a : Act} {nt : Nat}
theorem Regs.put {ρ : Rho} {r r' : Tr AV} {a : Act} {dst : Option Tmp} {x : AV} {y : Value} (h : Regs ρ r a) (hx : R ρ x y) (hp : putE nt r dst x = some r') (hs : a.tmps.size = nt) :
    Regs ρ r' (a.put dst y) ∧ (a.put dst y).tmps.size = nt ∧ (a.put dst y).defers = a.defers := by
  cases dst with
  | none => cases hp; exact ⟨h, hs, rfl⟩
  | some d =>
    replace hp := cond_some hp
    obtain ⟨hc, hp⟩ := hp
    rw [Nat.blt_eq] at hc
    cases hp
    refine ⟨fun i z hz => ?_, by simp [Act.put, hs], rfl⟩
    rw [Tr.get_set] at hz
    by_cases e : d = i
    · rw [if_pos e] at hz; cases hz; subst e
      simp [Act.put, hs, hc]; exact hx
    · rw [if_neg e] at hz
      have := h i z hz
      simpa [Act.put, Array.getElem?_setIfInBounds_ne e] using this
theorem wantE_ok {ops : Array Oper} {o : Oper} {b : Bool} (hg : Regs ρ r a) (h : wantE ops.toList r o = some b) : Region.wanted o (yielded ops a.tmps) = b := by
  unfold wantE at h
  unfold Region.wanted
  split at h
  · rename_i e; cases h; rw [e]
  · rename_i g e
    obtain ⟨j, want⟩ := g
    rw [e]
    simp only [dstOf, nth_eq, Option.bind_eq_some_iff] at h
    obtain ⟨d, ⟨o', ho', hd⟩, x, hx, h⟩ := h
    have k := hg d x hx
    have ho2 : ops[j]? = some o' := by rw [← Array.getElem?_toList]; exact ho'
    have hy : yielded ops a.tmps j = match a.tmps[d]? with | some (.bool b) => some b | _ => none := by
      unfold yielded
      simp only [ho2, Option.bind_some, hd]
      rfl
    simp only [hy]
    split at h
    · rename_i b'
      cases h
      have : a.tmps[d]? = some (.bool b') := by
        cases ht : a.tmps[d]? with
        | none => simp [ht, undef] at k; cases k
        | some y => simp [ht] at k; cases k; rfl
      rw [this]
      cases b' <;> cases want <;> rfl
    · cases h
      cases ht : a.tmps[d]? with
      | none => simp
      | some y =>
        simp [ht] at k
        cases k
        simp
    · cases h
def LetsK (P : Program) (ρ : Rho) (H : AH) (w : World) (x : AV) (H' : AH) (o : Oper) (a : Act) (K : Act → World → Prop) : Prop :=
  ∀ ρ' w' y, R ρ' x y → Rel ρ' H' w' → Stp ρ H w ρ' H' w' → K (a.put o.dst y) w'
theorem Ran.wp {o : Oper} {x : AV} {H' : AH} {K : Act → World → Prop} {Q : Exit → Act → World → Prop} (h : Ran P (execOp a.eval o) w ρ H x H') (hK : LetsK P ρ H w x H' o a K) : o.wp P a w K Q := by
  obtain ⟨ρ', w', y, h1, h2, h3, h4⟩ := h
  unfold Oper.wp
  rcases h1 with h1 | ⟨h1, rfl⟩
  · rw [h1]; exact hK ρ' w' y h2 h3 h4
  · rw [h1]; exact hK ρ' w' undef h2 h3 h4
theorem stepE_ok (hE : EnvOk P E) (hcf : CallOk P cf) (hr : Rel ρ H w) (hg : Regs ρ r a) {o : Oper} {x : AV} {H' : AH} (h : stepE E cf r H o.op = some (x, H')) {K : Act → World → Prop} {Q : Exit → Act → World → Prop}
    (hK : LetsK P ρ H w x H' o a K) : o.wp P a w K Q := by
  unfold stepE at h
  split at h
  · rename_i x' hx
    cases h
    obtain ⟨y, h1, h2⟩ := readE_ok hE.T hE.S hr hg hx
    exact (Ran.still hr h1 h2).wp hK
  · split at h
    · rename_i p hp
      cases h
      exact ((allocE_ok (w := w) hE.T hg (l := p.1) (mk := p.2) hp).ran hr).wp hK
    · split at h
      · rename_i p hp
        cases h
        exact (effE_ok hE.T hr hg hp).wp hK
      · simp only [Option.bind_eq_some_iff] at h
        obtain ⟨⟨f, xs⟩, hp, h⟩ := h
        obtain ⟨args, h1, h2⟩ := targetE_ok (w := w) hE.M hg hp
        obtain ⟨h3, h4⟩ := hcf f xs H x H' h ρ w args hr h2
        unfold Oper.wp
        rw [h1, h3, Oper.upon_enter]
        refine Calls.mono h4 fun e w' he => ?_
        obtain ⟨ρ', y, rfl, g1, g2, g3⟩ := he
        exact hK ρ' w' y g1 g2 g3
theorem seqE_ok (hE : EnvOk P E) (hcf : CallOk P cf) {ops : Array Oper} {Q : Exit → Act → World → Prop} (l : List Oper) : ∀ {r r' : Tr AV} {H H' : AH} {ρ : Rho} {a : Act} {w : World}, seqE E cf nt ops.toList l r H = some (r', H') → Regs ρ r a → Rel ρ H w → a.tmps.size = nt →
    (∀ ρ' a' w', Regs ρ' r' a' → Rel ρ' H' w' → Stp ρ H w ρ' H' w' → a'.tmps.size = nt → a'.defers = a.defers → Q .normal a' w') → wpList P ops Q l a w := by
  induction l with
  | nil => intro r r' H H' ρ a w h hg hr hs hQ; cases h; exact hQ ρ a w hg hr (Stp.refl _ _ _) hs rfl
  | cons o l ih =>
    intro r r' H H' ρ a w h hg hr hs hQ
    change ((wantE ops.toList r o).bind fun b => bif b
      then (stepE E cf r H o.op).bind fun p => (putE nt r o.dst p.1).bind fun r' => seqE E cf nt ops.toList l r' p.2
      else (putE nt r o.dst (.tup [])).bind fun r' => seqE E cf nt ops.toList l r' H) = some (r', H') at h
    simp only [Option.bind_eq_some_iff] at h
    obtain ⟨b, hb, h⟩ := h
    have hw := wantE_ok hg hb
    unfold wpList
    cases b with
    | true =>
      rw [if_pos hw]
      refine .inl ?_
      simp only [cond_true, Option.bind_eq_some_iff] at h
      obtain ⟨⟨x, H1⟩, hx, r1, hr1, h⟩ := h
      refine stepE_ok hE hcf hr hg hx fun ρ' w' y g1 g2 g3 => ?_
      obtain ⟨k1, k2, k3⟩ := (hg.mono g3.le).put g1 hr1 hs
      exact ih h k1 g2 k2 fun ρ'' a' w'' m1 m2 m3 m4 m5 => hQ ρ'' a' w'' m1 m2 (g3.trans m3) m4 (m5.trans k3)
    | false =>
      rw [if_neg (by rw [hw]; simp)]
      simp only [cond_false, Option.bind_eq_some_iff] at h
      obtain ⟨r1, hr1, h⟩ := h
      obtain ⟨k1, k2, k3⟩ := hg.put (x := .tup []) (y := undef) (.tup _ _ .nil) hr1 hs
      exact ih h k1 hr k2 fun ρ'' a' w'' m1 m2 m3 m4 m5 => hQ ρ'' a' w'' m1 m2 m3 m4 (m5.trans k3)

theorem stepE_log (hlg : LogOk cf) {op : Op} {x : AV} {H' : AH} (h : stepE E cf r H op = some (x, H')) : Logged H H' := by
  unfold stepE at h
  split at h
  · cases h; exact Logged.refl _
  · split at h
    · cases h; exact Logged.new _ _
    · split at h
      · rename_i p hp
        cases h
        exact effE_log hp
      · simp only [Option.bind_eq_some_iff] at h
        obtain ⟨p, hp, h⟩ := h
        exact hlg _ _ _ _ _ h
theorem seqE_log (hlg : LogOk cf) {ops : List Oper} (l : List Oper) : ∀ {r r' : Tr AV} {H H' : AH}, seqE E cf nt ops l r H = some (r', H') → Logged H H' := by
  induction l with
  | nil => intro r r' H H' h; cases h; exact Logged.refl _
  | cons o l ih =>
    intro r r' H H' h
    change ((wantE ops r o).bind fun b => bif b
      then (stepE E cf r H o.op).bind fun p => (putE nt r o.dst p.1).bind fun r' => seqE E cf nt ops l r' p.2
      else (putE nt r o.dst (.tup [])).bind fun r' => seqE E cf nt ops l r' H) = some (r', H') at h
    simp only [Option.bind_eq_some_iff] at h
    obtain ⟨b, hb, h⟩ := h
    cases b with
    | true =>
      simp only [cond_true, Option.bind_eq_some_iff] at h
      obtain ⟨⟨x, H1⟩, hx, r1, hr1, h⟩ := h
      exact (stepE_log hlg hx).trans (ih h)
    | false =>
      simp only [cond_false, Option.bind_eq_some_iff] at h
      obtain ⟨r1, hr1, h⟩ := h
      exact ih h

/-! ### Loops -/
def LoopWp (P : Program) (c : Code) (Q : Exit → Act → World → Prop) (a : Act) (w : World) : Prop :=
  ∀ (b : Frame) (k : List Item) (cs : List Frame), ∃ e a' w', Q e a' w' ∧ Arrives P (lone (b.at a (.code c :: .inLoop c :: k)) cs w) b k cs e a' w'
theorem LoopWp.step {c : Code} {Q : Exit → Act → World → Prop} (h : c.wp P (Exit.then (LoopWp P c Q) Q) a w) : LoopWp P c Q a w := by
  intro b k cs
  obtain ⟨e, a₁, w₁, hq, harr⟩ := h b (.inLoop c :: k) cs
  cases e with
  | normal =>
    obtain ⟨e₂, a₂, w₂, hq₂, harr₂⟩ := hq b k cs
    exact ⟨e₂, a₂, w₂, hq₂, .of_steps (Steps.trans harr (.one step_inLoop)) harr₂⟩
  | exit id => exact ⟨_, a₁, w₁, hq, .pass (x := .inLoop c) rfl (fun _ _ => .inl (by simp)) harr⟩
  | goto l => exact ⟨_, a₁, w₁, hq, .pass (x := .inLoop c) rfl (fun _ _ => .inl (by simp)) harr⟩
  | ret => exact ⟨_, a₁, w₁, hq, .pass (x := .inLoop c) rfl (fun _ _ => .inl (by simp)) harr⟩
  | panic ch => exact ⟨_, a₁, w₁, hq, .pass (x := .inLoop c) rfl (fun _ _ => .inl (by simp)) harr⟩
  | outgrown => exact ⟨_, a₁, w₁, hq, .pass (x := .inLoop c) rfl (fun _ _ => .inl (by simp)) harr⟩
theorem LoopWp.loop {c : Code} {Q : Exit → Act → World → Prop} (h : LoopWp P c Q a w) : (Code.loop c).wp P Q a w := by
  intro b k cs
  obtain ⟨e, a', w', hq, harr⟩ := h b k cs
  exact ⟨e, a', w', hq, .of_steps (.one step_loop) harr⟩
/-- What the machine here says of a piece of code is so. -/
def CodeOk (P : Program) (nt : Nat) (c : Code) (ev : Tr AV → AH → Option (XE × Tr AV × AH)) : Prop :=
  ∀ r H e r' H', ev r H = some (e, r', H') → ∀ (ρ : Rho) (a : Act) (w : World) (Q : Exit → Act → World → Prop), Regs ρ r a → Rel ρ H w → a.tmps.size = nt →
    (∀ ρ' a' w', Regs ρ' r' a' → Rel ρ' H' w' → Stp ρ H w ρ' H' w' → a'.tmps.size = nt → a'.defers = a.defers → Q e.x a' w') → c.wp P Q a w
theorem loop_ok {c : Code} {body : Tr AV → AH → Option (XE × Tr AV × AH)} (hb : CodeOk P nt c body) (n : Nat) : CodeOk P nt (.loop c) (loopE body n) := by
  have key : ∀ n r H e r' H', loopE body n r H = some (e, r', H') → ∀ (ρ : Rho) (a : Act) (w : World) (Q : Exit → Act → World → Prop), Regs ρ r a → Rel ρ H w → a.tmps.size = nt →
    (∀ ρ' a' w', Regs ρ' r' a' → Rel ρ' H' w' → Stp ρ H w ρ' H' w' → a'.tmps.size = nt → a'.defers = a.defers → Q e.x a' w') → LoopWp P c Q a w := by
    intro n
    induction n with
    | zero => intro r H e r' H' h; cases h
    | succ n ih =>
      intro r H e r' H' h ρ a w Q hg hr hs hQ
      change ((body r H).bind fun p => match p.1 with
        | .normal => loopE body n p.2.1 p.2.2
        | .exit id => some (.exit id, p.2)
        | .ret => some (.ret, p.2)) = some (e, r', H') at h
      simp only [Option.bind_eq_some_iff] at h
      obtain ⟨⟨e1, r1, H1⟩, h1, h⟩ := h
      refine LoopWp.step (hb r H e1 r1 H1 h1 ρ a w _ hg hr hs fun ρ' a' w' g1 g2 g3 g4 g5 => ?_)
      cases e1 with
      | normal => exact ih r1 H1 e r' H' h ρ' a' w' Q g1 g2 g4 fun ρ'' a'' w'' m1 m2 m3 m4 m5 => hQ ρ'' a'' w'' m1 m2 (g3.trans m3) m4 (m5.trans g5)
      | exit id => cases h; exact hQ ρ' a' w' g1 g2 g3 g4 g5
      | ret => cases h; exact hQ ρ' a' w' g1 g2 g3 g4 g5
  intro r H e r' H' h ρ a w Q hg hr hs hQ
  exact (key n r H e r' H' h ρ a w Q hg hr hs hQ).loop
theorem loop_log {body : Tr AV → AH → Option (XE × Tr AV × AH)} (hb : ∀ r H e r' H', body r H = some (e, r', H') → Logged H H') (n : Nat) : ∀ r H e r' H', loopE body n r H = some (e, r', H') → Logged H H' := by
  induction n with
  | zero => intro r H e r' H' h; cases h
  | succ n ih =>
    intro r H e r' H' h
    change ((body r H).bind fun p => match p.1 with
      | .normal => loopE body n p.2.1 p.2.2
      | .exit id => some (.exit id, p.2)
      | .ret => some (.ret, p.2)) = some (e, r', H') at h
    simp only [Option.bind_eq_some_iff] at h
    obtain ⟨⟨e1, r1, H1⟩, h1, h⟩ := h
    cases e1 with
    | normal => exact (hb _ _ _ _ _ h1).trans (ih _ _ _ _ _ h)
    | exit id => cases h; exact hb _ _ _ _ _ h1
    | ret => cases h; exact hb _ _ _ _ _ h1
end
end Go.Proofs.YtllfnhapnndngaaGreatDoor.E
namespace Go.Proofs.YtllfnhapnndngaaGreatDoor.E
open Go
set_option linter.unusedVariables false
set_option linter.unusedSimpArgs false
def DR : Type := List Oper → Tr AV → AH → Option (Tr AV × AH)
def DrawOk (P : Program) (nt : Nat) (dr : DR) : Prop :=
  ∀ (ops : Array Oper) r H r' H', dr ops.toList r H = some (r', H') → ∀ (id : Nat) (ρ : Rho) (a : Act) (w : World) (Q : Exit → Act → World → Prop), Regs ρ r a → Rel ρ H w → a.tmps.size = nt →
    (∀ ρ' a' w', Regs ρ' r' a' → Rel ρ' H' w' → Stp ρ H w ρ' H' w' → a'.tmps.size = nt → a'.defers = a.defers → Q .normal a' w') → (Code.region id ops true).wp P Q a w
abbrev EV : Type := Tr AV → AH → Option (XE × Tr AV × AH)
noncomputable def codeE (E : Env) (cf : CF) (dr : DR) (n nt : Nat) (c : Code) : EV :=
  Code.rec (motive := fun _ => EV)
    (fun r H => some (.normal, r, H))
    (fun _ ops draw r H => (bif draw then dr ops.toList r H else seqE E cf nt ops.toList ops.toList r H).bind fun p => some (.normal, p))
    (fun _ _ fa fb r H => (fa r H).bind fun p => match p.1 with
      | .normal => fb p.2.1 p.2.2
      | .exit id => some (.exit id, p.2)
      | .ret => some (.ret, p.2))
    (fun c _ _ fa fb r H => (evO r c).bind fun x => match x with
      | .bool b => bif b then fa r H else fb r H
      | _ => none)
    (fun id _ fa r H => (fa r H).bind fun p => match p.1 with
      | .normal => some (.normal, p.2)
      | .exit id' => bif Nat.beq id' id then some (.normal, p.2) else some (.exit id', p.2)
      | .ret => some (.ret, p.2))
    (fun _ fa => loopE fa n)
    (fun _ _ _ _ _ _ _ _ => none)
    (fun id r H => some (.exit id, r, H))
    (fun _ fa => fa)
    (fun _ r H => some (.normal, r, H))
    (fun _ _ _ => none)
    (fun r H => some (.ret, r, H))
    (fun _ _ _ => none) c
noncomputable def resL (T : TypeId → Option TI) (H : AH) (r : Tr AV) (l : List ResultVar) : Option (List AV) :=
  List.rec (motive := fun _ => Option (List AV)) (some []) (fun v _ ih => (match v with
    | .tmp t => r.get t
    | .cell a t => (r.get a).bind fun p => loadE T H t p).bind fun x => ih.bind fun l => some (x :: l)) l
noncomputable def resV (l : List AV) : AV :=
  match l with
  | [x] => x
  | l => .tup l
noncomputable def callE (E : Env) (cf : CF) (dr : Nat → DR) (n : Nat) (d : FD) (xs : List AV) (H : AH) : Option (AV × AH) :=
  bif Nat.ble xs.length d.nt then
    (codeE E cf (dr d.nt) n d.nt d.code (Tr.leaf.puts 0 xs) H).bind fun p => match p.1 with
      | .exit _ => none
      | _ => (resL E.T p.2.2 p.2.1 d.res).bind fun l => some (resV l, p.2.2)
  else none
noncomputable def evalF (E : Env) (F : FuncId → Option FD) (hooks : CF) (dr : CF → Nat → DR) (n : Nat) (depth : Nat) : CF :=
  Nat.rec (motive := fun _ => CF) (fun _ _ _ => none) (fun _ ih f xs H => match hooks f xs H with
    | some p => some p
    | none => (F f).bind fun d => callE E ih (dr ih) n d xs H) depth
section
variable {P : Program} {E : Env} {cf : CF} {dr : DR} {n nt : Nat} {w : World} {ρ : Rho} {H : AH} {r : Tr AV} {a : Act}
theorem codeE_ok (hE : EnvOk P E) (hcf : CallOk P cf) (hdr : DrawOk P nt dr) (c : Code) : CodeOk P nt c (codeE E cf dr n nt c) := by
  induction c with
  | skip =>
    intro r H e r' H' h ρ a w Q hg hr hs hQ
    cases h
    exact wp_skip (hQ ρ a w hg hr (Stp.refl _ _ _) hs rfl)
  | region id ops draw =>
    intro r H e r' H' h ρ a w Q hg hr hs hQ
    change ((bif draw then dr ops.toList r H else seqE E cf nt ops.toList ops.toList r H).bind fun p => some (XE.normal, p)) = some (e, r', H') at h
    simp only [Option.bind_eq_some_iff, Option.some.injEq, Prod.mk.injEq] at h
    obtain ⟨p, hp, rfl, rfl⟩ := h
    cases draw with
    | true => exact hdr ops r H r' H' hp id ρ a w Q hg hr hs hQ
    | false => exact wp_region_list (seqE_ok hE hcf ops.toList hp hg hr hs hQ)
  | seq x y ihx ihy =>
    intro r H e r' H' h ρ a w Q hg hr hs hQ
    change ((codeE E cf dr n nt x r H).bind fun p => match p.1 with
      | .normal => codeE E cf dr n nt y p.2.1 p.2.2
      | .exit id => some (.exit id, p.2)
      | .ret => some (.ret, p.2)) = some (e, r', H') at h
    simp only [Option.bind_eq_some_iff] at h
    obtain ⟨⟨e1, r1, H1⟩, h1, h⟩ := h
    refine wp_seq (ihx r H e1 r1 H1 h1 ρ a w _ hg hr hs fun ρ' a' w' g1 g2 g3 g4 g5 => ?_)
    cases e1 with
    | normal => exact ihy r1 H1 e r' H' h ρ' a' w' Q g1 g2 g4 fun ρ'' a'' w'' m1 m2 m3 m4 m5 => hQ ρ'' a'' w'' m1 m2 (g3.trans m3) m4 (m5.trans g5)
    | exit id => cases h; exact hQ ρ' a' w' g1 g2 g3 g4 g5
    | ret => cases h; exact hQ ρ' a' w' g1 g2 g3 g4 g5
  | cond c x y ihx ihy =>
    intro r H e r' H' h ρ a w Q hg hr hs hQ
    change ((evO r c).bind fun v => match v with
      | .bool b => bif b then codeE E cf dr n nt x r H else codeE E cf dr n nt y r H
      | _ => none) = some (e, r', H') at h
    simp only [Option.bind_eq_some_iff] at h
    obtain ⟨v, hv, h⟩ := h
    have k := evO_ok hg hv
    split at h
    · rename_i b
      cases hb : a.eval c <;> rw [hb] at k <;> cases k
      cases b with
      | true => exact wp_cond_true hb (ihx r H e r' H' h ρ a w Q hg hr hs hQ)
      | false => exact wp_cond_false hb (ihy r H e r' H' h ρ a w Q hg hr hs hQ)
    · cases h
  | block id x ih =>
    intro r H e r' H' h ρ a w Q hg hr hs hQ
    change ((codeE E cf dr n nt x r H).bind fun p => match p.1 with
      | .normal => some (XE.normal, p.2)
      | .exit id' => bif Nat.beq id' id then some (.normal, p.2) else some (.exit id', p.2)
      | .ret => some (.ret, p.2)) = some (e, r', H') at h
    simp only [Option.bind_eq_some_iff] at h
    obtain ⟨⟨e1, r1, H1⟩, h1, h⟩ := h
    refine wp_block (ih r H e1 r1 H1 h1 ρ a w _ hg hr hs fun ρ' a' w' g1 g2 g3 g4 g5 => ?_)
    cases e1 with
    | normal => cases h; exact hQ ρ' a' w' g1 g2 g3 g4 g5
    | exit id' =>
      dsimp only at h
      show if id' = id then Q .normal a' w' else Q (.exit id') a' w'
      by_cases hid : id' = id
      · subst hid
        rw [if_pos rfl]
        simp at h
        obtain ⟨rfl, rfl, rfl⟩ := h
        exact hQ ρ' a' w' g1 g2 g3 g4 g5
      · rw [if_neg hid]
        rw [nbeq_false hid] at h
        cases h
        exact hQ ρ' a' w' g1 g2 g3 g4 g5
    | ret => cases h; exact hQ ρ' a' w' g1 g2 g3 g4 g5
  | loop x ih => exact loop_ok ih n
  | rangeFunc f ps x y ihx ihy => intro r H e r' H' h; cases h
  | exit id =>
    intro r H e r' H' h ρ a w Q hg hr hs hQ
    cases h
    exact wp_exit (hQ ρ a w hg hr (Stp.refl _ _ _) hs rfl)
  | scope x ih =>
    intro r H e r' H' h ρ a w Q hg hr hs hQ
    refine wp_scope_straight (ih r H e r' H' h ρ a w _ hg hr hs fun ρ' a' w' g1 g2 g3 g4 g5 => ?_)
    have := hQ ρ' a' w' g1 g2 g3 g4 g5
    cases e <;> exact this
  | label l =>
    intro r H e r' H' h ρ a w Q hg hr hs hQ
    cases h
    exact wp_label (hQ ρ a w hg hr (Stp.refl _ _ _) hs rfl)
  | goto l => intro r H e r' H' h; cases h
  | ret =>
    intro r H e r' H' h ρ a w Q hg hr hs hQ
    cases h
    exact wp_ret (hQ ρ a w hg hr (Stp.refl _ _ _) hs rfl)
  | refuse s => intro r H e r' H' h; cases h
def resOne (tmps : Array Value) : ResultVar → Sem Value
  | .tmp t => pure (tmps.getD t undef)
  | .cell b t => do loadVar t (← asAddr (tmps.getD b undef))
def valOf : List Value → Value
  | [x] => x
  | vs => .tuple vs.toArray
theorem resL_ok (hE : EnvOk P E) (hr : Rel ρ H w) (hg : Regs ρ r a) (l : List ResultVar) : ∀ {xs : List AV}, resL E.T H r l = some xs → ∃ vs, (l.mapM (resOne a.tmps)).run P w = .ok vs w ∧ RL ρ xs vs := by
  induction l with
  | nil => intro xs h; cases h; exact ⟨[], rfl, .nil⟩
  | cons v l ih =>
    intro xs h
    change ((match v with
      | .tmp t => r.get t
      | .cell b t => (r.get b).bind fun p => loadE E.T H t p).bind fun x => (resL E.T H r l).bind fun l => some (x :: l)) = some xs at h
    simp only [Option.bind_eq_some_iff, Option.some.injEq] at h
    obtain ⟨x, hx, ys, hys, rfl⟩ := h
    obtain ⟨vs, h1, h2⟩ := ih hys
    cases v with
    | tmp t =>
      have k := hg t x hx
      exact ⟨a.tmps.getD t undef :: vs, by simp only [List.mapM_cons, resOne, Sem.run_bind, Sem.run_pure, Result.andThen_ok, h1], .cons _ _ _ _ k h2⟩
    | cell b t =>
      simp only [Option.bind_eq_some_iff] at hx
      obtain ⟨p, hp, hx⟩ := hx
      have k := hg b p hp
      obtain ⟨y, g1, g2⟩ := run_loadVar_ok (P := P) hE.T hr hx k
      refine ⟨y :: vs, ?_, .cons _ _ _ _ g2 h2⟩
      unfold loadE at hx
      split at hx
      · generalize hv : a.tmps.getD b undef = pv at k g1
        cases k
        simp only [Instr.loadAt, Instr.sureAddr, Sem.run_bind, Sem.run_pure, Result.andThen_ok] at g1
        have g3 : (resOne a.tmps (.cell b t)).run P w = .ok y w := by
          show (do loadVar t (← asAddr (a.tmps.getD b undef)) : Sem Value).run P w = _
          rw [hv]; exact g1
        simp only [List.mapM_cons, Sem.run_bind, Sem.run_pure, Result.andThen_ok, g3, h1]
      · cases hx
theorem run_results {fn : Func} {l : List ResultVar} {tmps : Array Value} {vs : List Value} (hl : fn.results.toList = l)
    (h : (l.mapM (resOne tmps)).run P w = .ok vs w) :
    (results fn tmps).run P w = .ok (valOf vs) w := by
  have e0 : results fn tmps = (do
      let vs ← fn.results.mapM (resOne tmps)
      pure (if h : vs.size = 1 then vs[0] else .tuple vs)) := rfl
  have e : (fn.results.mapM (resOne tmps)).run P w = .ok vs.toArray w := by
    rw [Array.mapM_eq_mapM_toList, hl, map_eq_pure_bind, Sem.run_bind, h]; rfl
  rw [e0, Sem.run_bind, e, Result.andThen_ok, Sem.run_pure]
  congr 1
  match vs with
  | [] => rfl
  | [x] => rfl
  | x :: y :: l => simp [valOf]
theorem resV_ok {xs : List AV} {vs : List Value} (h : RL ρ xs vs) : R ρ (resV xs) (valOf vs) := by
  cases h with
  | nil => exact .tup _ _ .nil
  | cons x y xs ys h hs =>
    cases hs with
    | nil => exact h
    | cons x' y' xs ys h' hs => exact .tup _ _ (.cons _ _ _ _ h (.cons _ _ _ _ h' hs))
theorem regs_start {xs : List AV} {args : Array Value} (h : RL ρ xs args.toList) (k : Nat) : Regs ρ (Tr.leaf.puts 0 xs) { tmps := args ++ Array.replicate k undef, defers := [] } := by
  intro i x hx
  have hx' := get_leaf_puts xs i x hx
  obtain ⟨y, hy, hR⟩ := h.get i x hx'
  rw [Array.getElem?_toList] at hy
  have hlt : i < args.size := (Array.getElem?_eq_some_iff.1 hy).1
  have : (args ++ Array.replicate k undef).getD i undef = y := by
    rw [Array.getD_eq_getD_getElem?, Array.getElem?_append_left hlt, hy]; rfl
  show R ρ x ((args ++ Array.replicate k undef).getD i undef)
  rw [this]; exact hR
theorem callE_ok (hE : EnvOk P E) (hcf : CallOk P cf) {dr : Nat → DR} (hdr : ∀ nt, DrawOk P nt (dr nt)) {F : FuncId → Option FD} (hF : Funs P F) {f : FuncId} {d : FD} (hd : F f = some d) {xs : List AV} {v : AV} {H' : AH} (h : callE E cf dr n d xs H = some (v, H'))
    {args : Array Value} (hr : Rel ρ H w) (hx : RL ρ xs args.toList) : (callFunc f args).run P w = .ok (.enter f args) w ∧
    Calls P f args w fun e w' => ∃ ρ' y, e = .returned y ∧ R ρ' v y ∧ Rel ρ' H' w' ∧ Stp ρ H w ρ' H' w' := by
  obtain ⟨fn, f1, f0, f2, f3, f4⟩ := hF.ok f d hd
  have hlen : xs.length = args.size := by rw [hx.length]; simp
  replace h := cond_some h
  obtain ⟨hc, h⟩ := h
  rw [Nat.ble_eq] at hc
  simp only [Option.bind_eq_some_iff] at h
  obtain ⟨⟨e, r', H1⟩, h1, h⟩ := h
  refine ⟨by simp [callFunc, f1, beq_eq_false_iff_ne.1 f0, f2], ?_⟩
  refine calls_of_wp f1 f2 (codeE_ok hE hcf (hdr d.nt) d.code _ _ _ _ _ h1 ρ _ w _ (regs_start hx _) hr (by simp; omega) fun ρ' a' w' g1 g2 g3 g4 g5 => ?_)
  have main : (resL E.T H1 r' d.res).bind (fun l => some (resV l, H1)) = some (v, H') → a'.defers = [] ∧ ∃ u, (results fn a'.tmps).run P w' = .ok u w' ∧ ∃ ρ' y, Ending.returned u = .returned y ∧ R ρ' v y ∧ Rel ρ' H' w' ∧ Stp ρ H w ρ' H' w' := by
    intro h
    simp only [Option.bind_eq_some_iff, Option.some.injEq, Prod.mk.injEq] at h
    obtain ⟨l, hl, rfl, rfl⟩ := h
    obtain ⟨vs, m1, m2⟩ := resL_ok hE g2 g1 d.res hl
    exact ⟨g5, _, run_results f4 m1, ρ', _, rfl, resV_ok m2, g2, g3⟩
  cases e with
  | normal => exact main h
  | exit id => cases h
  | ret => exact main h
theorem evalF_ok {n : Nat} (hE : EnvOk P E) {F : FuncId → Option FD} (hF : Funs P F) {hooks : CF} (hh : CallOk P hooks) {dr : CF → Nat → DR} (hlg : ∀ k, LogOk (evalF E F hooks dr n k)) (hdr : ∀ cf, CallOk P cf → LogOk cf → ∀ nt, DrawOk P nt (dr cf nt)) (depth : Nat) : CallOk P (evalF E F hooks dr n depth) := by
  induction depth with
  | zero => intro f xs H v H' h; cases h
  | succ k ih =>
    intro f xs H v H' h ρ w args hr hx
    change (match hooks f xs H with
      | some p => some p
      | none => (F f).bind fun d => callE E (evalF E F hooks dr n k) (dr (evalF E F hooks dr n k)) n d xs H) = some (v, H') at h
    split at h
    · rename_i p hp
      cases h
      exact hh f xs H v H' hp ρ w args hr hx
    · simp only [Option.bind_eq_some_iff] at h
      obtain ⟨d, hd, h⟩ := h
      exact callE_ok hE ih (hdr _ ih (hlg k)) hF hd h hr hx
theorem codeE_log (hlg : LogOk cf) (hdr : ∀ ops r H r' H', dr ops r H = some (r', H') → Logged H H') (c : Code) : ∀ r H e r' H', codeE E cf dr n nt c r H = some (e, r', H') → Logged H H' := by
  induction c with
  | skip => intro r H e r' H' h; cases h; exact Logged.refl _
  | region id ops draw =>
    intro r H e r' H' h
    change ((bif draw then dr ops.toList r H else seqE E cf nt ops.toList ops.toList r H).bind fun p => some (XE.normal, p)) = some (e, r', H') at h
    simp only [Option.bind_eq_some_iff, Option.some.injEq, Prod.mk.injEq] at h
    obtain ⟨p, hp, rfl, rfl⟩ := h
    cases draw with
    | true => exact hdr _ _ _ _ _ hp
    | false => exact seqE_log hlg _ hp
  | seq x y ihx ihy =>
    intro r H e r' H' h
    change ((codeE E cf dr n nt x r H).bind fun p => match p.1 with
      | .normal => codeE E cf dr n nt y p.2.1 p.2.2
      | .exit id => some (.exit id, p.2)
      | .ret => some (.ret, p.2)) = some (e, r', H') at h
    simp only [Option.bind_eq_some_iff] at h
    obtain ⟨⟨e1, r1, H1⟩, h1, h⟩ := h
    cases e1 with
    | normal => exact (ihx _ _ _ _ _ h1).trans (ihy _ _ _ _ _ h)
    | exit id => cases h; exact ihx _ _ _ _ _ h1
    | ret => cases h; exact ihx _ _ _ _ _ h1
  | cond c x y ihx ihy =>
    intro r H e r' H' h
    change ((evO r c).bind fun v => match v with
      | .bool b => bif b then codeE E cf dr n nt x r H else codeE E cf dr n nt y r H
      | _ => none) = some (e, r', H') at h
    simp only [Option.bind_eq_some_iff] at h
    obtain ⟨v, hv, h⟩ := h
    split at h
    · rename_i b
      cases b with
      | true => exact ihx _ _ _ _ _ h
      | false => exact ihy _ _ _ _ _ h
    · cases h
  | block id x ih =>
    intro r H e r' H' h
    change ((codeE E cf dr n nt x r H).bind fun p => match p.1 with
      | .normal => some (XE.normal, p.2)
      | .exit id' => bif Nat.beq id' id then some (.normal, p.2) else some (.exit id', p.2)
      | .ret => some (.ret, p.2)) = some (e, r', H') at h
    simp only [Option.bind_eq_some_iff] at h
    obtain ⟨⟨e1, r1, H1⟩, h1, h⟩ := h
    cases e1 with
    | normal => cases h; exact ih _ _ _ _ _ h1
    | exit id' => rcases cond_two h with h | h <;> cases h <;> exact ih _ _ _ _ _ h1
    | ret => cases h; exact ih _ _ _ _ _ h1
  | loop x ih => exact loop_log ih n
  | rangeFunc f ps x y ihx ihy => intro r H e r' H' h; cases h
  | exit id => intro r H e r' H' h; cases h; exact Logged.refl _
  | scope x ih => exact ih
  | label l => intro r H e r' H' h; cases h; exact Logged.refl _
  | goto l => intro r H e r' H' h; cases h
  | ret => intro r H e r' H' h; cases h; exact Logged.refl _
  | refuse s => intro r H e r' H' h; cases h
theorem callE_log (hlg : LogOk cf) {dr : Nat → DR} (hdr : ∀ nt ops r H r' H', dr nt ops r H = some (r', H') → Logged H H') {d : FD} {xs : List AV} {v : AV} {H' : AH} (h : callE E cf dr n d xs H = some (v, H')) : Logged H H' := by
  replace h := cond_some h
  obtain ⟨hc, h⟩ := h
  simp only [Option.bind_eq_some_iff] at h
  obtain ⟨⟨e, r', H1⟩, h1, h⟩ := h
  have g := codeE_log hlg (hdr d.nt) d.code _ _ _ _ _ h1
  have key : (resL E.T H1 r' d.res).bind (fun l => some (resV l, H1)) = some (v, H') → Logged H H' := by
    intro h
    simp only [Option.bind_eq_some_iff, Option.some.injEq, Prod.mk.injEq] at h
    obtain ⟨l, hl, rfl, rfl⟩ := h
    exact g
  cases e with
  | normal => exact key h
  | exit id => cases h
  | ret => exact key h
theorem evalF_log {F : FuncId → Option FD} {hooks : CF} (hh : LogOk hooks) {dr : CF → Nat → DR} (hdr : ∀ cf, LogOk cf → ∀ nt ops r H r' H', dr cf nt ops r H = some (r', H') → Logged H H') (n depth : Nat) : LogOk (evalF E F hooks dr n depth) := by
  induction depth with
  | zero => intro f xs H v H' h; cases h
  | succ k ih =>
    intro f xs H v H' h
    change (match hooks f xs H with
      | some p => some p
      | none => (F f).bind fun d => callE E (evalF E F hooks dr n k) (dr (evalF E F hooks dr n k)) n d xs H) = some (v, H') at h
    split at h
    · rename_i p hp
      cases h
      exact hh _ _ _ _ _ hp
    · simp only [Option.bind_eq_some_iff] at h
      obtain ⟨d, hd, h⟩ := h
      exact callE_log ih (hdr _ ih) h
end
end Go.Proofs.YtllfnhapnndngaaGreatDoor.E
namespace Go.Proofs.YtllfnhapnndngaaGreatDoor.E
open Go
set_option linter.unusedVariables false
set_option linter.unusedSimpArgs false
/-! ### Sets of numbers as numbers -/
noncomputable def hasB (m i : Nat) : Bool := Nat.beq (Nat.land (Nat.shiftRight m i) 1) 1
theorem hasB_eq (m i : Nat) : hasB m i = m.testBit i := by
  have h1 : Nat.land (Nat.shiftRight m i) 1 = m >>> i % 2 := Nat.and_one_is_mod _
  unfold hasB
  rw [h1, Nat.testBit_eq_decide_div_mod_eq, Nat.shiftRight_eq_div_pow]
  rw [Bool.eq_iff_iff, Nat.beq_eq, decide_eq_true_iff]
theorem hasB_or (a b i : Nat) : hasB (Nat.lor a b) i = (hasB a i || hasB b i) := by
  rw [hasB_eq, hasB_eq, hasB_eq]; exact Nat.testBit_or a b i
theorem hasB_bit (n i : Nat) : hasB (2 ^ n) i = decide (n = i) := by
  rw [hasB_eq, Nat.testBit_two_pow]
theorem hasB_zero (i : Nat) : hasB 0 i = false := by rw [hasB_eq]; exact Nat.zero_testBit i
theorem hasB_all (n i : Nat) (h : i < n) : hasB (Nat.sub (2 ^ n) 1) i = true := by
  rw [hasB_eq]
  have : Nat.sub (2 ^ n) 1 = 2 ^ n - 1 := rfl
  rw [this, Nat.testBit_two_pow_sub_one]
  simpa using h
theorem sub_of_lor {a b : Nat} (h : Nat.beq (Nat.lor a b) b = true) {i : Nat} (hi : hasB a i = true) : hasB b i = true := by
  have e := Nat.eq_of_beq_eq_true h
  rw [← e, hasB_or, hi]; rfl

/-! ### The text of a region -/
noncomputable def allI {α : Type} (f : Nat → α → Bool) (l : List α) : Nat → Bool :=
  List.rec (motive := fun _ => Nat → Bool) (fun _ => true) (fun x _ ih i => bif f i x then ih (Nat.succ i) else false) l
theorem allI_ok {α : Type} {f : Nat → α → Bool} {l : List α} : ∀ {k : Nat}, allI f l k = true → ∀ (i : Nat) (x : α), l[i]? = some x → f (k + i) x = true := by
  induction l with
  | nil => intro k _ i x h; simp at h
  | cons a l ih =>
    intro k h i x hx
    replace h := cond_some (α := Unit) (x := bif allI f l (k + 1) then some () else none) (y := ()) (c := f k a) (by
      have h' : (bif f k a then allI f l (k + 1) else false) = true := h
      cases hc : f k a <;> rw [hc] at h' <;> simp_all)
    obtain ⟨h1, h2⟩ := h
    cases i with
    | zero => simp at hx; subst hx; simpa using h1
    | succ i =>
      have h3 : allI f l (k + 1) = true := by cases hc : allI f l (k + 1) <;> simp_all
      have := ih h3 i x (by simpa using hx)
      rwa [show k + 1 + i = k + (i + 1) by omega] at this
noncomputable def bindsE (e : Edge) : Bool :=
  match e.ground with
  | .textOnly _ => false
  | .gcOnly _ => false
  | _ => true
theorem bindsE_eq (e : Edge) : Region.binds .any e = bindsE e := by
  unfold Region.binds bindsE
  cases e.ground <;> rfl
noncomputable def depL (D : Tr Nat) (l : List Edge) : Nat :=
  List.rec (motive := fun _ => Nat) 0 (fun e _ ih => bif bindsE e then Nat.lor (Nat.lor (2 ^ e.on) ((D.get e.on).getD 0)) ih else ih) l
noncomputable def depsE (ops : List Oper) : Nat → Tr Nat → Tr Nat :=
  List.rec (motive := fun _ => Nat → Tr Nat → Tr Nat) (fun _ D => D) (fun o _ ih i D => ih (Nat.succ i) (D.set i (depL D o.after.toList))) ops
noncomputable def tmpsL (l : List Operand) (k : List Tmp) : List Tmp :=
  List.rec (motive := fun _ => List Tmp) k (fun o _ ih => match o with | .tmp t => t :: ih | _ => ih) l
noncomputable def looksE (ops : List Oper) (o : Oper) : List Tmp :=
  tmpsL o.op.operands.toList (match o.guard with
    | none => []
    | some g => match dstOf ops g.1 with
      | some d => [d]
      | none => [])
noncomputable def memN (t : Nat) (l : List Nat) : Bool :=
  List.rec (motive := fun _ => Bool) false (fun x _ ih => bif Nat.beq x t then true else ih) l
theorem memN_ok {t : Nat} {l : List Nat} : memN t l = true ↔ t ∈ l := by
  induction l with
  | nil => simp [memN]
  | cons x l ih =>
    show (bif Nat.beq x t then true else memN t l) = true ↔ _
    by_cases e : x = t
    · subst e; simp
    · rw [nbeq_false e]; simp [ih]; intro h; exact absurd h.symm e
noncomputable def edgesOk (i : Nat) (l : List Edge) : Bool :=
  List.rec (motive := fun _ => Bool) true (fun e _ ih => bif bindsE e then (bif Nat.blt e.on i then ih else false) else ih) l
theorem edgesOk_ok {i : Nat} {l : List Edge} (h : edgesOk i l = true) : ∀ e ∈ l, bindsE e = true → e.on < i := by
  induction l with
  | nil => intro e he; cases he
  | cons a l ih =>
    intro e he hb
    change (bif bindsE a then (bif Nat.blt a.on i then edgesOk i l else false) else edgesOk i l) = true at h
    cases he with
    | head =>
      rw [hb] at h
      cases hc : Nat.blt a.on i with
      | true => simpa [Nat.blt_eq] using hc
      | false => rw [hc] at h; cases h
    | tail _ he =>
      refine ih ?_ e he hb
      cases h1 : bindsE a <;> rw [h1] at h
      · exact h
      · cases h2 : Nat.blt a.on i <;> rw [h2] at h
        · cases h
        · exact h
noncomputable def pairOk (D : Tr Nat) (i : Nat) (lk : List Tmp) (dst : Option Tmp) (j : Nat) (o : Oper) : Bool :=
  match o.dst with
  | none => true
  | some t => (bif Nat.beq i j then true else match dst with | none => true | some u => !(Nat.beq u t)) && (bif memN t lk then (bif Nat.blt j i then hasB ((D.get i).getD 0) j else true) && (bif Nat.blt i j then hasB ((D.get j).getD 0) i else true) else true)
noncomputable def textE (ops : List Oper) (D : Tr Nat) : Bool :=
  allI (fun i o => edgesOk i o.after.toList && (Nat.beq ((D.get i).getD 0) (depL D o.after.toList) && allI (fun j o' => pairOk D i (looksE ops o) o.dst j o') ops 0)) ops 0
/-- What the text's look says. -/
structure Text (ops : List Oper) (D : Nat → Nat) : Prop where
  edge : ∀ i o, ops[i]? = some o → ∀ e ∈ o.after.toList, bindsE e = true → e.on < i ∧ hasB (D i) e.on = true ∧ ∀ j, hasB (D e.on) j = true → hasB (D i) j = true
  conv : ∀ i o, ops[i]? = some o → ∀ j, hasB (D i) j = true → ∃ e ∈ o.after.toList, bindsE e = true ∧ (j = e.on ∨ hasB (D e.on) j = true)
  looks : ∀ i o j o' t, ops[i]? = some o → ops[j]? = some o' → o'.dst = some t → t ∈ looksE ops o → (j < i → hasB (D i) j = true) ∧ (i < j → hasB (D j) i = true)
  dist : ∀ (i : Nat) (o : Oper) (j : Nat) (o' : Oper) (t : Tmp), ops[i]? = some o → ops[j]? = some o' → o.dst = some t → o'.dst = some t → i = j
theorem depL_has {D : Tr Nat} {l : List Edge} {j : Nat} : hasB (depL D l) j = true ↔ ∃ e ∈ l, bindsE e = true ∧ (j = e.on ∨ hasB ((D.get e.on).getD 0) j = true) := by
  induction l with
  | nil => simp [depL, hasB_zero]
  | cons a l ih =>
    have e0 : depL D (a :: l) = bif bindsE a then Nat.lor (Nat.lor (2 ^ a.on) ((D.get a.on).getD 0)) (depL D l) else depL D l := rfl
    rw [e0]
    cases hb : bindsE a
    · simp only [cond_false, ih, List.mem_cons]
      constructor
      · rintro ⟨e, he, h⟩; exact ⟨e, .inr he, h⟩
      · rintro ⟨e, rfl | he, h⟩
        · rw [hb] at h; simp at h
        · exact ⟨e, he, h⟩
    · simp only [cond_true, hasB_or, hasB_bit, Bool.or_eq_true, decide_eq_true_iff, ih, List.mem_cons]
      constructor
      · rintro ((h | h) | ⟨e, he, h⟩)
        · exact ⟨a, .inl rfl, hb, .inl h.symm⟩
        · exact ⟨a, .inl rfl, hb, .inr h⟩
        · exact ⟨e, .inr he, h⟩
      · rintro ⟨e, rfl | he, h1, h | h⟩
        · exact .inl (.inl h.symm)
        · exact .inl (.inr h)
        · exact .inr ⟨e, he, h1, .inl h⟩
        · exact .inr ⟨e, he, h1, .inr h⟩
theorem textE_ok {ops : List Oper} {D : Tr Nat} (h : textE ops D = true) : Text ops (fun i => (D.get i).getD 0) := by
  have key := fun i o hi => allI_ok h i o hi
  simp only [Nat.zero_add, Bool.and_eq_true] at key
  refine ⟨fun i o hi e he hb => ?_, fun i o hi j hj => ?_, fun i o j o' t hi hj hd ht => ?_, fun i o j o' t hi hj hd hd' => ?_⟩
  · obtain ⟨h1, h2, h3⟩ := key i o hi
    have e2 := Nat.eq_of_beq_eq_true h2
    refine ⟨edgesOk_ok h1 e he hb, ?_, fun j hj => ?_⟩
    · show hasB ((D.get i).getD 0) e.on = true
      rw [e2, depL_has]; exact ⟨e, he, hb, .inl rfl⟩
    · show hasB ((D.get i).getD 0) j = true
      rw [e2, depL_has]; exact ⟨e, he, hb, .inr hj⟩
  · obtain ⟨h1, h2, h3⟩ := key i o hi
    have e2 := Nat.eq_of_beq_eq_true h2
    have hj' : hasB ((D.get i).getD 0) j = true := hj
    rw [e2, depL_has] at hj'
    exact hj'
  · obtain ⟨h1, h2, h3⟩ := key i o hi
    have h4 := allI_ok h3 j o' hj
    rw [Nat.zero_add] at h4
    unfold pairOk at h4
    rw [hd] at h4
    simp only [memN_ok.2 ht, cond_true, Bool.and_eq_true] at h4
    replace h4 := h4.2
    constructor
    · intro hlt
      have h5 := h4.1
      rw [show Nat.blt j i = true by rw [Nat.blt_eq]; exact hlt] at h5
      exact h5
    · intro hlt
      have h5 := h4.2
      rw [show Nat.blt i j = true by rw [Nat.blt_eq]; exact hlt] at h5
      exact h5
  · obtain ⟨h1, h2, h3⟩ := key i o hi
    have h4 := allI_ok h3 j o' hj
    rw [Nat.zero_add] at h4
    unfold pairOk at h4
    rw [hd', hd] at h4
    simp only [Bool.and_eq_true] at h4
    replace h4 := h4.1
    by_cases e : i = j
    · exact e
    · rw [nbeq_false e] at h4
      simp at h4

/-! ### Equality of abstract values -/
noncomputable def eqVs (f : AV → AV → Bool) (l : List AV) : List AV → Bool :=
  List.rec (motive := fun _ => List AV → Bool) (fun m => match m with | [] => true | _ => false) (fun x _ ih m => match m with | [] => false | y :: m => bif f x y then ih m else false) l
noncomputable def eqCap : Option Nat → Option Nat → Bool
  | none, none => true
  | some a, some b => Nat.beq a b
  | _, _ => false
noncomputable def eqV (n : Nat) : AV → AV → Bool :=
  Nat.rec (motive := fun _ => AV → AV → Bool) (fun _ _ => false) (fun _ ih x y => match x, y with
    | .bool a, .bool b => a == b
    | .int j a, .int k b => decide (j = k) && decide (a = b)
    | .str a, .str b => eqL a b
    | .ptr f v o k, .ptr f' v' o' k' => Nat.beq f f' && (Nat.beq v v' && (Nat.beq o o' && Nat.beq k k'))
    | .nilp, .nilp => true
    | .sl f v o l e c, .sl f' v' o' l' e' c' => Nat.beq f f' && (Nat.beq v v' && (Nat.beq o o' && (Nat.beq l l' && (Nat.beq e e' && eqCap c c'))))
    | .nils, .nils => true
    | .map f, .map f' => Nat.beq f f'
    | .nilm, .nilm => true
    | .fn g a b, .fn g' a' b' => Nat.beq g g' && (eqVs ih a a' && eqVs ih b b')
    | .nilf, .nilf => true
    | .ifc t x, .ifc t' x' => Nat.beq t t' && ih x x'
    | .nili, .nili => true
    | .agg l, .agg l' => eqVs ih l l'
    | .tup l, .tup l' => eqVs ih l l'
    | _, _ => false) n
theorem eqVs_ok {f : AV → AV → Bool} (hf : ∀ x y, f x y = true → x = y) (l : List AV) : ∀ m, eqVs f l m = true → l = m := by
  induction l with
  | nil => intro m h; cases m with | nil => rfl | cons y m => cases h
  | cons x l ih =>
    intro m h
    cases m with
    | nil => cases h
    | cons y m =>
      change (bif f x y then eqVs f l m else false) = true at h
      cases hc : f x y <;> rw [hc] at h
      · cases h
      · rw [hf x y hc, ih m h]
theorem eqCap_ok {a b : Option Nat} (h : eqCap a b = true) : a = b := by
  cases a <;> cases b <;> simp_all [eqCap]
theorem eqV_ok (n : Nat) : ∀ x y, eqV n x y = true → x = y := by
  induction n with
  | zero => intro x y h; cases h
  | succ n ih =>
    intro x y h
    have hs := eqVs_ok ih
    cases x <;> cases y <;> first | (cases h; done) | skip
    case bool.bool a b => have h' : (a == b) = true := h; rw [eq_of_beq h']
    case int.int j a k b =>
      have h' : (decide (j = k) && decide (a = b)) = true := h
      simp only [Bool.and_eq_true, decide_eq_true_iff] at h'
      rw [h'.1, h'.2]
    case str.str a b =>
      have h' : eqL a b = true := h
      rw [eqL_iff, decide_eq_true_iff] at h'
      rw [h']
    case ptr.ptr f v o k f' v' o' k' =>
      have h' : (Nat.beq f f' && (Nat.beq v v' && (Nat.beq o o' && Nat.beq k k'))) = true := h
      simp only [Bool.and_eq_true, Nat.beq_eq] at h'
      obtain ⟨rfl, rfl, rfl, rfl⟩ := h'; rfl
    case nilp.nilp => rfl
    case sl.sl f v o l e c f' v' o' l' e' c' =>
      have h' : (Nat.beq f f' && (Nat.beq v v' && (Nat.beq o o' && (Nat.beq l l' && (Nat.beq e e' && eqCap c c'))))) = true := h
      simp only [Bool.and_eq_true, Nat.beq_eq] at h'
      obtain ⟨rfl, rfl, rfl, rfl, rfl, h6⟩ := h'
      rw [eqCap_ok h6]
    case nils.nils => rfl
    case map.map f f' => have h' : Nat.beq f f' = true := h; rw [Nat.eq_of_beq_eq_true h']
    case nilm.nilm => rfl
    case fn.fn g a b g' a' b' =>
      have h' : (Nat.beq g g' && (eqVs (eqV n) a a' && eqVs (eqV n) b b')) = true := h
      simp only [Bool.and_eq_true] at h'
      rw [Nat.eq_of_beq_eq_true h'.1, hs _ _ h'.2.1, hs _ _ h'.2.2]
    case nilf.nilf => rfl
    case ifc.ifc t x t' x' =>
      have h' : (Nat.beq t t' && eqV n x x') = true := h
      simp only [Bool.and_eq_true] at h'
      rw [Nat.eq_of_beq_eq_true h'.1, ih _ _ h'.2]
    case nili.nili => rfl
    case agg.agg l l' => have h' : eqVs (eqV n) l l' = true := h; rw [hs _ _ h']
    case tup.tup l l' => have h' : eqVs (eqV n) l l' = true := h; rw [hs _ _ h']
end Go.Proofs.YtllfnhapnndngaaGreatDoor.E
namespace Go.Proofs.YtllfnhapnndngaaGreatDoor.E
open Go
set_option linter.unusedVariables false
set_option linter.unusedSimpArgs false
noncomputable def restr (r : Tr AV) (l : List Tmp) : Tr AV :=
  List.rec (motive := fun _ => Tr AV) .leaf (fun t _ ih => match r.get t with | some x => ih.set t x | none => ih) l
theorem restr_ok {r : Tr AV} {l : List Tmp} : ∀ {t : Tmp} {x : AV}, (restr r l).get t = some x → t ∈ l ∧ r.get t = some x := by
  induction l with
  | nil => intro t x h; cases h
  | cons u l ih =>
    intro t x h
    change (match r.get u with | some x => (restr r l).set u x | none => restr r l).get t = some x at h
    split at h
    · rename_i y hy
      rw [Tr.get_set] at h
      by_cases e : u = t
      · rw [if_pos e] at h; cases h; subst e; exact ⟨by simp, hy⟩
      · rw [if_neg e] at h; obtain ⟨h1, h2⟩ := ih h; exact ⟨by simp [h1], h2⟩
    · obtain ⟨h1, h2⟩ := ih h; exact ⟨by simp [h1], h2⟩
/-- Between two changes of memory. -/
structure Snap where
  S : AH
  pd : Nat
  next : Option Nat
  k : Nat
structure Rdr where
  i : Nat
  D : Nat
  rr : Tr AV
  op : Op
  x : AV
  k : Nat
  w : List Nat
structure DS where
  r : Tr AV
  S : AH
  pd : Nat
  last : Option Nat
  al : List (Nat × List AV)
  sn : List Snap
  rd : List Rdr
  xs : Tr AV
noncomputable def blkOf (l : List AV) : ABlk := .cells 0 0 l.length (Tr.leaf.puts 0 l)
noncomputable def absorbE (b0 : Nat) (S : AH) (m pd : Nat) (al : List (Nat × List AV)) : AH :=
  List.rec (motive := fun _ => AH) S (fun p _ ih => bif hasB m p.1 && !(hasB pd p.1) then ⟨ih.next, ih.t.set (b0 + p.1) (blkOf p.2), (b0 + p.1) :: ih.wr⟩ else ih) al
def isEff : Op → Bool
  | .store _ _ _ => true
  | .mapUpdate _ _ _ _ => true
  | .insert _ _ _ _ => true
  | .makeMap _ _ => true
  | .call c => (match c.callee with
    | .builtin .append => true
    | .builtin .copy => true
    | .builtin .clear => true
    | .builtin _ => false
    | _ => true)
  | _ => false
/-- Does reading memory matter to it? -/
def memOp : Op → Bool
  | .load _ _ => true
  | .lookup _ _ _ _ => true
  | .convert _ _ _ => true
  | .call _ => true
  | _ => false
theorem memOp_ok {T : TypeId → Option TI} {S : TypeId → Bool} {op : Op} (h : memOp op = false) (H H' : AH) (r : Tr AV) : readE T S H r op = readE T S H' r op := by
  cases op <;> first | rfl | (simp [memOp] at h; done) | skip
  case makeFunc fn a b => cases fn <;> rfl
noncomputable def effStep (E : Env) (cf : CF) (S : AH) (rr : Tr AV) (op : Op) : Option (AV × AH) :=
  match effE E.T S rr op with
  | some p => some p
  | none => (targetE E.M rr op).bind fun p => cf p.1 p.2 S
noncomputable def lastOk (last : Option Nat) (D : Nat) : Bool :=
  match last with
  | none => true
  | some p => hasB D p
noncomputable def dynE (E : Env) (cf : CF) (nt b0 : Nat) (ops : List Oper) (D : Tr Nat) (l : List Oper) : Nat → DS → Option DS :=
  List.rec (motive := fun _ => Nat → DS → Option DS) (fun _ st => some st) (fun o _ ih i st =>
    (wantE ops (restr st.r (looksE ops o)) o).bind fun b => bif b then
      (bif isEff o.op then
        (bif lastOk st.last ((D.get i).getD 0) && Nat.beq (Nat.lor st.pd ((D.get i).getD 0)) ((D.get i).getD 0) then
          (effStep E cf (absorbE b0 st.S ((D.get i).getD 0) st.pd st.al) (restr st.r (looksE ops o)) o.op).bind fun p => (putE nt st.r o.dst p.1).bind fun r' =>
            ih (Nat.succ i) ⟨r', p.2, (D.get i).getD 0, some i, st.al, ⟨st.S, st.pd, some i, st.sn.length⟩ :: st.sn, st.rd, st.xs.set i p.1⟩
        else none)
      else match readE E.T E.S (absorbE b0 st.S ((D.get i).getD 0) st.pd st.al) (restr st.r (looksE ops o)) o.op with
        | some x => (putE nt st.r o.dst x).bind fun r' => ih (Nat.succ i) ⟨r', st.S, st.pd, st.last, st.al, st.sn, bif memOp o.op then ⟨i, (D.get i).getD 0, restr st.r (looksE ops o), o.op, x, st.sn.length, st.S.wr⟩ :: st.rd else st.rd, st.xs.set i x⟩
        | none => (allocE E.T (restr st.r (looksE ops o)) o.op).bind fun p => (putE nt st.r o.dst (p.2 (b0 + i))).bind fun r' => ih (Nat.succ i) ⟨r', st.S, st.pd, st.last, (i, p.1) :: st.al, st.sn, st.rd, st.xs.set i (p.2 (b0 + i))⟩)
    else (putE nt st.r o.dst (.tup [])).bind fun r' => ih (Nat.succ i) ⟨r', st.S, st.pd, st.last, st.al, st.sn, st.rd, st.xs.set i (.tup [])⟩) l
noncomputable def nextIn (next : Option Nat) (D : Nat) : Bool :=
  match next with
  | none => false
  | some j => hasB D j
noncomputable def famOf (rr : Tr AV) (op : Op) : Option Nat :=
  match op with
  | .load _ p => (evO rr p).bind fun x => match x with
    | .ptr f _ _ _ => some f
    | _ => none
  | _ => none
noncomputable def apartL (f : Nat) (a b : List Nat) : Bool := !(memN f (takeL (Nat.sub a.length b.length) a)) && !(memN f (takeL (Nat.sub b.length a.length) b))
/-- Does it read what has not changed between the two? -/
noncomputable def famSame (b0 : Nat) (d : Rdr) (s : Snap) : Bool :=
  match famOf d.rr d.op with
  | some f => Nat.blt f b0 && apartL f s.S.wr d.w
  | none => false
noncomputable def readOk (E : Env) (b0 : Nat) (al : List (Nat × List AV)) (d : Rdr) (s : Snap) : Bool :=
  bif Nat.beq s.k d.k then true else bif hasB s.pd d.i then true else bif nextIn s.next d.D then true else bif famSame b0 d s then true else match readE E.T E.S (absorbE b0 s.S d.D s.pd al) d.rr d.op with
    | some x => eqV 12 x d.x
    | none => false
noncomputable def allL {α : Type} (f : α → Bool) (l : List α) : Bool :=
  List.rec (motive := fun _ => Bool) true (fun x _ ih => bif f x then ih else false) l
theorem allL_ok {α : Type} {f : α → Bool} {l : List α} (h : allL f l = true) : ∀ x ∈ l, f x = true := by
  induction l with
  | nil => intro x hx; cases hx
  | cons a l ih =>
    intro x hx
    change (bif f a then allL f l else false) = true at h
    cases hc : f a <;> rw [hc] at h
    · cases h
    · cases hx with
      | head => exact hc
      | tail _ hx => exact ih h x hx
noncomputable def drawE (E : Env) (cf : CF) (nt : Nat) (ops : List Oper) (r : Tr AV) (H : AH) : Option (Tr AV × AH) :=
  bif textE ops (depsE ops 0 .leaf) then
    (dynE E cf nt H.next ops (depsE ops 0 .leaf) ops 0 ⟨r, ⟨H.next + ops.length, H.t, H.wr⟩, 0, none, [], [], [], .leaf⟩).bind fun st =>
      bif allL (fun d => allL (readOk E H.next st.al d) (⟨st.S, st.pd, none, st.sn.length⟩ :: st.sn)) st.rd then some (st.r, absorbE H.next st.S (Nat.sub (2 ^ ops.length) 1) st.pd st.al) else none
  else none

/-! ### What the run says -/
section
variable {E : Env} {cf : CF} {nt b0 : Nat} {ops : List Oper} {D : Tr Nat} {r0 : Tr AV}
noncomputable def DS.sf (st : DS) : List Snap := st.sn.reverse ++ [⟨st.S, st.pd, none, st.sn.length⟩]
noncomputable abbrev dep (D : Tr Nat) (i : Nat) : Nat := (D.get i).getD 0
/-- What holds before operation number i. -/
structure Run (ops : List Oper) (r0 : Tr AV) (i : Nat) (st : DS) : Prop where
  regs : ∀ t v, st.r.get t = some v → (∃ j o', j < i ∧ ops[j]? = some o' ∧ o'.dst = some t ∧ st.xs.get j = some v) ∨ (r0.get t = some v ∧ ∀ j o', j < i → ops[j]? = some o' → o'.dst ≠ some t)
  al : ∀ p ∈ st.al, p.1 < i
  sn : ∀ s ∈ st.sn, ∃ p, s.next = some p ∧ p < i ∧ (st.last = some p ∨ hasB st.pd p = true)
  last : ∀ p, st.last = some p → p < i
  nd : (st.al.map Prod.fst).Nodup
  rk : ∀ (m : Nat) s, st.sn.reverse[m]? = some s → s.k = m
  lg1 : ∀ s ∈ st.sn, Logged s.S st.S
  lg2 : ∀ (m m' : Nat) s s', m ≤ m' → st.sn.reverse[m]? = some s → st.sn.reverse[m']? = some s' → Logged s.S s'.S
/-- What the run says of operation number i. -/
def KEff (E : Env) (cf : CF) (b0 : Nat) (D : Tr Nat) (fin : DS) (i : Nat) (o : Oper) (rr : Tr AV) (x : AV) : Prop :=
  isEff o.op = true ∧ (∀ l, (i, l) ∉ fin.al) ∧ ∃ k s s', fin.sf[k]? = some s ∧ s.next = some i ∧ fin.sf[k + 1]? = some s' ∧ s'.pd = dep D i ∧ effStep E cf (absorbE b0 s.S (dep D i) s.pd fin.al) rr o.op = some (x, s'.S) ∧
    (∀ m, hasB s.pd m = true → hasB (dep D i) m = true) ∧ (∀ (k' : Nat) s'' p, k' < k → fin.sf[k']? = some s'' → s''.next = some p → hasB (dep D i) p = true) ∧ ∀ (k' : Nat) s'', fin.sf[k']? = some s'' → s''.next = some i → k' = k
def KRead (E : Env) (b0 : Nat) (D : Tr Nat) (fin : DS) (i : Nat) (o : Oper) (rr : Tr AV) (x : AV) : Prop :=
  (∀ l, (i, l) ∉ fin.al) ∧ ((memOp o.op = true ∧ ∃ kk ww, ⟨i, dep D i, rr, o.op, x, kk, ww⟩ ∈ fin.rd ∧ ∃ s, fin.sf[kk]? = some s ∧ s.S.wr = ww ∧ readE E.T E.S (absorbE b0 s.S (dep D i) s.pd fin.al) rr o.op = some x) ∨ (memOp o.op = false ∧ ∃ Hx, readE E.T E.S Hx rr o.op = some x))
def KAlloc (E : Env) (b0 : Nat) (fin : DS) (i : Nat) (o : Oper) (rr : Tr AV) (x : AV) : Prop :=
  ∃ l mk, allocE E.T rr o.op = some (l, mk) ∧ x = mk (b0 + i) ∧ (i, l) ∈ fin.al ∧ ∀ l', (i, l') ∈ fin.al → l' = l
structure Says (E : Env) (cf : CF) (nt b0 : Nat) (ops : List Oper) (D : Tr Nat) (r0 : Tr AV) (fin : DS) (i : Nat) (o : Oper) (rr : Tr AV) (x : AV) : Prop where
  val : fin.xs.get i = some x
  dst : ∀ d, o.dst = some d → d < nt
  regs : ∀ t v, rr.get t = some v → t ∈ looksE ops o ∧ ((∃ j o', j < i ∧ ops[j]? = some o' ∧ o'.dst = some t ∧ fin.xs.get j = some v) ∨ (r0.get t = some v ∧ ∀ j o', j < i → ops[j]? = some o' → o'.dst ≠ some t))
  kind : (wantE ops rr o = some true ∧ KEff E cf b0 D fin i o rr x) ∨
    ((∀ (k : Nat) s, fin.sf[k]? = some s → s.next ≠ some i) ∧ ((wantE ops rr o = some false ∧ x = .tup [] ∧ ∀ l, (i, l) ∉ fin.al) ∨ (wantE ops rr o = some true ∧ (KRead E b0 D fin i o rr x ∨ KAlloc E b0 fin i o rr x))))
/-- From the state before operation i to the end. -/
structure Goes (i : Nat) (st fin : DS) : Prop where
  al : ∃ na, fin.al = na ++ st.al ∧ ∀ p ∈ na, i ≤ p.1
  sn : ∃ ns, fin.sn = ns ++ st.sn ∧ ∀ s ∈ ns, ∃ p, s.next = some p ∧ i ≤ p
  rd : ∃ nr, fin.rd = nr ++ st.rd
  head : ∃ s, fin.sf[st.sn.length]? = some s ∧ s.S = st.S ∧ s.pd = st.pd
  xs : ∀ j, j < i → fin.xs.get j = st.xs.get j
theorem Goes.refl (i : Nat) (st : DS) : Goes i st st :=
  ⟨⟨[], rfl, by simp⟩, ⟨[], rfl, by simp⟩, ⟨[], rfl⟩, ⟨⟨st.S, st.pd, none, st.sn.length⟩, by simp [DS.sf], rfl, rfl⟩, fun _ _ => rfl⟩
theorem absorb_log {S : AH} {m pd : Nat} (al : List (Nat × List AV)) : Logged S (absorbE b0 S m pd al) := by
  induction al with
  | nil => exact Logged.refl _
  | cons p al ih =>
    have e : absorbE b0 S m pd (p :: al) = bif hasB m p.1 && !(hasB pd p.1) then ⟨(absorbE b0 S m pd al).next, (absorbE b0 S m pd al).t.set (b0 + p.1) (blkOf p.2), (b0 + p.1) :: (absorbE b0 S m pd al).wr⟩ else absorbE b0 S m pd al := rfl
    rw [e]
    cases hasB m p.1 && !(hasB pd p.1) with
    | true => exact ih.trans Logged.set
    | false => exact ih
theorem absorb_lt {S : AH} {m pd f : Nat} (hf : f < b0) (al : List (Nat × List AV)) : (absorbE b0 S m pd al).t.get f = S.t.get f := by
  induction al with
  | nil => rfl
  | cons p al ih =>
    have e : absorbE b0 S m pd (p :: al) = bif hasB m p.1 && !(hasB pd p.1) then ⟨(absorbE b0 S m pd al).next, (absorbE b0 S m pd al).t.set (b0 + p.1) (blkOf p.2), (b0 + p.1) :: (absorbE b0 S m pd al).wr⟩ else absorbE b0 S m pd al := rfl
    rw [e]
    cases hasB m p.1 && !(hasB pd p.1) with
    | true =>
      show ((absorbE b0 S m pd al).t.set (b0 + p.1) (blkOf p.2)).get f = _
      rw [Tr.get_set, if_neg (by omega), ih]
    | false => exact ih
theorem absorb_more {S : AH} {m pd : Nat} {al : List (Nat × List AV)} : ∀ {na : List (Nat × List AV)}, (∀ p ∈ na, hasB m p.1 = false) → absorbE b0 S m pd (na ++ al) = absorbE b0 S m pd al := by
  intro na
  induction na with
  | nil => intro _; rfl
  | cons p na ih =>
    intro h
    have e : absorbE b0 S m pd (p :: (na ++ al)) = bif hasB m p.1 && !(hasB pd p.1) then ⟨(absorbE b0 S m pd (na ++ al)).next, (absorbE b0 S m pd (na ++ al)).t.set (b0 + p.1) (blkOf p.2), (b0 + p.1) :: (absorbE b0 S m pd (na ++ al)).wr⟩ else absorbE b0 S m pd (na ++ al) := rfl
    show absorbE b0 S m pd (p :: (na ++ al)) = _
    rw [e, h p (by simp)]
    exact ih fun q hq => h q (by simp [hq])
theorem putE_get {nt : Nat} {r r' : Tr AV} {dst : Option Tmp} {x : AV} (h : putE nt r dst x = some r') : (∀ d, dst = some d → d < nt) ∧ ∀ t v, r'.get t = some v → (dst = some t ∧ v = x) ∨ (dst ≠ some t ∧ r.get t = some v) := by
  cases dst with
  | none => cases h; exact ⟨by simp, fun t v hv => .inr ⟨by simp, hv⟩⟩
  | some d =>
    replace h := cond_some h
    obtain ⟨hc, h⟩ := h
    rw [Nat.blt_eq] at hc
    cases h
    refine ⟨fun e he => by cases he; exact hc, fun t v hv => ?_⟩
    rw [Tr.get_set] at hv
    by_cases e : d = t
    · rw [if_pos e] at hv; cases hv; subst e; exact .inl ⟨rfl, rfl⟩
    · rw [if_neg e] at hv; exact .inr ⟨by simpa using e, hv⟩
theorem Run.next {i : Nat} {st st' : DS} {o : Oper} {x : AV} (h : Run ops r0 i st) (ho : ops[i]? = some o) (hr : putE nt st.r o.dst x = some st'.r) (hx : st'.xs = st.xs.set i x)
    (hal : ∀ p ∈ st'.al, p.1 < i + 1) (hsn : ∀ s ∈ st'.sn, ∃ p, s.next = some p ∧ p < i + 1 ∧ (st'.last = some p ∨ hasB st'.pd p = true)) (hl : ∀ p, st'.last = some p → p < i + 1) (hnd : (st'.al.map Prod.fst).Nodup) (hrk : ∀ (m : Nat) s, st'.sn.reverse[m]? = some s → s.k = m)
    (hlg1 : ∀ s ∈ st'.sn, Logged s.S st'.S) (hlg2 : ∀ (m m' : Nat) s s', m ≤ m' → st'.sn.reverse[m]? = some s → st'.sn.reverse[m']? = some s' → Logged s.S s'.S) : Run ops r0 (i + 1) st' := by
  refine ⟨fun t v hv => ?_, hal, hsn, hl, hnd, hrk, hlg1, hlg2⟩
  rcases (putE_get hr).2 t v hv with ⟨h1, rfl⟩ | ⟨h1, h2⟩
  · exact .inl ⟨i, o, by omega, ho, h1, by rw [hx, Tr.get_set, if_pos rfl]⟩
  · rcases h.regs t v h2 with ⟨j, o', hj, g1, g2, g3⟩ | ⟨g1, g2⟩
    · exact .inl ⟨j, o', by omega, g1, g2, by rw [hx, Tr.get_set, if_neg (by omega)]; exact g3⟩
    · refine .inr ⟨g1, fun j o' hj hoj => ?_⟩
      by_cases e : j = i
      · subst e; rw [ho] at hoj; cases hoj; exact h1
      · exact g2 j o' (by omega) hoj
theorem Goes.next {i : Nat} {st st' fin : DS} {x : AV} (g : Goes (i + 1) st' fin) (hal : ∃ na, st'.al = na ++ st.al ∧ ∀ p ∈ na, i ≤ p.1) (hrd : ∃ nr, st'.rd = nr ++ st.rd) (hxs : st'.xs = st.xs.set i x)
    (hsn : (st'.sn = st.sn ∧ st'.S = st.S ∧ st'.pd = st.pd) ∨ st'.sn = ⟨st.S, st.pd, some i, st.sn.length⟩ :: st.sn) : Goes i st fin := by
  obtain ⟨⟨na, a1, a2⟩, ⟨ns, b1, b2⟩, ⟨nr, c1⟩, ⟨s, d1, d2, d3⟩, e1⟩ := g
  obtain ⟨ma, a3, a4⟩ := hal
  obtain ⟨mr, c2⟩ := hrd
  refine ⟨⟨na ++ ma, by rw [a1, a3, List.append_assoc], ?_⟩, ?_, ⟨nr ++ mr, by rw [c1, c2, List.append_assoc]⟩, ?_, ?_⟩
  · intro p hp
    rcases List.mem_append.1 hp with hp | hp
    · have := a2 p hp; omega
    · exact a4 p hp
  · rcases hsn with ⟨h1, h2, h3⟩ | h1
    · exact ⟨ns, by rw [b1, h1], fun s hs => let ⟨p, q1, q2⟩ := b2 s hs; ⟨p, q1, by omega⟩⟩
    · refine ⟨ns ++ [⟨st.S, st.pd, some i, st.sn.length⟩], by rw [b1, h1]; simp, fun s hs => ?_⟩
      rcases List.mem_append.1 hs with hs | hs
      · obtain ⟨p, q1, q2⟩ := b2 s hs; exact ⟨p, q1, by omega⟩
      · simp at hs; subst hs; exact ⟨i, rfl, by omega⟩
  · rcases hsn with ⟨h1, h2, h3⟩ | h1
    · exact ⟨s, by rw [← h1]; exact d1, by rw [← h2]; exact d2, by rw [← h3]; exact d3⟩
    · refine ⟨⟨st.S, st.pd, some i, st.sn.length⟩, ?_, rfl, rfl⟩
      unfold DS.sf
      rw [b1, h1]
      simp only [List.reverse_append, List.reverse_cons, List.append_assoc]
      rw [List.getElem?_append_right (by simp)]
      simp
  · intro j hj
    rw [e1 j (by omega), hxs, Tr.get_set, if_neg (by omega)]
end
end Go.Proofs.YtllfnhapnndngaaGreatDoor.E
namespace Go.Proofs.YtllfnhapnndngaaGreatDoor.E
open Go
set_option linter.unusedVariables false
set_option linter.unusedSimpArgs false
section
variable {E : Env} {cf : CF} {nt b0 : Nat} {ops : List Oper} {D : Tr Nat} {r0 : Tr AV}
theorem Text.lt {D' : Nat → Nat} (ht : Text ops D') : ∀ i o, ops[i]? = some o → ∀ j, hasB (D' i) j = true → j < i := by
  intro i
  induction i using Nat.strongRecOn with
  | _ i ih =>
    intro o ho j hj
    obtain ⟨e, he, hb, h⟩ := ht.conv i o ho j hj
    have hlt := (ht.edge i o ho e he hb).1
    rcases h with rfl | h
    · exact hlt
    · have hlen : i < ops.length := (List.getElem?_eq_some_iff.1 ho).1
      have := ih e.on hlt _ (List.getElem?_eq_getElem (by omega)) j h
      omega
theorem dynE_cons (o : Oper) (l : List Oper) (i : Nat) (st : DS) : dynE E cf nt b0 ops D (o :: l) i st =
    (wantE ops (restr st.r (looksE ops o)) o).bind fun b => bif b then
      (bif isEff o.op then
        (bif lastOk st.last ((D.get i).getD 0) && Nat.beq (Nat.lor st.pd ((D.get i).getD 0)) ((D.get i).getD 0) then
          (effStep E cf (absorbE b0 st.S ((D.get i).getD 0) st.pd st.al) (restr st.r (looksE ops o)) o.op).bind fun p => (putE nt st.r o.dst p.1).bind fun r' =>
            dynE E cf nt b0 ops D l (i + 1) ⟨r', p.2, (D.get i).getD 0, some i, st.al, ⟨st.S, st.pd, some i, st.sn.length⟩ :: st.sn, st.rd, st.xs.set i p.1⟩
        else none)
      else match readE E.T E.S (absorbE b0 st.S ((D.get i).getD 0) st.pd st.al) (restr st.r (looksE ops o)) o.op with
        | some x => (putE nt st.r o.dst x).bind fun r' => dynE E cf nt b0 ops D l (i + 1) ⟨r', st.S, st.pd, st.last, st.al, st.sn, bif memOp o.op then ⟨i, (D.get i).getD 0, restr st.r (looksE ops o), o.op, x, st.sn.length, st.S.wr⟩ :: st.rd else st.rd, st.xs.set i x⟩
        | none => (allocE E.T (restr st.r (looksE ops o)) o.op).bind fun p => (putE nt st.r o.dst (p.2 (b0 + i))).bind fun r' => dynE E cf nt b0 ops D l (i + 1) ⟨r', st.S, st.pd, st.last, (i, p.1) :: st.al, st.sn, st.rd, st.xs.set i (p.2 (b0 + i))⟩)
    else (putE nt st.r o.dst (.tup [])).bind fun r' => dynE E cf nt b0 ops D l (i + 1) ⟨r', st.S, st.pd, st.last, st.al, st.sn, st.rd, st.xs.set i (.tup [])⟩ := rfl
/-- What a state's own part says. -/
theorem says_regs {i : Nat} {st fin : DS} {o : Oper} (h : Run ops r0 i st) (g : Goes i st fin) : ∀ t v, (restr st.r (looksE ops o)).get t = some v → t ∈ looksE ops o ∧ ((∃ j o', j < i ∧ ops[j]? = some o' ∧ o'.dst = some t ∧ fin.xs.get j = some v) ∨ (r0.get t = some v ∧ ∀ j o', j < i → ops[j]? = some o' → o'.dst ≠ some t)) := by
  intro t v hv
  obtain ⟨h1, h2⟩ := restr_ok hv
  refine ⟨h1, ?_⟩
  rcases h.regs t v h2 with ⟨j, o', hj, g1, g2, g3⟩ | h3
  · exact .inl ⟨j, o', hj, g1, g2, by rw [g.xs j hj]; exact g3⟩
  · exact .inr h3
/-- An operation that is no change: none of the snapshots waits for it. -/
theorem sf_ne {i : Nat} {st st' fin : DS} (h : Run ops r0 i st) (g : Goes (i + 1) st' fin) (hs : st'.sn = st.sn) : ∀ (k : Nat) s, fin.sf[k]? = some s → s.next ≠ some i := by
  intro k s hk he
  have hm : s ∈ fin.sf := List.mem_of_getElem? hk
  unfold DS.sf at hm
  obtain ⟨ns, b1, b2⟩ := g.sn
  rw [b1, hs] at hm
  simp only [List.reverse_append, List.mem_append, List.mem_reverse, List.mem_singleton] at hm
  rcases hm with (hm | hm) | hm
  · obtain ⟨p, q1, q2, _⟩ := h.sn s hm; rw [he] at q1; cases q1; omega
  · obtain ⟨p, q1, q2⟩ := b2 s hm; rw [he] at q1; cases q1; omega
  · subst hm; cases he
theorem al_ne {i : Nat} {st st' fin : DS} (h : Run ops r0 i st) (g : Goes (i + 1) st' fin) (hs : st'.al = st.al) : ∀ l, (i, l) ∉ fin.al := by
  intro l hm
  obtain ⟨na, a1, a2⟩ := g.al
  rw [a1, hs] at hm
  rcases List.mem_append.1 hm with hm | hm
  · have := a2 _ hm; simp at this; omega
  · have := h.al _ hm; simp at this
theorem effStep_log {S S' : AH} {rr : Tr AV} {op : Op} {x : AV} (hlg : LogOk cf) (h : effStep E cf S rr op = some (x, S')) : Logged S S' := by
  unfold effStep at h
  split at h
  · rename_i p hp
    cases h
    exact effE_log hp
  · simp only [Option.bind_eq_some_iff] at h
    obtain ⟨p, hp, h⟩ := h
    exact hlg _ _ _ _ _ h
theorem dyn_ok (hlg : LogOk cf) (ht : Text ops (dep D)) (l : List Oper) : ∀ (i : Nat) (st fin : DS), (∀ k : Nat, l[k]? = ops[i + k]?) → dynE E cf nt b0 ops D l i st = some fin → Run ops r0 i st →
    Goes i st fin ∧ Run ops r0 (i + l.length) fin ∧ ∀ (k : Nat) (o : Oper), l[k]? = some o → ∃ rr x, Says E cf nt b0 ops D r0 fin (i + k) o rr x := by
  induction l with
  | nil =>
    intro i st fin hl h hr
    cases h
    exact ⟨Goes.refl i st, hr, by intro k o hk; simp at hk⟩
  | cons o l ih =>
    intro i st fin hl h hr
    have ho : ops[i]? = some o := by have := hl 0; simpa using this.symm
    have hl' : ∀ k : Nat, l[k]? = ops[i + 1 + k]? := fun k => by have := hl (k + 1); simpa [Nat.add_assoc, Nat.add_comm 1 k] using this
    -- the rest, once the next state is known
    have rest : ∀ (st' : DS) (x : AV), dynE E cf nt b0 ops D l (i + 1) st' = some fin → Run ops r0 (i + 1) st' → (∃ na, st'.al = na ++ st.al ∧ ∀ p ∈ na, i ≤ p.1) → (∃ nr, st'.rd = nr ++ st.rd) → st'.xs = st.xs.set i x →
        ((st'.sn = st.sn ∧ st'.S = st.S ∧ st'.pd = st.pd) ∨ st'.sn = ⟨st.S, st.pd, some i, st.sn.length⟩ :: st.sn) → (∀ d, o.dst = some d → d < nt) →
        (Goes (i + 1) st' fin → Goes i st fin → (wantE ops (restr st.r (looksE ops o)) o = some true ∧ KEff E cf b0 D fin i o (restr st.r (looksE ops o)) x) ∨
          ((∀ (k : Nat) s, fin.sf[k]? = some s → s.next ≠ some i) ∧ ((wantE ops (restr st.r (looksE ops o)) o = some false ∧ x = .tup [] ∧ ∀ l, (i, l) ∉ fin.al) ∨ (wantE ops (restr st.r (looksE ops o)) o = some true ∧ (KRead E b0 D fin i o (restr st.r (looksE ops o)) x ∨ KAlloc E b0 fin i o (restr st.r (looksE ops o)) x))))) →
        Goes i st fin ∧ Run ops r0 (i + (o :: l).length) fin ∧ ∀ (k : Nat) (o' : Oper), (o :: l)[k]? = some o' → ∃ rr x, Says E cf nt b0 ops D r0 fin (i + k) o' rr x := by
      intro st' x h1 h2 h3 h4 h5 h6 h7 h8
      obtain ⟨g1, g2, g3⟩ := ih (i + 1) st' fin hl' h1 h2
      have g := Goes.next g1 h3 h4 h5 h6
      refine ⟨g, by rw [List.length_cons, show i + (l.length + 1) = i + 1 + l.length by omega]; exact g2, fun k o' hk => ?_⟩
      cases k with
      | zero =>
        simp at hk
        subst hk
        refine ⟨restr st.r (looksE ops o), x, ?_, h7, says_regs hr g, h8 g1 g⟩
        have := g1.xs i (by omega)
        show fin.xs.get i = some x
        rw [this, h5, Tr.get_set, if_pos rfl]
      | succ k =>
        have := g3 k o' (by simpa using hk)
        rwa [show i + 1 + k = i + (k + 1) by omega] at this
    rw [dynE_cons] at h
    simp only [Option.bind_eq_some_iff] at h
    obtain ⟨b, hb, h⟩ := h
    cases b with
    | false =>
      simp only [cond_false, Option.bind_eq_some_iff] at h
      obtain ⟨r', hr', h⟩ := h
      refine rest _ _ h (hr.next ho hr' rfl (fun p hp => Nat.lt_succ_of_lt (hr.al p hp)) (fun s hs => let ⟨p, q1, q2, q3⟩ := hr.sn s hs; ⟨p, q1, Nat.lt_succ_of_lt q2, q3⟩) (fun p hp => Nat.lt_succ_of_lt (hr.last p hp)) hr.nd hr.rk hr.lg1 hr.lg2)
        ⟨[], rfl, by simp⟩ ⟨[], rfl⟩ rfl (.inl ⟨rfl, rfl, rfl⟩) (putE_get hr').1 fun g1 g => .inr ⟨sf_ne hr g1 rfl, .inl ⟨hb, rfl, al_ne hr g1 rfl⟩⟩
    | true =>
      simp only [cond_true] at h
      cases he : isEff o.op with
      | true =>
        rw [he] at h
        simp only [cond_true] at h
        replace h := cond_some h
        obtain ⟨hc, h⟩ := h
        simp only [Bool.and_eq_true] at hc
        obtain ⟨hc1, hc2⟩ := hc
        simp only [Option.bind_eq_some_iff] at h
        obtain ⟨⟨x, S'⟩, hx, r', hr', h⟩ := h
        have hsub : ∀ m, hasB st.pd m = true → hasB (dep D i) m = true := fun m hm => sub_of_lor hc2 hm
        have hstep : Logged st.S S' := (absorb_log st.al).trans (effStep_log hlg hx)
        have hlast : ∀ p, st.last = some p → hasB (dep D i) p = true := fun p hp => by
          unfold lastOk at hc1; rw [hp] at hc1; exact hc1
        refine rest _ x h (hr.next ho hr' rfl (fun p hp => Nat.lt_succ_of_lt (hr.al p hp)) ?_ (fun p hp => by cases hp; omega) hr.nd (by
          intro m s hm
          simp only [List.reverse_cons] at hm
          rcases Nat.lt_or_ge m st.sn.length with h1 | h1
          · rw [List.getElem?_append_left (by simpa using h1)] at hm; exact hr.rk m s hm
          · rw [List.getElem?_append_right (by simpa using h1)] at hm
            rcases Nat.lt_or_ge st.sn.length m with h2 | h2
            · rw [List.getElem?_eq_none (by simp; omega)] at hm; cases hm
            · have e : m = st.sn.length := by omega
              subst e
              simp at hm; subst hm; rfl) (by
          intro s hs
          cases hs with
          | head => exact hstep
          | tail _ hs => exact (hr.lg1 s hs).trans hstep) (by
          intro m m' s s' hmm h1 h2
          simp only [List.reverse_cons] at h1 h2
          rcases Nat.lt_or_ge m' st.sn.length with h3 | h3
          · rw [List.getElem?_append_left (by simp; omega)] at h1 h2
            exact hr.lg2 m m' s s' hmm h1 h2
          · have h4 : m' = st.sn.length := by
              have := (List.getElem?_eq_some_iff.1 h2).1
              simp at this; omega
            subst h4
            rw [List.getElem?_append_right (by simp)] at h2
            simp at h2; subst h2
            rcases Nat.lt_or_ge m st.sn.length with h5 | h5
            · rw [List.getElem?_append_left (by simpa using h5)] at h1
              exact hr.lg1 s (by simpa using List.mem_of_getElem? h1)
            · have : m = st.sn.length := by omega
              subst this
              rw [List.getElem?_append_right (by simp)] at h1
              simp at h1; subst h1
              exact Logged.refl _))
          ⟨[], rfl, by simp⟩ ⟨[], rfl⟩ rfl (.inr rfl) (putE_get hr').1 fun g1 g => .inl ⟨hb, he, al_ne hr g1 rfl, ?_⟩
        · intro s hs
          cases hs with
          | head => exact ⟨i, rfl, by omega, .inl rfl⟩
          | tail _ hs =>
            obtain ⟨p, q1, q2, q3⟩ := hr.sn s hs
            refine ⟨p, q1, by omega, .inr ?_⟩
            rcases q3 with q3 | q3
            · exact hlast p q3
            · exact hsub p q3
        · obtain ⟨ns, b1, b2⟩ := g1.sn
          obtain ⟨s', d1, d2, d3⟩ := g1.head
          have hsf : fin.sf = st.sn.reverse ++ (⟨st.S, st.pd, some i, st.sn.length⟩ :: (ns.reverse ++ [⟨fin.S, fin.pd, none, fin.sn.length⟩])) := by
            unfold DS.sf
            rw [b1]
            simp
          refine ⟨st.sn.length, ⟨st.S, st.pd, some i, st.sn.length⟩, s', ?_, rfl, d1, d3, ?_, hsub, ?_, ?_⟩
          · rw [hsf, List.getElem?_append_right (by simp)]; simp
          · obtain ⟨na, a1, a2⟩ := g.al
            have habs : absorbE b0 st.S (dep D i) st.pd fin.al = absorbE b0 st.S (dep D i) st.pd st.al := by
              rw [a1]
              refine absorb_more fun p hp => ?_
              cases hq : hasB (dep D i) p.1 with
              | false => rfl
              | true => have := ht.lt i o ho p.1 hq; have := a2 p hp; omega
            show effStep E cf (absorbE b0 st.S (dep D i) st.pd fin.al) _ _ = _
            rw [habs, d2]
            exact hx
          · intro k' s'' p hk hs hp
            have hm : s'' ∈ st.sn := by
              rw [hsf, List.getElem?_append_left (by simpa using hk)] at hs
              simpa using List.mem_of_getElem? hs
            obtain ⟨p', q1, q2, q3⟩ := hr.sn s'' hm
            rw [hp] at q1
            cases q1
            rcases q3 with q3 | q3
            · exact hlast p q3
            · exact hsub p q3
          · intro k' s'' hs hp
            rcases Nat.lt_trichotomy k' st.sn.length with hk | hk | hk
            · have hm : s'' ∈ st.sn := by
                rw [hsf, List.getElem?_append_left (by simpa using hk)] at hs
                simpa using List.mem_of_getElem? hs
              obtain ⟨p', q1, q2, q3⟩ := hr.sn s'' hm
              rw [hp] at q1
              cases q1
              omega
            · exact hk
            · rw [hsf, List.getElem?_append_right (by simp; omega)] at hs
              simp only [List.length_reverse] at hs
              obtain ⟨m, hm⟩ : ∃ m, k' - st.sn.length = m + 1 := ⟨k' - st.sn.length - 1, by omega⟩
              rw [hm, List.getElem?_cons_succ] at hs
              have hmem := List.mem_of_getElem? hs
              rcases List.mem_append.1 hmem with hmem | hmem
              · obtain ⟨p, q1, q2⟩ := b2 s'' (by simpa using hmem)
                rw [hp] at q1
                cases q1
                omega
              · simp at hmem; subst hmem; cases hp
      | false =>
        rw [he] at h
        simp only [cond_false] at h
        split at h
        · rename_i x hx
          simp only [Option.bind_eq_some_iff] at h
          obtain ⟨r', hr', h⟩ := h
          refine rest _ x h (hr.next ho hr' rfl (fun p hp => Nat.lt_succ_of_lt (hr.al p hp)) (fun s hs => let ⟨p, q1, q2, q3⟩ := hr.sn s hs; ⟨p, q1, Nat.lt_succ_of_lt q2, q3⟩) (fun p hp => Nat.lt_succ_of_lt (hr.last p hp)) hr.nd hr.rk hr.lg1 hr.lg2)
            ⟨[], rfl, by simp⟩ ?_ rfl (.inl ⟨rfl, rfl, rfl⟩) (putE_get hr').1 fun g1 g => .inr ⟨sf_ne hr g1 rfl, .inr ⟨hb, .inl ⟨al_ne hr g1 rfl, ?_⟩⟩⟩
          · cases hm : memOp o.op
            · exact ⟨[], rfl⟩
            · exact ⟨[_], rfl⟩
          · cases hm : memOp o.op with
            | false => exact .inr ⟨rfl, _, hx⟩
            | true =>
              refine .inl ⟨rfl, st.sn.length, st.S.wr, ?_, ?_⟩
              · obtain ⟨nr, c1⟩ := g1.rd
                rw [c1]
                simp [hm]
              · obtain ⟨s, d1, d2, d3⟩ := g.head
                refine ⟨s, d1, by rw [d2], ?_⟩
                obtain ⟨na, a1, a2⟩ := g.al
                have habs : absorbE b0 s.S (dep D i) s.pd fin.al = absorbE b0 st.S (dep D i) st.pd st.al := by
                  rw [a1, d2, d3]
                  refine absorb_more fun p hp => ?_
                  cases hq : hasB (dep D i) p.1 with
                  | false => rfl
                  | true => have := ht.lt i o ho p.1 hq; have := a2 p hp; omega
                rw [habs]
                exact hx
        · simp only [Option.bind_eq_some_iff] at h
          obtain ⟨⟨al, mk⟩, hx, r', hr', h⟩ := h
          refine rest _ _ h (hr.next ho hr' rfl ?_ (fun s hs => let ⟨p, q1, q2, q3⟩ := hr.sn s hs; ⟨p, q1, Nat.lt_succ_of_lt q2, q3⟩) (fun p hp => Nat.lt_succ_of_lt (hr.last p hp)) (List.nodup_cons.2 ⟨fun hm => by obtain ⟨p, hp, he⟩ := List.mem_map.1 hm; have := hr.al p hp; simp at he; omega, hr.nd⟩) hr.rk hr.lg1 hr.lg2)
            ⟨[(i, al)], rfl, by simp⟩ ⟨[], rfl⟩ rfl (.inl ⟨rfl, rfl, rfl⟩) (putE_get hr').1 fun g1 g => .inr ⟨sf_ne hr g1 rfl, .inr ⟨hb, .inr ⟨al, mk, hx, rfl, ?_, ?_⟩⟩⟩
          · intro p hp
            cases hp with
            | head => exact Nat.lt_succ_self i
            | tail _ hp => exact Nat.lt_succ_of_lt (hr.al p hp)
          · obtain ⟨na, a1, a2⟩ := g1.al
            rw [a1]; simp
          · intro l' hm
            obtain ⟨na, a1, a2⟩ := g1.al
            rw [a1] at hm
            rcases List.mem_append.1 hm with hm | hm
            · have := a2 _ hm; simp at this; omega
            · cases hm with
              | head => rfl
              | tail _ hm => have := hr.al _ hm; simp at this
end
end Go.Proofs.YtllfnhapnndngaaGreatDoor.E
namespace Go.Proofs.YtllfnhapnndngaaGreatDoor.E
open Go
set_option linter.unusedVariables false
set_option linter.unusedSimpArgs false
/-- A block that was made, and that the memory S does not know yet. -/
def Aside (ρ : Rho) (S : AH) (w : World) (n0 f : Nat) (l : List AV) : Prop :=
  ∃ (cb : Nat) (cs : Array Value) (el : TypeId) (fr : Nat × Nat), ρ f 0 = some ⟨cb, 0, l.length, cs.size - l.length⟩ ∧ w.heap[cb]? = some (.cells cs el fr) ∧ frozenOff fr cs.size ∧ l.length ≤ cs.size ∧ n0 ≤ cb ∧ ¬ Held ρ S cb ∧
    (∀ v im, ρ f v = some im → v = 0) ∧ S.t.get f = none ∧ ∀ (i : Nat) x, l[i]? = some x → x.one = true ∧ ∃ y, cs[i]? = some y ∧ R ρ x y
theorem live_set {S : AH} {f g v nx : Nat} {l : List AV} {ws : List Nat} (h : Live ⟨nx, S.t.set f (blkOf l), ws⟩ g v) : (g = f ∧ v = 0) ∨ (g ≠ f ∧ Live S g v) := by
  obtain ⟨b, hb, hv⟩ := h
  simp only [Tr.get_set] at hb
  by_cases hg : f = g
  · rw [if_pos hg] at hb
    cases hb
    obtain ⟨h1, h2⟩ := hv
    exact .inl ⟨hg.symm, by omega⟩
  · rw [if_neg hg] at hb; exact .inr ⟨fun e => hg e.symm, b, hb, hv⟩
theorem Aside.take {ρ : Rho} {S : AH} {w : World} {n0 f : Nat} {l : List AV} (h : Aside ρ S w n0 f l) (hr : Rel ρ S w) :
    Rel ρ ⟨S.next, S.t.set f (blkOf l), S.wr⟩ w ∧ ∀ c, Held ρ ⟨S.next, S.t.set f (blkOf l), S.wr⟩ c → Held ρ S c ∨ ∃ im, ρ f 0 = some im ∧ im.cb = c := by
  obtain ⟨cb, cs, el, fr, h1, h2, h3, h4, h5, h6, h7, h8, h9⟩ := h
  have hcb : cb < w.heap.size := (Array.getElem?_eq_some_iff.1 h2).1
  have himg : ∀ v im, ρ f v = some im → v = 0 ∧ im = ⟨cb, 0, l.length, cs.size - l.length⟩ := by
    intro v im hv
    have := h7 v im hv
    subst this
    rw [h1] at hv
    cases hv
    exact ⟨rfl, rfl⟩
  refine ⟨⟨?_, ?_, ?_, ?_, ?_, ?_, hr.root⟩, ?_⟩
  · intro g b hb
    simp only [Tr.get_set] at hb
    by_cases hg : f = g
    · rw [if_pos hg] at hb
      cases hb
      subst hg
      refine ⟨fun v im hv => ?_, fun v im _ hv => ?_⟩
      · obtain ⟨rfl, rfl⟩ := himg v im hv; simp
      · obtain ⟨rfl, rfl⟩ := himg v im hv
        refine ⟨Img.le _, cs, el, fr, h2, by simp only [Img.room]; omega, h3, fun i x hi hx => ?_⟩
        have hx' := get_leaf_puts l i x hx
        obtain ⟨a, y, hy, hR⟩ := h9 i x hx'
        exact ⟨a, y, by simpa using hy, hR⟩
    · rw [if_neg hg] at hb; exact hr.blk g b hb
  · intro g v k u im jm hne hlg hlk hi hj
    rcases live_set hlg with ⟨rfl, rfl⟩ | ⟨hg, hlg'⟩ <;> rcases live_set hlk with ⟨rfl, rfl⟩ | ⟨hk, hlk'⟩
    · exact absurd rfl hne
    · obtain ⟨_, rfl⟩ := himg 0 im hi
      intro e
      exact h6 ⟨k, u, jm, hlk', hj, e.symm⟩
    · obtain ⟨_, rfl⟩ := himg 0 jm hj
      intro e
      exact h6 ⟨g, v, im, hlg', hi, e⟩
    · exact hr.apart _ _ _ _ _ _ hne hlg' hlk' hi hj
  · intro g v u im jm hl1 hl2 hi hj he
    rcases live_set hl1 with ⟨rfl, rfl⟩ | ⟨hg, hl1'⟩
    · obtain ⟨_, rfl⟩ := himg 0 im hi
      obtain ⟨_, rfl⟩ := himg u jm hj
      rfl
    · rcases live_set hl2 with ⟨rfl, _⟩ | ⟨_, hl2'⟩
      · exact absurd rfl hg
      · exact hr.same g v u im jm hl1' hl2' hi hj he
  · exact hr.fresh
  · intro g v im hl hi
    rcases live_set hl with ⟨rfl, rfl⟩ | ⟨hg, hl'⟩
    · obtain ⟨_, rfl⟩ := himg 0 im hi; exact hcb
    · exact hr.size g v im hl' hi
  · intro g b hb
    simp only [Tr.get_set] at hb
    by_cases hg : f = g
    · subst hg; exact hr.fresh f 0 _ h1
    · rw [if_neg hg] at hb; exact hr.below g b hb
  · rintro c ⟨g, v, im, hl, hi, rfl⟩
    rcases live_set hl with ⟨rfl, rfl⟩ | ⟨hg, hl'⟩
    · exact .inr ⟨im, hi, rfl⟩
    · exact .inl ⟨g, v, im, hl', hi, rfl⟩
theorem Rel.logged {ρ : Rho} {n : Nat} {t : Tr ABlk} {ws : List Nat} {w : World} (h : Rel ρ ⟨n, t, ws⟩ w) (vs : List Nat) : Rel ρ ⟨n, t, vs⟩ w :=
  ⟨h.blk, h.apart, h.same, h.fresh, h.size, h.below, h.root⟩
theorem Aside.move {ρ ρ' : Rho} {S S' : AH} {w w' : World} {n0 f : Nat} {l : List AV} (h : Aside ρ S w n0 f l) (hst : Stp ρ S w ρ' S' w') (hf : f < S.next) : Aside ρ' S' w' n0 f l := by
  obtain ⟨cb, cs, el, fr, h1, h2, h3, h4, h5, h6, h7, h8, h9⟩ := h
  have hcb : cb < w.heap.size := (Array.getElem?_eq_some_iff.1 h2).1
  refine ⟨cb, cs, el, fr, hst.le _ _ _ h1, by rw [hst.frame cb hcb h6]; exact h2, h3, h4, h5, fun hh => h6 (hst.held cb hcb hh), fun v im hv => ?_, ?_, fun i x hx => ?_⟩
  · rcases hst.olds f v im hv with h | h | ⟨b, h⟩
    · exact h7 v im h
    · omega
    · rw [h8] at h; cases h
  · cases hb : S'.t.get f with
    | none => rfl
    | some b =>
      rcases hst.dom f b hb with h | ⟨b', h⟩
      · omega
      · rw [h8] at h; cases h
  · obtain ⟨a, y, hy, hR⟩ := h9 i x hx
    exact ⟨a, y, hy, R.mono hst.le hR⟩
/-- A block is made while the memory S goes on without it. -/
theorem Rel.aside {ρ : Rho} {S : AH} {w w' : World} (hr : Rel ρ S w) {f : Nat} (hf : f < S.next) (hfr : ∀ v, ρ f v = none) (hget : S.t.get f = none) {n0 : Nat} (hn0 : n0 ≤ w.heap.size) {l : List AV} (h1 : ∀ x ∈ l, x.one = true) {ys : List Value} (hl : RL ρ l ys)
    {cs : Array Value} {el : TypeId} {fr : Nat × Nat} (hcs : ∀ (j : Nat) (y : Value), ys[j]? = some y → cs[j]? = some y) (hfz : frozenOff fr cs.size) (hw : w'.heap = w.heap.push (.cells cs el fr)) :
    Rel (ρ.add f 0 ⟨w.heap.size, 0, l.length, cs.size - l.length⟩) S w' ∧ Aside (ρ.add f 0 ⟨w.heap.size, 0, l.length, cs.size - l.length⟩) S w' n0 f l := by
  have hle : ρ.le (ρ.add f 0 ⟨w.heap.size, 0, l.length, cs.size - l.length⟩) := Rho.le_add _ _ (hfr 0)
  have hne : ∀ g, g ≠ f → ∀ v, (ρ.add f 0 ⟨w.heap.size, 0, l.length, cs.size - l.length⟩) g v = ρ g v := fun g hg v => Rho.add_ne _ _ (by simp [hg])
  have hlive : ∀ g v, Live S g v → g ≠ f := by rintro g v ⟨b, hb, _⟩ rfl; rw [hget] at hb; cases hb
  have hold : ∀ k, k < w.heap.size → w'.heap[k]? = w.heap[k]? := fun k hk => by rw [hw, Array.getElem?_push, if_neg (by omega)]
  have hlen : l.length ≤ cs.size := by
    rcases Nat.lt_or_ge cs.size l.length with h | h
    · have hlt : cs.size < ys.length := by rw [← hl.length]; exact h
      have := hcs cs.size _ (List.getElem?_eq_getElem hlt)
      simp at this
    · exact h
  refine ⟨⟨?_, ?_, ?_, ?_, ?_, hr.below, ?_⟩, w.heap.size, cs, el, fr, Rho.add_same _ _ _ _, by rw [hw]; simp, hfz, hlen, hn0, ?_, ?_, hget, ?_⟩
  · intro g b hb
    have hg : g ≠ f := by rintro rfl; rw [hget] at hb; cases hb
    exact (hr.blk g b hb).mono hle (hne g hg) fun v im hv hi => hold _ (hr.size g v im ⟨b, hb, hv⟩ hi)
  · intro g v k u im jm hgk hl1 hl2 hi hj
    rw [hne g (hlive g v hl1)] at hi
    rw [hne k (hlive k u hl2)] at hj
    exact hr.apart _ _ _ _ _ _ hgk hl1 hl2 hi hj
  · intro g v u im jm hl1 hl2 hi hj he
    rw [hne g (hlive g v hl1)] at hi hj
    exact hr.same g v u im jm hl1 hl2 hi hj he
  · intro g v im hi
    by_cases hg : g = f
    · subst hg; exact hf
    · rw [hne g hg] at hi; exact hr.fresh g v im hi
  · intro g v im hl1 hi
    rw [hne g (hlive g v hl1)] at hi
    have := hr.size g v im hl1 hi
    rw [hw]; simp; omega
  · intro g im hi
    by_cases hg : g = f
    · subst hg; rw [Rho.add_same] at hi; cases hi; intro _; rfl
    · rw [hne g hg] at hi; exact hr.root g im hi
  · rintro ⟨g, v, im, hl1, hi, he⟩
    rw [hne g (hlive g v hl1)] at hi
    have := hr.size g v im hl1 hi
    omega
  · intro v im hv
    by_cases e : v = 0
    · exact e
    · rw [Rho.add_ne _ _ (by simp [e]), hfr] at hv; cases hv
  · intro i x hx
    obtain ⟨y, hy, hR⟩ := hl.get i x hx
    exact ⟨h1 x (List.mem_of_getElem? hx), y, hcs i y hy, R.mono hle hR⟩
/-- Blocks taken in. -/
theorem absorb_cons {b0 : Nat} (S : AH) (m pd : Nat) (p : Nat × List AV) (al : List (Nat × List AV)) : absorbE b0 S m pd (p :: al) = bif hasB m p.1 && !(hasB pd p.1) then ⟨(absorbE b0 S m pd al).next, (absorbE b0 S m pd al).t.set (b0 + p.1) (blkOf p.2), (b0 + p.1) :: (absorbE b0 S m pd al).wr⟩ else absorbE b0 S m pd al := rfl
structure Taken (ρ : Rho) (S : AH) (w : World) (b0 m pd : Nat) (al : List (Nat × List AV)) (A : AH) : Prop where
  rel : Rel ρ A w
  next : A.next = S.next
  wr : ∃ vs, A.wr = vs ++ S.wr
  held : ∀ c, Held ρ A c → Held ρ S c ∨ ∃ p ∈ al, hasB m p.1 = true ∧ hasB pd p.1 = false ∧ ∃ im, ρ (b0 + p.1) 0 = some im ∧ im.cb = c
  get : ∀ f, A.t.get f = S.t.get f ∨ ∃ p ∈ al, hasB m p.1 = true ∧ hasB pd p.1 = false ∧ f = b0 + p.1
theorem absorb_ok {ρ : Rho} {S : AH} {w : World} {b0 n0 m pd : Nat} (hr : Rel ρ S w) (al : List (Nat × List AV)) : (al.map Prod.fst).Nodup → (∀ p ∈ al, hasB m p.1 = true → hasB pd p.1 = false → Aside ρ S w n0 (b0 + p.1) p.2) →
    (∀ p ∈ al, ∀ q ∈ al, p.1 ≠ q.1 → hasB m p.1 = true → hasB pd p.1 = false → hasB m q.1 = true → hasB pd q.1 = false → ∀ im jm, ρ (b0 + p.1) 0 = some im → ρ (b0 + q.1) 0 = some jm → im.cb ≠ jm.cb) → Taken ρ S w b0 m pd al (absorbE b0 S m pd al) := by
  induction al with
  | nil => intro _ _ _; exact ⟨hr, rfl, ⟨[], rfl⟩, fun c h => .inl h, fun f => .inl rfl⟩
  | cons p al ih =>
    intro hnd has hsep
    have hnd' := List.nodup_cons.1 (by simpa using hnd : (p.1 :: al.map Prod.fst).Nodup)
    have t := ih hnd'.2 (fun q hq => has q (by simp [hq])) (fun q hq q' hq' => hsep q (by simp [hq]) q' (by simp [hq']))
    rw [absorb_cons]
    cases hc : hasB m p.1 && !(hasB pd p.1) with
    | false => exact ⟨t.rel, t.next, t.wr, fun c h => (t.held c h).imp id fun ⟨q, hq, h⟩ => ⟨q, by simp [hq], h⟩, fun f => (t.get f).imp id fun ⟨q, hq, h⟩ => ⟨q, by simp [hq], h⟩⟩
    | true =>
      simp only [Bool.and_eq_true, Bool.not_eq_true'] at hc
      have hne : ∀ q ∈ al, p.1 ≠ q.1 := fun q hq e => hnd'.1 (List.mem_map.2 ⟨q, hq, e.symm⟩)
      have ha : Aside ρ (absorbE b0 S m pd al) w n0 (b0 + p.1) p.2 := by
        obtain ⟨cb, cs, el, fr, h1, h2, h3, h4, h5, h6, h7, h8, h9⟩ := has p (by simp) hc.1 hc.2
        refine ⟨cb, cs, el, fr, h1, h2, h3, h4, h5, fun hh => ?_, h7, ?_, h9⟩
        · rcases t.held cb hh with hh | ⟨q, hq, g1, g2, im, g3, g4⟩
          · exact h6 hh
          · exact hsep p (by simp) q (by simp [hq]) (hne q hq) hc.1 hc.2 g1 g2 _ _ h1 g3 g4.symm
        · rcases t.get (b0 + p.1) with h | ⟨q, hq, _, _, he⟩
          · rw [h]; exact h8
          · exact absurd (by omega) (hne q hq)
      obtain ⟨g1, g2⟩ := ha.take t.rel
      obtain ⟨vs, hvs⟩ := t.wr
      refine ⟨g1.logged _, t.next, ⟨(b0 + p.1) :: vs, by simp [hvs]⟩, fun c hh => ?_, fun f => ?_⟩
      · rcases g2 c hh with hh | ⟨im, h1, h2⟩
        · exact (t.held c hh).imp id fun ⟨q, hq, h⟩ => ⟨q, by simp [hq], h⟩
        · exact .inr ⟨p, by simp, hc.1, hc.2, im, h1, h2⟩
      · by_cases e : b0 + p.1 = f
        · exact .inr ⟨p, by simp, hc.1, hc.2, e.symm⟩
        · simp only [cond_true, Tr.get_set, if_neg e]
          exact (t.get f).imp id fun ⟨q, hq, h⟩ => ⟨q, by simp [hq], h⟩
end Go.Proofs.YtllfnhapnndngaaGreatDoor.E
