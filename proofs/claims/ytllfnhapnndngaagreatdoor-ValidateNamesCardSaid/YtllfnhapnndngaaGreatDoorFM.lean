/- Calls that are known already: tables of closed calls, as hooks. Calls that are known, with rows of memory in their arguments and answers. Tables of known calls with rows of memory, as hooks. -/
import Derived.Test.YtllfnhapnndngaaGreatDoorFJ
import Derived.Test.YtllfnhapnndngaaGreatDoorFN
namespace Go.Proofs.YtllfnhapnndngaaGreatDoor.E
open Go Go.Proofs
set_option linter.unusedVariables false
set_option linter.unusedSimpArgs false
set_option maxRecDepth 100000
/-- Values with no word of memory in them, to a depth. -/
noncomputable def flN (n : Nat) : AV → Bool :=
  Nat.rec (motive := fun _ => AV → Bool) (fun x => x.bare) (fun _ ih x => match x with
    | .agg l => l.all ih
    | .tup l => l.all ih
    | x => x.bare) n
theorem RL.mapAll {ρ ρ' : Rho} {p : AV → Bool} (hp : ∀ x y, R ρ x y → p x = true → R ρ' x y) {l : List AV} : ∀ {vs : List Value}, RL ρ l vs → l.all p = true → RL ρ' l vs := by
  induction l with
  | nil => intro vs h _; cases h; exact .nil
  | cons x l ih =>
    intro vs h hb
    simp only [List.all_cons, Bool.and_eq_true] at hb
    cases h with | cons _ _ _ _ h hs => exact .cons _ _ _ _ (hp _ _ h hb.1) (ih hs hb.2)
theorem R.flN {ρ ρ' : Rho} (n : Nat) : ∀ (x : AV) (y : Value), R ρ x y → flN n x = true → R ρ' x y := by
  induction n with
  | zero => intro x y h hb; exact h.bare hb
  | succ n ih =>
    intro x y h hb
    cases h with
    | agg l vs hl => exact .agg _ _ (hl.mapAll ih hb)
    | tup l vs hl => exact .tup _ _ (hl.mapAll ih hb)
    | bool b => exact .bool b
    | int k n => exact .int k n
    | str s l h => exact .str s l h
    | nilp => exact .nilp
    | nils => exact .nils
    | nilm => exact .nilm
    | nilf => exact .nilf
    | nili => exact .nili
    | ptr => cases hb
    | sl => cases hb
    | sle => cases hb
    | map => cases hb
    | iter => cases hb
    | fn => cases hb
    | ifc => cases hb
/-- A call with no memory in its arguments nor in its answer. -/
theorem flat_callN {P : Program} {cf : CF} (hcf : CallOk P cf) {n : Nat} {f : FuncId} {xs : List AV} {Hc' : AH} {v : AV} (he : cf f xs AH.none = some (v, Hc')) (hxs : xs.all (flN n) = true) (hv : flN n v = true) {ρ : Rho} {H : AH} {w : World} {args : Array Value} (hr : Rel ρ H w) (hx : RL ρ xs args.toList) :
    (callFunc f args).run P w = .ok (.enter f args) w ∧ Calls P f args w fun e w' => ∃ ρ' y, e = .returned y ∧ R ρ' v y ∧ Rel ρ' H w' ∧ Stp ρ H w ρ' H w' := by
  have hx0 : RL rho0 xs args.toList := hx.mapAll (R.flN n) hxs
  obtain ⟨h1, h2⟩ := sub_call hcf he rfl (fun g b hb => (none_get hb).elim) (rel_none w) hx0
  refine ⟨h1, Calls.mono h2 fun e w' hp => ?_⟩
  obtain ⟨ρ', y, rfl, g1, g2, g3, g4⟩ := hp
  obtain ⟨a, b⟩ := hr.stay g3
  exact ⟨ρ, y, rfl, g1.flN n _ _ hv, a, b⟩
/-- A call that is known. -/
structure Ent where
  f : FuncId
  args : List AV
  res : AV
def EntOk (P : Program) (e : Ent) : Prop := ∀ (ρ : Rho) (H : AH) (w : World) (args : Array Value), Rel ρ H w → RL ρ e.args args.toList →
  (callFunc e.f args).run P w = .ok (.enter e.f args) w ∧ Calls P e.f args w fun en w' => ∃ ρ' y, en = .returned y ∧ R ρ' e.res y ∧ Rel ρ' H w' ∧ Stp ρ H w ρ' H w'
noncomputable def chk (o : Option (AV × AH)) (res : AV) : Bool := match o with | some p => eqV 12 p.1 res | none => false
noncomputable def flE (e : Ent) : Bool := e.args.all (flN 6) && flN 6 e.res
theorem ent_ok {P : Program} {cf : CF} (hcf : CallOk P cf) {e : Ent} (h : chk (cf e.f e.args AH.none) e.res = true) (hf : flE e = true) : EntOk P e := by
  intro ρ H w args hr hx
  unfold flE at hf
  rw [Bool.and_eq_true] at hf
  unfold chk at h
  split at h
  · rename_i p hp
    obtain ⟨v, H'⟩ := p
    have := eqV_ok 12 _ _ h
    simp only at this
    subst this
    exact flat_callN hcf hp hf.1 hf.2 hr hx
  · cases h
noncomputable def lookE (l : List Ent) (xs : List AV) : Option AV :=
  List.rec (motive := fun _ => Option AV) none (fun e _ ih => bif eqVs (eqV 12) e.args xs then some e.res else ih) l
theorem lookE_ok {l : List Ent} {xs : List AV} {v : AV} (h : lookE l xs = some v) : ∃ e ∈ l, e.args = xs ∧ e.res = v := by
  induction l with
  | nil => cases h
  | cons e l ih =>
    change (bif eqVs (eqV 12) e.args xs then some e.res else lookE l xs) = some v at h
    cases hc : eqVs (eqV 12) e.args xs <;> rw [hc] at h
    · obtain ⟨e', he, h1⟩ := ih h; exact ⟨e', List.mem_cons_of_mem _ he, h1⟩
    · cases h; exact ⟨e, List.mem_cons_self, eqVs_ok (eqV_ok 12) _ _ hc, rfl⟩
/-- The table's hook. -/
noncomputable def tabN (T : Tr (List Ent)) (base : CF) : CF := fun f xs H => match T.get f with
  | some l => (match lookE l xs with
    | some v => some (v, H)
    | none => base f xs H)
  | none => base f xs H
def TabOk (P : Program) (f : Nat) (l : List Ent) : Prop := ∀ e ∈ l, e.f = f ∧ EntOk P e
theorem tab_log {T : Tr (List Ent)} {base : CF} (hb : LogOk base) : LogOk (tabN T base) := by
  intro f xs H v H' h
  unfold tabN at h
  split at h
  · split at h
    · cases h; exact Logged.refl _
    · exact hb _ _ _ _ _ h
  · exact hb _ _ _ _ _ h
theorem tab_ok {P : Program} {T : Tr (List Ent)} (hT : AllT (TabOk P) T) {base : CF} (hb : CallOk P base) : CallOk P (tabN T base) := by
  intro f xs H v H' h ρ w args hr hx
  unfold tabN at h
  split at h
  · rename_i l hl
    split at h
    · rename_i v' hv
      cases h
      obtain ⟨e, he, rfl, rfl⟩ := lookE_ok hv
      obtain ⟨hf, ho⟩ := hT.get f l hl e he
      subst hf
      exact ho ρ H w args hr hx
    · exact hb _ _ _ _ _ h ρ w args hr hx
  · exact hb _ _ _ _ _ h ρ w args hr hx
theorem tabok_nil {P : Program} {f : Nat} : TabOk P f [] := by intro e he; cases he
theorem tabok_cons {P : Program} {f : Nat} {e : Ent} {l : List Ent} (h : EntOk P e) (hf : e.f = f) (hl : TabOk P f l) : TabOk P f (e :: l) := by
  intro e' he
  rcases List.mem_cons.1 he with rfl | he
  · exact ⟨hf, h⟩
  · exact hl e' he
/-- All hooks. -/
noncomputable def hooksN : CF := byteN (pruneN (sortN walkN))
theorem hooksN_ok : CallOk Tryz.prog hooksN := byteN_ok (pruneN_ok (sortN_ok walkN_ok))
theorem hooksN_log : LogOk hooksN := byteN_log (pruneN_log (sortN_log walkN_log))
noncomputable def runT (T : Tr (List Ent)) (f : FuncId) (xs : List AV) : Option (AV × AH) := runF (tabN T hooksN) 60 f xs AH.none
theorem runT_ok {T : Tr (List Ent)} (hT : AllT (TabOk Tryz.prog) T) {e : Ent} (h : chk (runT T e.f e.args) e.res = true) (hf : flE e = true) : EntOk Tryz.prog e :=
  ent_ok (runF_ok (tab_ok hT hooksN_ok) (tab_log hooksN_log) 60) h hf
end Go.Proofs.YtllfnhapnndngaaGreatDoor.E
namespace Go.Proofs.YtllfnhapnndngaaGreatDoor.E
open Go Go.Proofs
set_option linter.unusedVariables false
set_option linter.unusedSimpArgs false
set_option maxRecDepth 100000
/-! ### Rows -/
noncomputable def blkR (l : List AV) : ABlk := .cells 1 1 l.length (Tr.leaf.puts 0 l)
noncomputable def AH.newR (H : AH) (l : List AV) : AH := ⟨H.next + 1, H.t.set H.next (blkR l), H.next :: H.wr⟩
/-- Rows added, the last one first in the list. -/
noncomputable def AH.rowsR (H : AH) (rows : List (List AV)) : AH := List.rec (motive := fun _ => AH) H (fun r _ ih => ih.newR r) rows
theorem rowsR_next (H : AH) (rows : List (List AV)) : (H.rowsR rows).next = H.next + rows.length := by
  induction rows with
  | nil => rfl
  | cons r rows ih => show (H.rowsR rows).next + 1 = _; rw [ih]; simp; omega
theorem rowsR_old (H : AH) (rows : List (List AV)) {f : Nat} (hf : f < H.next) : (H.rowsR rows).t.get f = H.t.get f := by
  induction rows with
  | nil => rfl
  | cons r rows ih =>
    show ((H.rowsR rows).t.set (H.rowsR rows).next (blkR r)).get f = _
    rw [Tr.get_set, if_neg (by rw [rowsR_next]; omega), ih]
theorem rowsR_dom (H : AH) (rows : List (List AV)) {f : Nat} {b : ABlk} (h : (H.rowsR rows).t.get f = some b) : H.next ≤ f ∨ ∃ b', H.t.get f = some b' := by
  by_cases hf : f < H.next
  · rw [rowsR_old H rows hf] at h; exact .inr ⟨b, h⟩
  · exact .inl (by omega)
theorem rowsR_log (H : AH) (rows : List (List AV)) : Logged H (H.rowsR rows) := by
  induction rows with
  | nil => exact Logged.refl _
  | cons r rows ih => exact ih.trans Logged.set
theorem rowsR_wr (H : AH) (rows : List (List AV)) : ∃ ws, (H.rowsR rows).wr = ws ++ H.wr ∧ ∀ g ∈ ws, H.next ≤ g := by
  induction rows with
  | nil => exact ⟨[], rfl, by simp⟩
  | cons r rows ih =>
    obtain ⟨ws, h1, h2⟩ := ih
    refine ⟨(H.rowsR rows).next :: ws, by show (H.rowsR rows).next :: (H.rowsR rows).wr = _; rw [h1]; rfl, fun g hg => ?_⟩
    rcases List.mem_cons.1 hg with rfl | hg
    · rw [rowsR_next]; omega
    · exact h2 g hg
theorem Rel.addR {ρ : Rho} {H : AH} {w : World} (hr : Rel ρ H w) {gb base room : Nat} {cs : Array Value} {el : TypeId} {fr : Nat × Nat} (hgb : w.heap[gb]? = some (.cells cs el fr)) (hfr : frozenOff fr cs.size)
    {l : List AV} (h1 : ∀ x ∈ l, x.one = true) {ys : List Value} (hl : RL ρ l ys) (hcs : ∀ (j : Nat) (y : Value), ys[j]? = some y → cs[base + j]? = some y) (hlr : l.length ≤ room) (hroom : base + room ≤ cs.size) (hn : ¬ Held ρ H gb) :
    Rel (ρ.add H.next 1 ⟨gb, base, l.length, room - l.length⟩) (H.newR l) w ∧ ρ.le (ρ.add H.next 1 ⟨gb, base, l.length, room - l.length⟩) := by
  have hnone : ∀ v, ρ H.next v = none := fun v => by
    cases h : ρ H.next v with
    | none => rfl
    | some im => exact absurd (hr.fresh _ _ _ h) (by omega)
  obtain ⟨im0, hi0⟩ : ∃ im : Img, im = ⟨gb, base, l.length, room - l.length⟩ := ⟨_, rfl⟩
  rw [← hi0]
  have hle : ρ.le (ρ.add H.next 1 im0) := Rho.le_add _ _ (hnone 1)
  have hnew : ∀ v im, (ρ.add H.next 1 im0) H.next v = some im → v = 1 ∧ im = im0 := by
    intro v im h
    by_cases hv : v = 1
    · subst hv; rw [Rho.add_same] at h; cases h; exact ⟨rfl, rfl⟩
    · rw [Rho.add_ne _ _ (by simp [hv]), hnone] at h; cases h
  have hoth : ∀ g v, g ≠ H.next → (ρ.add H.next 1 im0) g v = ρ g v := fun g v hg => Rho.add_ne _ _ (by simp [hg])
  have hget : ∀ g, (H.newR l).t.get g = if H.next = g then some (blkR l) else H.t.get g := fun g => Tr.get_set _ _ _ _
  have hlive : ∀ g v, Live (H.newR l) g v → g = H.next ∨ (g ≠ H.next ∧ Live H g v) := by
    rintro g v ⟨b, hb, hv⟩
    rw [hget] at hb
    by_cases hg : H.next = g
    · exact .inl hg.symm
    · rw [if_neg hg] at hb; exact .inr ⟨fun e => hg e.symm, b, hb, hv⟩
  have hgbl := (Array.getElem?_eq_some_iff.1 hgb).1
  refine ⟨⟨?_, ?_, ?_, ?_, ?_, ?_, ?_⟩, hle⟩
  · intro g b hb
    rw [hget] at hb
    by_cases hg : H.next = g
    · rw [if_pos hg] at hb; cases hb; subst hg
      refine ⟨fun v im h => ?_, fun v im _ h => ?_⟩
      · obtain ⟨rfl, rfl⟩ := hnew v im h; rw [hi0]; exact ⟨Nat.le_refl _, Nat.le_refl _⟩
      · obtain ⟨rfl, rfl⟩ := hnew v im h
        subst hi0
        refine ⟨Img.le _, cs, el, fr, hgb, by simp only [Img.room]; omega, hfr, fun i x hi hx => ?_⟩
        have hx' := get_leaf_puts l i x hx
        obtain ⟨y, hy, hR⟩ := hl.get i x hx'
        exact ⟨h1 x (List.mem_of_getElem? hx'), y, hcs i y hy, R.mono hle hR⟩
    · rw [if_neg hg] at hb
      exact (hr.blk g b hb).mono hle (fun v => hoth g v (fun e => hg e.symm)) fun _ _ _ _ => rfl
  · intro g v k u im jm hne hlg hlk hi hj
    rcases hlive g v hlg with rfl | ⟨hg, hlg'⟩ <;> rcases hlive k u hlk with rfl | ⟨hk, hlk'⟩
    · exact absurd rfl hne
    · obtain ⟨_, rfl⟩ := hnew v im hi
      rw [hoth _ _ hk] at hj
      intro e
      exact hn ⟨k, u, jm, hlk', hj, by rw [← e, hi0]⟩
    · obtain ⟨_, rfl⟩ := hnew u jm hj
      rw [hoth _ _ hg] at hi
      intro e
      exact hn ⟨g, v, im, hlg', hi, by rw [e, hi0]⟩
    · rw [hoth _ _ hg] at hi; rw [hoth _ _ hk] at hj
      exact hr.apart _ _ _ _ _ _ hne hlg' hlk' hi hj
  · intro g v u im jm hl1 hl2 hi hj he
    rcases hlive g v hl1 with rfl | ⟨hg, hl1⟩
    · obtain ⟨_, rfl⟩ := hnew v im hi
      obtain ⟨_, rfl⟩ := hnew u jm hj
      rfl
    · rcases hlive g u hl2 with rfl | ⟨_, hl2⟩
      · exact absurd rfl hg
      · rw [hoth _ _ hg] at hi hj
        exact hr.same g v u im jm hl1 hl2 hi hj he
  · intro g v im hi
    show g < H.next + 1
    by_cases hg : g = H.next
    · omega
    · rw [hoth _ _ hg] at hi; have := hr.fresh g v im hi; omega
  · intro g v im hl hi
    rcases hlive g v hl with rfl | ⟨hg, hl⟩
    · obtain ⟨_, rfl⟩ := hnew v im hi; rw [hi0]; exact hgbl
    · rw [hoth _ _ hg] at hi; exact hr.size g v im hl hi
  · intro g b hb
    show g < H.next + 1
    rw [hget] at hb
    by_cases hg : H.next = g
    · omega
    · rw [if_neg hg] at hb; have := hr.below g b hb; omega
  · intro g im hi
    by_cases hg : g = H.next
    · subst hg; obtain ⟨h, _⟩ := hnew 0 im hi; cases h
    · rw [hoth _ _ hg] at hi; exact hr.root g im hi
/-! ### Copies -/
abbrev CSt := List Nat × List (List AV)
noncomputable def cpyL (f : AV → CSt → Option (AV × CSt)) (l : List AV) : CSt → Option (List AV × CSt) :=
  List.rec (motive := fun _ => CSt → Option (List AV × CSt)) (fun st => some ([], st)) (fun x _ ih st => (f x st).bind fun p => (ih p.2).bind fun q => some (p.1 :: q.1, q.2)) l
/-- A value, with all rows that it leads to, in the numbers from b on. Families from lo on, each once. -/
noncomputable def cpyE (Hs : AH) (lo b : Nat) (n : Nat) : AV → CSt → Option (AV × CSt) :=
  Nat.rec (motive := fun _ => AV → CSt → Option (AV × CSt)) (fun _ _ => none) (fun _ ih x st => match x with
    | .agg l => (cpyL ih l st).bind fun p => some (.agg p.1, p.2)
    | .tup l => (cpyL ih l st).bind fun p => some (.tup p.1, p.2)
    | .sl f v o len es _ => bif Nat.ble 1 (len * es) && Nat.ble lo f then (rowE Hs f v o (len * es)).bind fun l => (cpyL ih l st).bind fun p =>
        bif memN f p.2.1 then none else some (.sl (b + p.2.2.length) 1 0 len es none, (f :: p.2.1, p.1 :: p.2.2)) else none
    | .ptr f v o k => bif Nat.ble 1 k && Nat.ble lo f then (rowE Hs f v o k).bind fun l => (cpyL ih l st).bind fun p =>
        bif memN f p.2.1 then none else some (.ptr (b + p.2.2.length) 1 0 k, (f :: p.2.1, p.1 :: p.2.2)) else none
    | x => bif x.bare then some (x, st) else none) n
theorem cpyE_succ (Hs : AH) (lo b n : Nat) (x : AV) (st : CSt) : cpyE Hs lo b (n + 1) x st = match x with
    | .agg l => (cpyL (cpyE Hs lo b n) l st).bind fun p => some (.agg p.1, p.2)
    | .tup l => (cpyL (cpyE Hs lo b n) l st).bind fun p => some (.tup p.1, p.2)
    | .sl f v o len es _ => bif Nat.ble 1 (len * es) && Nat.ble lo f then (rowE Hs f v o (len * es)).bind fun l => (cpyL (cpyE Hs lo b n) l st).bind fun p =>
        bif memN f p.2.1 then none else some (.sl (b + p.2.2.length) 1 0 len es none, (f :: p.2.1, p.1 :: p.2.2)) else none
    | .ptr f v o k => bif Nat.ble 1 k && Nat.ble lo f then (rowE Hs f v o k).bind fun l => (cpyL (cpyE Hs lo b n) l st).bind fun p =>
        bif memN f p.2.1 then none else some (.ptr (b + p.2.2.length) 1 0 k, (f :: p.2.1, p.1 :: p.2.2)) else none
    | x => bif x.bare then some (x, st) else none := rfl
theorem cpyL_cons (f : AV → CSt → Option (AV × CSt)) (x : AV) (l : List AV) (st : CSt) : cpyL f (x :: l) st = (f x st).bind fun p => (cpyL f l p.2).bind fun q => some (p.1 :: q.1, q.2) := rfl
theorem cpyE_one {Hs : AH} {lo b n : Nat} {x : AV} {st : CSt} {p : AV × CSt} (h : cpyE Hs lo b n x st = some p) (hx : x.one = true) : p.1.one = true := by
  cases n with
  | zero => cases h
  | succ n =>
    rw [cpyE_succ] at h
    split at h
    · cases hx
    · cases hx
    · replace h := cond_some h
      obtain ⟨_, h⟩ := h
      simp only [Option.bind_eq_some_iff] at h
      obtain ⟨l, _, q, _, h⟩ := h
      cases hm : memN _ q.2.1 <;> rw [hm] at h <;> cases h
      rfl
    · replace h := cond_some h
      obtain ⟨_, h⟩ := h
      simp only [Option.bind_eq_some_iff] at h
      obtain ⟨l, _, q, _, h⟩ := h
      cases hm : memN _ q.2.1 <;> rw [hm] at h <;> cases h
      rfl
    · replace h := cond_some h
      obtain ⟨_, h⟩ := h
      cases h
      exact hx
theorem cpyL_one {Hs : AH} {lo b n : Nat} {l : List AV} : ∀ {st : CSt} {p : List AV × CSt}, cpyL (cpyE Hs lo b n) l st = some p → (∀ x ∈ l, x.one = true) → (∀ x ∈ p.1, x.one = true) ∧ p.1.length = l.length := by
  induction l with
  | nil => intro st p h _; cases h; exact ⟨by simp, rfl⟩
  | cons x l ih =>
    intro st p h hx
    rw [cpyL_cons] at h
    simp only [Option.bind_eq_some_iff, Option.some.injEq] at h
    obtain ⟨q, hq, r, hr, rfl⟩ := h
    obtain ⟨h1, h2⟩ := ih hr fun z hz => hx z (List.mem_cons_of_mem _ hz)
    refine ⟨fun z hz => ?_, by simp [h2]⟩
    rcases List.mem_cons.1 hz with rfl | hz
    · exact cpyE_one hq (hx x List.mem_cons_self)
    · exact h1 z hz
/-- While rows are copied from (Hs, ρs) behind (H0, ρ0). -/
structure CInv (ρ0 : Rho) (H0 : AH) (ρs : Rho) (Hs : AH) (w : World) (lo : Nat) (ρ : Rho) (st : CSt) : Prop where
  rel : Rel ρ (H0.rowsR st.2) w
  le : ρ0.le ρ
  lo : ∀ g ∈ st.1, lo ≤ g
  im : ∀ f v im, ρ f v = some im → ρ0 f v = some im ∨ (H0.next ≤ f ∧ ∃ g u jm, g ∈ st.1 ∧ Live Hs g u ∧ ρs g u = some jm ∧ jm.cb = im.cb)
section
variable {ρ0 ρs : Rho} {H0 Hs : AH} {w : World} {lo : Nat}
theorem CInv.row (h0 : Rel ρ0 H0 w) (hs : Rel ρs Hs w) (hsep : ∀ g u jm, lo ≤ g → Live Hs g u → ρs g u = some jm → ¬ Held ρ0 H0 jm.cb) {ρ : Rho} {st : CSt} (hI : CInv ρ0 H0 ρs Hs w lo ρ st)
    {f v o n : Nat} {l l' : List AV} (hf : lo ≤ f) (hfu : f ∉ st.1) {bb : ABlk} {lo' hi m : Nat} {c : Tr AV} (hb : Hs.t.get f = some (.cells lo' hi m c)) (hv : lo' ≤ v) {im : Img} (him : ρs f v = some im) (ho : o + n ≤ im.sz)
    (hlen : l.length = n) (hget : ∀ i x, l[i]? = some x → c.get (o + i) = some x) (hl1 : ∀ x ∈ l', x.one = true) (hl2 : l'.length = n)
    {arr : Array Value} {el : TypeId} {fr : Nat × Nat} (e1 : w.heap[im.cb]? = some (.cells arr el fr)) (e2 : im.base + im.room ≤ arr.size) (e3 : frozenOff fr arr.size)
    (hl : RL ρ l' ((arr.toList.drop (im.base + o)).take n)) :
    CInv ρ0 H0 ρs Hs w lo (ρ.add (H0.next + st.2.length) 1 ⟨im.cb, im.base + o, n, im.room - o - n⟩) (f :: st.1, l' :: st.2) ∧ ρ.le (ρ.add (H0.next + st.2.length) 1 ⟨im.cb, im.base + o, n, im.room - o - n⟩) := by
  have hli : v ≤ hi ∧ im.sz ≤ m := Live.lt_hi hs hb him
  have hlv : Live Hs f v := ⟨_, hb, hv, hli.1⟩
  have hsz : im.sz ≤ im.room := Img.le _
  have hnh : ¬ Held ρ (H0.rowsR st.2) im.cb := by
    rintro ⟨g, u, jm, hl, hj, he⟩
    rcases hI.im g u jm hj with h | ⟨_, k, u', km, hk, hkl, hkm, hke⟩
    · refine hsep f v im hf hlv him ⟨g, u, jm, ?_, h, he⟩
      have hlt := h0.fresh g u jm h
      obtain ⟨b', hb', hh⟩ := hl
      rw [rowsR_old H0 st.2 hlt] at hb'
      exact ⟨b', hb', hh⟩
    · exact hs.apart k u' f v km im (fun e => hfu (by rw [← e]; exact hk)) hkl hlv hkm him (hke.trans he)
  have hcs : ∀ (j : Nat) (y : Value), ((arr.toList.drop (im.base + o)).take n)[j]? = some y → arr[(im.base + o) + j]? = some y := by
    intro j y hj
    rw [List.getElem?_take] at hj
    split at hj
    · rw [List.getElem?_drop] at hj
      simpa using hj
    · cases hj
  obtain ⟨a1, a2⟩ := Rel.addR hI.rel (gb := im.cb) (base := im.base + o) (room := im.room - o) e1 e3 hl1 hl hcs (by omega) (by omega) hnh
  rw [hl2, rowsR_next] at a1 a2
  refine ⟨⟨a1, Rho.le_trans hI.le a2, fun g hg => ?_, fun g u jm hj => ?_⟩, a2⟩
  · rcases List.mem_cons.1 hg with rfl | hg
    · exact hf
    · exact hI.lo g hg
  · by_cases hc : g = H0.next + st.2.length ∧ u = 1
    · obtain ⟨rfl, rfl⟩ := hc
      rw [Rho.add_same] at hj
      cases hj
      exact .inr ⟨by omega, f, v, im, List.mem_cons_self, hlv, him, rfl⟩
    · rw [Rho.add_ne _ _ hc] at hj
      rcases hI.im g u jm hj with h | ⟨h1, k, u', km, hk, h2⟩
      · exact .inl h
      · exact .inr ⟨h1, k, u', km, List.mem_cons_of_mem _ hk, h2⟩
theorem drop_take_get {arr : Array Value} {a n i : Nat} (hi : i < n) (h : a + n ≤ arr.size) : ((arr.toList.drop a).take n)[i]? = arr[a + i]? := by
  rw [List.getElem?_take, if_pos hi, List.getElem?_drop]; simp
theorem cpyL_ok (f : AV → CSt → Option (AV × CSt)) (hf : ∀ x st x' st', f x st = some (x', st') → ∀ ρ y, CInv ρ0 H0 ρs Hs w lo ρ st → R ρs x y → ∃ ρ', CInv ρ0 H0 ρs Hs w lo ρ' st' ∧ ρ.le ρ' ∧ R ρ' x' y) :
    ∀ (l : List AV) st l' st', cpyL f l st = some (l', st') → ∀ ρ ys, CInv ρ0 H0 ρs Hs w lo ρ st → RL ρs l ys → ∃ ρ', CInv ρ0 H0 ρs Hs w lo ρ' st' ∧ ρ.le ρ' ∧ RL ρ' l' ys := by
  intro l
  induction l with
  | nil => intro st l' st' h ρ ys hI hl; cases h; cases hl; exact ⟨ρ, hI, Rho.le_refl _, .nil⟩
  | cons x l ih =>
    intro st l' st' h ρ ys hI hl
    rw [cpyL_cons] at h
    simp only [Option.bind_eq_some_iff, Option.some.injEq, Prod.mk.injEq] at h
    obtain ⟨⟨x', s1⟩, h1, ⟨l1, s2⟩, h2, rfl, rfl⟩ := h
    cases hl with
    | cons _ y _ ys hx hl =>
    obtain ⟨ρ1, i1, le1, r1⟩ := hf x st x' s1 h1 ρ y hI hx
    obtain ⟨ρ2, i2, le2, r2⟩ := ih s1 l1 s2 h2 ρ1 ys i1 hl
    exact ⟨ρ2, i2, Rho.le_trans le1 le2, .cons _ _ _ _ (R.mono le2 r1) r2⟩
theorem rowE_some {H : AH} {f v o n : Nat} {l : List AV} (h : rowE H f v o n = some l) : ∃ lo hi m c, H.t.get f = some (.cells lo hi m c) ∧ lo ≤ v ∧ l.length = n ∧ ∀ i x, l[i]? = some x → c.get (o + i) = some x := by
  simp only [rowE, Option.bind_eq_some_iff] at h
  obtain ⟨b, hb, h⟩ := h
  split at h
  · rename_i lo hi m cs
    replace h := cond_some h
    obtain ⟨hlo, h⟩ := h
    rw [Nat.ble_eq] at hlo
    obtain ⟨h1, h2⟩ := Tr.take_spec cs n o l h
    exact ⟨lo, hi, m, cs, hb, hlo, h1, h2⟩
  · cases h
theorem cpyE_row (h0 : Rel ρ0 H0 w) (hs : Rel ρs Hs w) (hsep : ∀ g u jm, lo ≤ g → Live Hs g u → ρs g u = some jm → ¬ Held ρ0 H0 jm.cb)
    (f : AV → CSt → Option (AV × CSt)) (hf : ∀ x st x' st', f x st = some (x', st') → ∀ ρ y, CInv ρ0 H0 ρs Hs w lo ρ st → R ρs x y → ∃ ρ', CInv ρ0 H0 ρs Hs w lo ρ' st' ∧ ρ.le ρ' ∧ R ρ' x' y)
    (hone : ∀ {l : List AV} {st : CSt} {p : List AV × CSt}, cpyL f l st = some p → (∀ x ∈ l, x.one = true) → (∀ x ∈ p.1, x.one = true) ∧ p.1.length = l.length)
    {g v o n : Nat} {l : List AV} {st : CSt} {p : List AV × CSt} (hg : lo ≤ g) (hrow : rowE Hs g v o n = some l) (hcp : cpyL f l st = some p) (hm : g ∉ p.2.1) {im : Img} (him : ρs g v = some im) (ho : o + n ≤ im.sz) {ρ : Rho} (hI : CInv ρ0 H0 ρs Hs w lo ρ st) :
    ∃ ρ', CInv ρ0 H0 ρs Hs w lo ρ' (g :: p.2.1, p.1 :: p.2.2) ∧ ρ.le ρ' ∧ ρ' (H0.next + p.2.2.length) 1 = some ⟨im.cb, im.base + o, n, im.room - o - n⟩ := by
  obtain ⟨lo', hi, m, c, hb, hv, hlen, hget⟩ := rowE_some hrow
  obtain ⟨h1, h2⟩ := hs.blk g _ hb
  obtain ⟨k0, arr, el, fr, e1, e2, e3, e4⟩ := h2 v im hv him
  have hsz : im.sz ≤ im.room := Img.le _
  have hones : ∀ x ∈ l, x.one = true := by
    intro x hx
    obtain ⟨i, hi⟩ := List.getElem?_of_mem hx
    have hlt := (List.getElem?_eq_some_iff.1 hi).1
    exact (e4 (o + i) x (by omega) (hget i x hi)).1
  have hRL : RL ρs l ((arr.toList.drop (im.base + o)).take n) := by
    refine RL.of_get (by rw [hlen, List.length_take, List.length_drop]; simp; omega) fun i x y hx hy => ?_
    have hlt := (List.getElem?_eq_some_iff.1 hx).1
    obtain ⟨_, z, hz, hR⟩ := e4 (o + i) x (by omega) (hget i x hx)
    rw [drop_take_get (by omega) (by omega), Nat.add_assoc, hz] at hy
    cases hy
    exact hR
  obtain ⟨q1, q2⟩ := hone hcp hones
  obtain ⟨ρ1, i1, le1, r1⟩ := cpyL_ok f hf l st p.1 p.2 hcp ρ _ hI hRL
  obtain ⟨i2, le2⟩ := CInv.row (bb := .dead) h0 hs hsep i1 hg hm hb hv him ho hlen hget q1 (q2.trans hlen) e1 e2 e3 r1
  exact ⟨_, i2, Rho.le_trans le1 le2, Rho.add_same _ _ _ _⟩
theorem cpyE_ok (h0 : Rel ρ0 H0 w) (hs : Rel ρs Hs w) (hsep : ∀ g u jm, lo ≤ g → Live Hs g u → ρs g u = some jm → ¬ Held ρ0 H0 jm.cb) (n : Nat) :
    ∀ x st x' st', cpyE Hs lo H0.next n x st = some (x', st') → ∀ ρ y, CInv ρ0 H0 ρs Hs w lo ρ st → R ρs x y → ∃ ρ', CInv ρ0 H0 ρs Hs w lo ρ' st' ∧ ρ.le ρ' ∧ R ρ' x' y := by
  induction n with
  | zero => intro x st x' st' h; cases h
  | succ n ih =>
    intro x st x' st' h ρ y hI hx
    rw [cpyE_succ] at h
    split at h
    · rename_i l
      simp only [Option.bind_eq_some_iff, Option.some.injEq, Prod.mk.injEq] at h
      obtain ⟨p, hp, rfl, rfl⟩ := h
      cases hx with
      | agg _ vs hl =>
      obtain ⟨ρ1, a, b, c⟩ := cpyL_ok _ ih l st p.1 p.2 hp ρ vs hI hl
      exact ⟨ρ1, a, b, .agg _ _ c⟩
    · rename_i l
      simp only [Option.bind_eq_some_iff, Option.some.injEq, Prod.mk.injEq] at h
      obtain ⟨p, hp, rfl, rfl⟩ := h
      cases hx with
      | tup _ vs hl =>
      obtain ⟨ρ1, a, b, c⟩ := cpyL_ok _ ih l st p.1 p.2 hp ρ vs hI hl
      exact ⟨ρ1, a, b, .tup _ _ c⟩
    · rename_i f v o len es cc
      replace h := cond_some h
      obtain ⟨hc, h⟩ := h
      rw [Bool.and_eq_true, Nat.ble_eq, Nat.ble_eq] at hc
      simp only [Option.bind_eq_some_iff] at h
      obtain ⟨l, hl, p, hp, h⟩ := h
      cases hm : memN f p.2.1 with
      | true => rw [hm] at h; cases h
      | false =>
      rw [hm] at h
      cases h
      cases hx with
      | sle => omega
      | sl _ _ _ _ _ _ im cap him hlc hsz hrm hcap =>
      obtain ⟨ρ1, a, b, c⟩ := cpyE_row h0 hs hsep _ ih cpyL_one hc.2 hl hp (memN_false hm) him hsz hI
      have hroom : im.room = im.sz + im.ext := rfl
      refine ⟨ρ1, a, b, ?_⟩
      have := R.sl (ρ := ρ1) (H0.next + p.2.2.length) 1 0 len es none _ cap c hlc (by show 0 + len * es ≤ len * es; omega) (by show 0 + cap * es ≤ len * es + (im.room - o - len * es); omega) (by intro k hk; cases hk)
      simpa using this
    · rename_i f v o k
      replace h := cond_some h
      obtain ⟨hc, h⟩ := h
      rw [Bool.and_eq_true, Nat.ble_eq, Nat.ble_eq] at hc
      simp only [Option.bind_eq_some_iff] at h
      obtain ⟨l, hl, p, hp, h⟩ := h
      cases hm : memN f p.2.1 with
      | true => rw [hm] at h; cases h
      | false =>
      rw [hm] at h
      cases h
      cases hx with
      | ptr _ _ _ _ im him hk =>
      obtain ⟨ρ1, a, b, c⟩ := cpyE_row h0 hs hsep _ ih cpyL_one hc.2 hl hp (memN_false hm) him hk hI
      refine ⟨ρ1, a, b, ?_⟩
      have := R.ptr (ρ := ρ1) (H0.next + p.2.2.length) 1 0 k _ c (by show 0 + k ≤ k; omega)
      simpa using this
    · replace h := cond_some h
      obtain ⟨hb, h⟩ := h
      cases h
      exact ⟨ρ, hI, Rho.le_refl _, hx.bare hb⟩
end
end Go.Proofs.YtllfnhapnndngaaGreatDoor.E
namespace Go.Proofs.YtllfnhapnndngaaGreatDoor.E
open Go Go.Proofs
set_option linter.unusedVariables false
set_option linter.unusedSimpArgs false
set_option maxRecDepth 100000
/-- A call that is known: its arguments and its answer, each with its rows (the last one first). -/
structure EntD where
  f : FuncId
  args : List AV
  rows : List (List AV)
  res : AV
  rrows : List (List AV)
noncomputable def clE (rows : List (List AV)) : AH := ⟨(AH.none.rowsR rows).next, (AH.none.rowsR rows).t, []⟩
theorem rel_cl {ρ : Rho} {w : World} {rows : List (List AV)} (h : Rel ρ (AH.none.rowsR rows) w) : Rel ρ (clE rows) w := ⟨h.blk, h.apart, h.same, h.fresh, h.size, h.below, h.root⟩
theorem cl_next (rows : List (List AV)) : (clE rows).next = rows.length := by
  show (AH.none.rowsR rows).next = _
  rw [rowsR_next]
  show 0 + rows.length = _
  omega
def EntDOk (P : Program) (e : EntD) : Prop := ∀ (ρ : Rho) (H : AH) (w : World) (args : Array Value) (xs : List AV) (u : List Nat), Rel ρ H w → RL ρ xs args.toList → cpyL (cpyE H 0 0 8) xs ([], []) = some (e.args, (u, e.rows)) →
  (callFunc e.f args).run P w = .ok (.enter e.f args) w ∧ Calls P e.f args w fun en w' => ∃ ρr y, en = .returned y ∧ R ρr e.res y ∧ Rel ρr (AH.none.rowsR e.rrows) w' ∧ Same w w' ∧
    ∀ g u jm, Live (AH.none.rowsR e.rrows) g u → ρr g u = some jm → w.heap.size ≤ jm.cb
theorem inv_none (ρs : Rho) (Hs : AH) (w : World) (lo : Nat) : CInv rho0 AH.none ρs Hs w lo rho0 ([], []) := ⟨rel_none w, Rho.le_refl _, by simp, fun _ _ _ h => .inl h⟩
theorem not_held_none {k : Nat} : ¬ Held rho0 AH.none k := by
  rintro ⟨f, v, im, ⟨b, hb, _⟩, _⟩
  exact none_get hb
theorem entD_ok {P : Program} {cf : CF} (hcf : CallOk P cf) {e : EntD} {v : AV} {Hc' : AH} {u : List Nat} (he : cf e.f e.args (clE e.rows) = some (v, Hc')) (hw : ∀ g ∈ Hc'.wr, e.rows.length ≤ g)
    (hc : cpyE Hc' e.rows.length 0 8 v ([], []) = some (e.res, (u, e.rrows))) : EntDOk P e := by
  intro ρ H w args xs u0 hr hx hcp
  obtain ⟨ρC, iC, _, hxC⟩ := cpyL_ok (ρ0 := rho0) (H0 := AH.none) (ρs := ρ) (Hs := H) (w := w) (lo := 0) _ (cpyE_ok (rel_none w) hr (fun _ _ _ _ _ _ => not_held_none) 8) xs ([], []) e.args (u0, e.rows) hcp rho0 _ (inv_none _ _ _ _) hx
  have relC : Rel ρC (clE e.rows) w := rel_cl iC.rel
  obtain ⟨h1, h2⟩ := sub_call hcf he rfl (fun g b hb hm => by
    have h3 := relC.below g b hb
    rw [cl_next] at h3
    have := hw g hm
    omega) relC hxC
  refine ⟨h1, Calls.mono h2 ?_⟩
  rintro en w' ⟨ρ', y, rfl, g1, g2, g3, g4⟩
  have key : ∀ g u jm, e.rows.length ≤ g → Live Hc' g u → ρ' g u = some jm → w.heap.size ≤ jm.cb := by
    intro g u jm hg hl hj
    rcases Nat.lt_or_ge jm.cb w.heap.size with hlt | hge
    · obtain ⟨k, u', km, hk, hkm, hke⟩ := g4.held _ hlt ⟨g, u, jm, hl, hj, rfl⟩
      have hkl := relC.fresh k u' km hkm
      rw [cl_next] at hkl
      obtain ⟨ws, a, bk⟩ := g4.keep
      obtain ⟨b, hb, hbu⟩ := hk
      have hkw : k ∉ ws := fun hm => by
        have := hw k (by rw [a]; exact List.mem_append_left _ hm)
        omega
      have hl' : Live Hc' k u' := ⟨b, (bk k hkw).1 b hb, hbu⟩
      exact absurd hke (g2.apart k u' g u km jm (by omega) hl' hl (g4.le _ _ _ hkm) hj)
    · exact hge
  obtain ⟨ρr, ir, _, hR⟩ := cpyE_ok (ρ0 := rho0) (H0 := AH.none) (ρs := ρ') (Hs := Hc') (w := w') (lo := e.rows.length) (rel_none w') g2 (fun _ _ _ _ _ _ => not_held_none) 8 v ([], []) e.res (u, e.rrows) hc rho0 y (inv_none _ _ _ _) g1
  refine ⟨ρr, y, rfl, hR, ir.rel, g3, ?_⟩
  intro g u1 jm hl hj
  rcases ir.im g u1 jm hj with h | ⟨_, k, u', km, hk, hkl, hkm, hke⟩
  · cases h
  · rw [← hke]; exact key k u' km (ir.lo k hk) hkl hkm
noncomputable def layE (e : EntD) (H : AH) : Option (AV × AH) := (cpyE (AH.none.rowsR e.rrows) 0 H.next 8 e.res ([], [])).bind fun p => some (p.1, H.rowsR p.2.2)
theorem place_ok {P : Program} {e : EntD} (ho : EntDOk P e) {ρ : Rho} {H : AH} {w : World} {args : Array Value} {xs : List AV} {u : List Nat} (hr : Rel ρ H w) (hx : RL ρ xs args.toList) (hcp : cpyL (cpyE H 0 0 8) xs ([], []) = some (e.args, (u, e.rows)))
    {v : AV} {H' : AH} (hp : layE e H = some (v, H')) :
    (callFunc e.f args).run P w = .ok (.enter e.f args) w ∧ Calls P e.f args w fun en w' => ∃ ρ' y, en = .returned y ∧ R ρ' v y ∧ Rel ρ' H' w' ∧ Stp ρ H w ρ' H' w' := by
  obtain ⟨h1, h2⟩ := ho ρ H w args xs u hr hx hcp
  refine ⟨h1, Calls.mono h2 ?_⟩
  rintro en w' ⟨ρr, y, rfl, hR, hrel, hsame, hnew⟩
  unfold layE at hp
  simp only [Option.bind_eq_some_iff, Option.some.injEq, Prod.mk.injEq] at hp
  obtain ⟨p, hp, rfl, rfl⟩ := hp
  obtain ⟨sa, sb⟩ := hr.stay hsame
  obtain ⟨ρ', i', _, R'⟩ := cpyE_ok (ρ0 := ρ) (H0 := H) (ρs := ρr) (Hs := AH.none.rowsR e.rrows) (w := w') (lo := 0) sa hrel (fun g u jm _ hl hj => by
    rintro ⟨f, v, im, hfl, hfi, hfe⟩
    have h3 := hr.size f v im hfl hfi
    have h4 := hnew g u jm hl hj
    omega) 8 e.res ([], []) p.1 p.2 hp ρ y ⟨sa, Rho.le_refl _, by simp, fun _ _ _ h => .inl h⟩ hR
  obtain ⟨ws, hws, hwl⟩ := rowsR_wr H p.2.2
  refine ⟨ρ', y, rfl, R', i'.rel, i'.le, by rw [rowsR_next]; omega, hsame.os, hsame.tape, hsame.output, hsame.size, fun k hk _ => hsame.heap k hk, ?_, fun f v im h => (i'.im f v im h).elim .inl (fun h => .inr (.inl h.1)), fun f b h => rowsR_dom H _ h,
    ⟨ws, hws, fun g hg => ⟨fun b hb => by rw [rowsR_old _ _ (hr.below g b hb)]; exact hb, fun v im hl hi => hsame.heap _ (hr.size g v im hl hi)⟩⟩⟩
  rintro k hk ⟨f, v, im, hl, hi, rfl⟩
  rcases i'.im f v im hi with h | ⟨_, g, u, jm, _, hgl, hgj, hge⟩
  · have hlt := hr.fresh f v im h
    obtain ⟨b, hb, hbv⟩ := hl
    rw [rowsR_old _ _ hlt] at hb
    exact ⟨f, v, im, ⟨b, hb, hbv⟩, h, rfl⟩
  · have := hnew g u jm hgl hgj
    omega
/-! ### Tables -/
noncomputable def eqRs (l : List (List AV)) : List (List AV) → Bool :=
  List.rec (motive := fun _ => List (List AV) → Bool) (fun m => match m with | [] => true | _ => false) (fun x _ ih m => match m with | [] => false | y :: m => bif eqVs (eqV 12) x y then ih m else false) l
theorem eqRs_ok (l : List (List AV)) : ∀ m, eqRs l m = true → l = m := by
  induction l with
  | nil => intro m h; cases m with | nil => rfl | cons y m => cases h
  | cons x l ih =>
    intro m h
    cases m with
    | nil => cases h
    | cons y m =>
      change (bif eqVs (eqV 12) x y then eqRs l m else false) = true at h
      cases hc : eqVs (eqV 12) x y <;> rw [hc] at h
      · cases h
      · rw [eqVs_ok (eqV_ok 12) _ _ hc, ih m h]
noncomputable def lookD (l : List EntD) (a : List AV) (r : List (List AV)) : Option EntD :=
  List.rec (motive := fun _ => Option EntD) none (fun e _ ih => bif eqVs (eqV 12) e.args a then (bif eqRs e.rows r then some e else ih) else ih) l
theorem lookD_ok {l : List EntD} {a : List AV} {r : List (List AV)} {e : EntD} (h : lookD l a r = some e) : e ∈ l ∧ e.args = a ∧ e.rows = r := by
  induction l with
  | nil => cases h
  | cons d l ih =>
    change (bif eqVs (eqV 12) d.args a then (bif eqRs d.rows r then some d else lookD l a r) else lookD l a r) = some e at h
    cases hc : eqVs (eqV 12) d.args a <;> rw [hc] at h
    · obtain ⟨h1, h2⟩ := ih h; exact ⟨List.mem_cons_of_mem _ h1, h2⟩
    · cases hd : eqRs d.rows r <;> rw [hd] at h
      · obtain ⟨h1, h2⟩ := ih h; exact ⟨List.mem_cons_of_mem _ h1, h2⟩
      · cases h; exact ⟨List.mem_cons_self, eqVs_ok (eqV_ok 12) _ _ hc, eqRs_ok _ _ hd⟩
noncomputable def tryD (l : List EntD) (xs : List AV) (H : AH) : Option (AV × AH) :=
  (cpyL (cpyE H 0 0 8) xs ([], [])).bind fun p => (lookD l p.1 p.2.2).bind fun e => layE e H
noncomputable def tabD (T : Tr (List EntD)) (base : CF) : CF := fun f xs H => match T.get f with
  | some l => (match tryD l xs H with
    | some r => some r
    | none => base f xs H)
  | none => base f xs H
def TabDOk (P : Program) (f : Nat) (l : List EntD) : Prop := ∀ e ∈ l, e.f = f ∧ EntDOk P e
theorem tryD_some {l : List EntD} {xs : List AV} {H : AH} {r : AV × AH} (h : tryD l xs H = some r) : ∃ e u, e ∈ l ∧ cpyL (cpyE H 0 0 8) xs ([], []) = some (e.args, (u, e.rows)) ∧ layE e H = some r := by
  unfold tryD at h
  simp only [Option.bind_eq_some_iff] at h
  obtain ⟨⟨a, u, rows⟩, h1, e, h2, h3⟩ := h
  obtain ⟨q1, q2, q3⟩ := lookD_ok h2
  subst q2
  simp only at q3
  subst q3
  exact ⟨e, u, q1, h1, h3⟩
theorem tabD_log {T : Tr (List EntD)} {base : CF} (hb : LogOk base) : LogOk (tabD T base) := by
  intro f xs H v H' h
  unfold tabD at h
  split at h
  · split at h
    · rename_i r hr
      cases h
      obtain ⟨e, u, _, _, hp⟩ := tryD_some hr
      unfold layE at hp
      simp only [Option.bind_eq_some_iff, Option.some.injEq, Prod.mk.injEq] at hp
      obtain ⟨p, _, _, rfl⟩ := hp
      exact rowsR_log _ _
    · exact hb _ _ _ _ _ h
  · exact hb _ _ _ _ _ h
theorem tabD_ok {P : Program} {T : Tr (List EntD)} (hT : AllT (TabDOk P) T) {base : CF} (hb : CallOk P base) : CallOk P (tabD T base) := by
  intro f xs H v H' h ρ w args hr hx
  unfold tabD at h
  split at h
  · rename_i l hl
    split at h
    · rename_i r hrr
      cases h
      obtain ⟨e, u, he, hcp, hp⟩ := tryD_some hrr
      obtain ⟨hf, ho⟩ := hT.get f l hl e he
      subst hf
      exact place_ok ho hr hx hcp hp
    · exact hb _ _ _ _ _ h ρ w args hr hx
  · exact hb _ _ _ _ _ h ρ w args hr hx
theorem tabDok_nil {P : Program} {f : Nat} : TabDOk P f [] := by intro e he; cases he
theorem tabDok_cons {P : Program} {f : Nat} {e : EntD} {l : List EntD} (h : EntDOk P e) (hf : e.f = f) (hl : TabDOk P f l) : TabDOk P f (e :: l) := by
  intro e' he
  rcases List.mem_cons.1 he with rfl | he
  · exact ⟨hf, h⟩
  · exact hl e' he
noncomputable def chkD (o : Option (AV × AH)) (e : EntD) : Bool := match o with
  | some p => bif allL (fun g => Nat.ble e.rows.length g) p.2.wr then (match cpyE p.2 e.rows.length 0 8 p.1 ([], []) with
    | some q => bif eqV 12 q.1 e.res then eqRs q.2.2 e.rrows else false
    | none => false) else false
  | none => false
noncomputable def runD (T : Tr (List EntD)) (f : FuncId) (xs : List AV) (H : AH) : Option (AV × AH) := runF (tabD T hooksN) 60 f xs H
theorem runD_ok {T : Tr (List EntD)} (hT : AllT (TabDOk Tryz.prog) T) {e : EntD} (h : chkD (runD T e.f e.args (clE e.rows)) e = true) : EntDOk Tryz.prog e := by
  unfold chkD at h
  split at h
  · rename_i p hp
    cases hc : allL (fun g => Nat.ble e.rows.length g) p.2.wr <;> rw [hc] at h
    · cases h
    simp only [cond_true] at h
    split at h
    · rename_i q hq
      cases hd : eqV 12 q.1 e.res <;> rw [hd] at h
      · cases h
      simp only [cond_true] at h
      have h1 := eqV_ok 12 _ _ hd
      have h2 := eqRs_ok _ _ h
      obtain ⟨q1, q2, q3⟩ := q
      simp only at h1 h2
      subst h1
      subst h2
      exact entD_ok (runF_ok (tabD_ok hT hooksN_ok) (tabD_log hooksN_log) 60) (v := p.1) (Hc' := p.2) hp (fun g hg => by have := allL_ok hc g hg; rwa [Nat.ble_eq] at this) hq
    · cases h
  · cases h
end Go.Proofs.YtllfnhapnndngaaGreatDoor.E
