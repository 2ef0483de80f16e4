/- Calls that are run on a part of memory alone: what they answer holds in the whole memory. -/
import Derived.Test.YtapinochbblfbaaGreatDoorFA
namespace Go.Proofs.YtapinochbblfbaaGreatDoor.E
open Go
set_option linter.unusedVariables false
set_option linter.unusedSimpArgs false
/-- All that was there is as it was. -/
structure Same (w w' : World) : Prop where
  os : w'.os = w.os
  tape : w'.tape = w.tape
  output : w'.output = w.output
  size : w.heap.size ≤ w'.heap.size
  heap : ∀ k, k < w.heap.size → w'.heap[k]? = w.heap[k]?
theorem Rel.stay {ρ : Rho} {H : AH} {w w' : World} (h : Rel ρ H w) (s : Same w w') : Rel ρ H w' ∧ Stp ρ H w ρ H w' :=
  ⟨⟨fun f b hb => (h.blk f b hb).mono (Rho.le_refl _) (fun _ => rfl) (fun v im hv hi => s.heap _ (h.size f v im ⟨b, hb, hv⟩ hi)), h.apart, h.same, h.fresh, fun f v im hl hi => Nat.lt_of_lt_of_le (h.size f v im hl hi) s.size, h.below, h.root⟩,
   ⟨ρ.le_refl, Nat.le_refl _, s.os, s.tape, s.output, s.size, fun k hk _ => s.heap k hk, fun _ _ hh => hh, fun _ _ _ h => .inl h, fun _ b h => .inr ⟨b, h⟩, ⟨[], rfl, fun g _ => ⟨fun _ hb => hb, fun v im hl hi => s.heap _ (h.size g v im hl hi)⟩⟩⟩⟩
/-- Values with no word of memory in them. -/
def AV.bare : AV → Bool
  | .bool _ | .int _ _ | .str _ | .nilp | .nils | .nilm | .nilf | .nili => true
  | _ => false
def AV.flat : AV → Bool
  | .agg l | .tup l => l.all AV.bare
  | x => x.bare
theorem R.bare {ρ ρ' : Rho} {x : AV} {y : Value} (h : R ρ x y) (hb : x.bare = true) : R ρ' x y := by
  cases h <;> first | (simp [AV.bare] at hb; done) | skip
  · exact .bool _
  · exact .int _ _
  · exact .str _ _ (by assumption)
  · exact .nilp
  · exact .nils
  · exact .nilm
  · exact .nilf
  · exact .nili
theorem RL.bare {ρ ρ' : Rho} {l : List AV} : ∀ {vs : List Value}, RL ρ l vs → l.all AV.bare = true → RL ρ' l vs := by
  induction l with
  | nil => intro vs h _; cases h; exact .nil
  | cons x l ih =>
    intro vs h hb
    simp only [List.all_cons, Bool.and_eq_true] at hb
    cases h with | cons _ _ _ _ h hs => exact .cons _ _ _ _ (h.bare hb.1) (ih hs hb.2)
theorem R.flat {ρ ρ' : Rho} {x : AV} {y : Value} (h : R ρ x y) (hb : x.flat = true) : R ρ' x y := by
  cases h with
  | agg l vs hl => exact .agg _ _ (hl.bare hb)
  | tup l vs hl => exact .tup _ _ (hl.bare hb)
  | bool b => exact .bool _
  | int k n => exact .int _ _
  | str s l h => exact .str _ _ h
  | nilp => exact .nilp
  | nils => exact .nils
  | nilm => exact .nilm
  | nilf => exact .nilf
  | nili => exact .nili
  | ptr => simp [AV.flat, AV.bare] at hb
  | sl => simp [AV.flat, AV.bare] at hb
  | sle => simp [AV.flat, AV.bare] at hb
  | map => simp [AV.flat, AV.bare] at hb
  | iter => simp [AV.flat, AV.bare] at hb
  | fn => simp [AV.flat, AV.bare] at hb
  | ifc => simp [AV.flat, AV.bare] at hb
theorem RL.flat {ρ ρ' : Rho} {l : List AV} : ∀ {vs : List Value}, RL ρ l vs → l.all AV.flat = true → RL ρ' l vs := by
  induction l with
  | nil => intro vs h _; cases h; exact .nil
  | cons x l ih =>
    intro vs h hb
    simp only [List.all_cons, Bool.and_eq_true] at hb
    cases h with | cons _ _ _ _ h hs => exact .cons _ _ _ _ (h.flat hb.1) (ih hs hb.2)
/-- Nothing known of memory. -/
def rho0 : Rho := fun _ _ => none
noncomputable def AH.none : AH := ⟨0, .leaf, []⟩
theorem none_get {f : Nat} {b : ABlk} (h : AH.none.t.get f = some b) : False := by cases h
theorem rel_none (w : World) : Rel rho0 AH.none w := by
  refine ⟨fun f b h => (none_get h).elim, ?_, ?_, ?_, ?_, fun f b h => (none_get h).elim, fun f im h => by cases h⟩
  · rintro f v g u im jm _ ⟨b, hb, _⟩; exact (none_get hb).elim
  · rintro f v u im jm ⟨b, hb, _⟩; exact (none_get hb).elim
  · intro f v im h; cases h
  · rintro f v im ⟨b, hb, _⟩; exact (none_get hb).elim
/-- One row alone. -/
noncomputable def AH.row (l : List AV) : AH := ⟨1, Tr.leaf.set 0 (blkOf l), []⟩
noncomputable def rowE (H : AH) (f v o n : Nat) : Option (List AV) :=
  (H.t.get f).bind fun b => match b with
    | .cells lo _ _ c => bif Nat.ble lo v then c.take o n else none
    | _ => none
def rho1 (im : Img) : Rho := fun g u => if g = 0 ∧ u = 0 then some im else none
theorem row_get {l : List AV} {f : Nat} {b : ABlk} (h : (AH.row l).t.get f = some b) : f = 0 ∧ b = blkOf l := by
  have h' : (Tr.leaf.set 0 (blkOf l)).get f = some b := h
  rw [Tr.get_set] at h'
  by_cases e : 0 = f
  · rw [if_pos e] at h'; cases h'; exact ⟨e.symm, rfl⟩
  · rw [if_neg e] at h'; cases h'
theorem rel_row {ρ : Rho} {H : AH} {w : World} (h : Rel ρ H w) {f v o n es : Nat} {c : Option Nat} {l : List AV} (hl : rowE H f v o (n * es) = some l) (hn : 1 ≤ n) (h1c : n * es ≠ 1) (hbare : l.all AV.bare = true) {sv : Value} (hs : R ρ (.sl f v o n es c) sv) :
    ∃ im, Rel (rho1 im) (AH.row l) w ∧ R (rho1 im) (.sl 0 0 0 n es none) sv ∧ l.length = n * es := by
  simp only [rowE, Option.bind_eq_some_iff] at hl
  obtain ⟨b, hb, hl⟩ := hl
  split at hl
  · rename_i lo hi m cs
    replace hl := cond_some hl
    obtain ⟨hlo, hl⟩ := hl
    rw [Nat.ble_eq] at hlo
    obtain ⟨hlen, hget⟩ := Tr.take_spec cs (n * es) o l hl
    cases hs with
    | sle => omega
    | sl _ _ _ _ _ _ im cap him hlc hsz hrm hcap =>
      obtain ⟨h1, h2⟩ := h.blk f _ hb
      obtain ⟨h0, as, el, fr, e1, e2, e3, e4⟩ := h2 v im hlo him
      have hcb := (Array.getElem?_eq_some_iff.1 e1).1
      have hroom : im.room = im.sz + im.ext := rfl
      refine ⟨⟨im.cb, im.base + o, n * es, im.room - o - n * es⟩, ⟨?_, ?_, ?_, ?_, ?_, ?_, ?_⟩, ?_, hlen⟩
      · intro g b' hb'
        obtain ⟨rfl, rfl⟩ := row_get hb'
        have himg : ∀ u jm, rho1 ⟨im.cb, im.base + o, n * es, im.room - o - n * es⟩ 0 u = some jm → u = 0 ∧ jm = ⟨im.cb, im.base + o, n * es, im.room - o - n * es⟩ := by
          intro u jm hu
          unfold rho1 at hu
          split at hu
          · rename_i hc; cases hu; exact ⟨hc.2, rfl⟩
          · cases hu
        refine ⟨fun u jm hu => ?_, fun u jm _ hu => ?_⟩
        · obtain ⟨rfl, rfl⟩ := himg u jm hu; simp [hlen]
        · obtain ⟨rfl, rfl⟩ := himg u jm hu
          refine ⟨Img.le _, as, el, fr, e1, by simp only [Img.room]; omega, e3, fun i x hi hx => ?_⟩
          have hx' := get_leaf_puts l i x hx
          have hg := hget i x hx'
          have hi' : i < n * es := hi
          obtain ⟨a, y, hy, hR⟩ := e4 (o + i) x (by omega) hg
          have hy' : as[im.base + o + i]? = some y := by rw [Nat.add_assoc]; exact hy
          exact ⟨a, y, hy', hR.bare (List.all_eq_true.1 hbare x (List.mem_of_getElem? hx'))⟩
      · intro g v' k u im' jm' hne hl1 hl2
        obtain ⟨b1, hb1, _⟩ := hl1
        obtain ⟨b2, hb2, _⟩ := hl2
        exact absurd ((row_get hb1).1.trans (row_get hb2).1.symm) hne
      · intro g v' u im' jm' hl1 hl2 hi hj _
        unfold rho1 at hi hj
        split at hi
        · cases hi
          split at hj
          · cases hj; rfl
          · cases hj
        · cases hi
      · intro g v' im' hi
        unfold rho1 at hi
        split at hi
        · rename_i hc; rw [hc.1]; exact Nat.zero_lt_one
        · cases hi
      · intro g v' im' hl1 hi
        unfold rho1 at hi
        split at hi
        · cases hi; exact hcb
        · cases hi
      · intro g b' hb'
        rw [(row_get hb').1]; exact Nat.zero_lt_one
      · intro g im' hi h1
        unfold rho1 at hi
        split at hi
        · cases hi; exact absurd h1 h1c
        · cases hi
      · have h1' : rho1 ⟨im.cb, im.base + o, n * es, im.room - o - n * es⟩ 0 0 = some ⟨im.cb, im.base + o, n * es, im.room - o - n * es⟩ := by simp [rho1]
        have h2' : 0 + n * es ≤ (⟨im.cb, im.base + o, n * es, im.room - o - n * es⟩ : Img).sz := by show 0 + n * es ≤ n * es; omega
        have h3' : 0 + cap * es ≤ (⟨im.cb, im.base + o, n * es, im.room - o - n * es⟩ : Img).room := by show 0 + cap * es ≤ n * es + (im.room - o - n * es); omega
        have := R.sl (ρ := rho1 ⟨im.cb, im.base + o, n * es, im.room - o - n * es⟩) 0 0 0 n es none _ cap h1' hlc h2' h3' (by intro k hk; cases hk)
        simpa using this
  · cases hl
/-- A call on a part of memory. -/
theorem sub_call {P : Program} {cf : CF} (hcf : CallOk P cf) {f : FuncId} {xs : List AV} {Hc Hc' : AH} {v : AV} (he : cf f xs Hc = some (v, Hc')) (hwr : Hc.wr = []) (hfam : ∀ g b, Hc.t.get g = some b → g ∉ Hc'.wr) {ρc : Rho} {w : World} {args : Array Value} (hr : Rel ρc Hc w) (hx : RL ρc xs args.toList) :
    (callFunc f args).run P w = .ok (.enter f args) w ∧
    Calls P f args w fun e w' => ∃ ρ' y, e = .returned y ∧ R ρ' v y ∧ Rel ρ' Hc' w' ∧ Same w w' ∧ Stp ρc Hc w ρ' Hc' w' := by
  obtain ⟨h1, h2⟩ := hcf f xs Hc v Hc' he ρc w args hr hx
  refine ⟨h1, Calls.mono h2 fun e w' hp => ?_⟩
  obtain ⟨ρ', y, rfl, g1, g2, g3⟩ := hp
  refine ⟨ρ', y, rfl, g1, g2, ⟨g3.os, g3.tape, g3.output, g3.size, fun k hk => ?_⟩, g3⟩
  by_cases hh : Held ρc Hc k
  · obtain ⟨g, u, im, hl, hi, rfl⟩ := hh
    obtain ⟨ws, a, b⟩ := g3.keep
    obtain ⟨bb, hb, _⟩ := id hl
    have hg : g ∉ ws := fun hm => hfam g bb hb (by rw [a]; exact List.mem_append_left _ hm)
    exact (b g hg).2 u im hl hi
  · exact g3.frame k hk hh
/-- A call with no memory in its arguments nor in its answer. -/
theorem flat_call {P : Program} {cf : CF} (hcf : CallOk P cf) {f : FuncId} {xs : List AV} {Hc' : AH} {v : AV} (he : cf f xs AH.none = some (v, Hc')) (hxs : xs.all AV.flat = true) (hv : v.flat = true) {ρ : Rho} {H : AH} {w : World} {args : Array Value} (hr : Rel ρ H w) (hx : RL ρ xs args.toList) :
    (callFunc f args).run P w = .ok (.enter f args) w ∧ Calls P f args w fun e w' => ∃ ρ' y, e = .returned y ∧ R ρ' v y ∧ Rel ρ' H w' ∧ Stp ρ H w ρ' H w' := by
  have hx0 : RL rho0 xs args.toList := hx.flat hxs
  obtain ⟨h1, h2⟩ := sub_call hcf he rfl (fun g b hb => (none_get hb).elim) (rel_none w) hx0
  refine ⟨h1, Calls.mono h2 fun e w' hp => ?_⟩
  obtain ⟨ρ', y, rfl, g1, g2, g3, g4⟩ := hp
  obtain ⟨a, b⟩ := hr.stay g3
  exact ⟨ρ, y, rfl, g1.flat hv, a, b⟩
/-- A row that a call made, taken into memory. -/
theorem Rel.adopt {ρ ρ' : Rho} {H Hc' : AH} {w w' : World} (hr : Rel ρ H w) (hs : Same w w') (hc : Rel ρ' Hc' w') {k u o n : Nat} {l : List AV} (hl : rowE Hc' k u o n = some l) (hbare : l.all AV.bare = true) (hn : 1 ≤ n) (h1c : n ≠ 1) {y : Value} {es len : Nat} (hne : n = len * es) {cap : Option Nat} (hy : R ρ' (.sl k u o len es cap) y)
    (hnew : ∀ im, ρ' k u = some im → w.heap.size ≤ im.cb) : ∃ ρ'', Rel ρ'' (H.new l) w' ∧ Stp ρ H w ρ'' (H.new l) w' ∧ R ρ'' (.sl H.next 0 0 len es none) y := by
  simp only [rowE, Option.bind_eq_some_iff] at hl
  obtain ⟨b, hb, hl⟩ := hl
  split at hl
  · rename_i lo hi m cs
    replace hl := cond_some hl
    obtain ⟨hlo, hl⟩ := hl
    rw [Nat.ble_eq] at hlo
    obtain ⟨hlen, hget⟩ := Tr.take_spec cs n o l hl
    cases hy with
    | sle => omega
    | sl _ _ _ _ _ _ im cp him hlc hsz hrm hcap =>
      obtain ⟨h1, h2⟩ := hc.blk k _ hb
      obtain ⟨h0, as, el, fr, e1, e2, e3, e4⟩ := h2 u im hlo him
      have hcb := (Array.getElem?_eq_some_iff.1 e1).1
      have hge := hnew im him
      have hroom : im.room = im.sz + im.ext := rfl
      have hnone : ∀ v, ρ H.next v = none := fun v => by
        cases h : ρ H.next v with
        | none => rfl
        | some im => exact absurd (hr.fresh _ _ _ h) (by omega)
      have hle : ρ.le (ρ.add H.next 0 ⟨im.cb, im.base + o, n, im.room - o - n⟩) := Rho.le_add _ _ (hnone 0)
      have himg : ∀ v jm, (ρ.add H.next 0 ⟨im.cb, im.base + o, n, im.room - o - n⟩) H.next v = some jm → v = 0 ∧ jm = ⟨im.cb, im.base + o, n, im.room - o - n⟩ := by
        intro v jm h
        by_cases hv : v = 0
        · subst hv; rw [Rho.add_same] at h; cases h; exact ⟨rfl, rfl⟩
        · rw [Rho.add_ne _ _ (by simp [hv]), hnone] at h; cases h
      have key := Rel.change (ρ' := ρ.add H.next 0 ⟨im.cb, im.base + o, n, im.room - o - n⟩) (f := H.next) (nx := H.next + 1) (b' := .cells 0 0 l.length (Tr.leaf.puts 0 l)) (w' := w') hr hle
        (fun g v hg => Rho.add_ne _ _ (by simp [hg])) (by omega) (by omega) (.inl (Nat.le_refl _)) (fun jm h h1 => by rw [(himg 0 jm h).2] at h1; exact absurd h1 h1c) hs.size hs.os hs.tape hs.output ?_ (fun k hk _ => hs.heap k hk) ?_ ?_
      · refine ⟨_, key.1, key.2, ?_⟩
        have h2' : 0 + len * es ≤ (⟨im.cb, im.base + o, n, im.room - o - n⟩ : Img).sz := by show 0 + len * es ≤ n; omega
        have h3' : 0 + cp * es ≤ (⟨im.cb, im.base + o, n, im.room - o - n⟩ : Img).room := by show 0 + cp * es ≤ n + (im.room - o - n); omega
        have := R.sl (ρ := ρ.add H.next 0 ⟨im.cb, im.base + o, n, im.room - o - n⟩) H.next 0 0 len es none _ cp (Rho.add_same _ _ _ _) hlc h2' h3' (by intro k hk; cases hk)
        simpa using this
      · refine ⟨fun v jm h => ?_, fun v jm _ h => ?_⟩
        · obtain ⟨rfl, rfl⟩ := himg v jm h; simp [hlen]
        · obtain ⟨rfl, rfl⟩ := himg v jm h
          refine ⟨Img.le _, as, el, fr, e1, by simp only [Img.room]; omega, e3, fun i x hi hx => ?_⟩
          have hx' := get_leaf_puts l i x hx
          have hi' : i < n := hi
          obtain ⟨a, y, hy, hR⟩ := e4 (o + i) x (by omega) (hget i x hx')
          have hy' : as[im.base + o + i]? = some y := by rw [Nat.add_assoc]; exact hy
          exact ⟨a, y, hy', hR.bare (List.all_eq_true.1 hbare x (List.mem_of_getElem? hx'))⟩
      · intro v jm _ h
        obtain ⟨rfl, rfl⟩ := himg v jm h
        exact ⟨hcb, fun hlt => by have hlt' : im.cb < w.heap.size := hlt; omega⟩
      · intro v v' jm km _ _ h h' _
        obtain ⟨_, rfl⟩ := himg v jm h
        obtain ⟨_, rfl⟩ := himg v' km h'
        rfl
  · cases hl
end Go.Proofs.YtapinochbblfbaaGreatDoor.E
