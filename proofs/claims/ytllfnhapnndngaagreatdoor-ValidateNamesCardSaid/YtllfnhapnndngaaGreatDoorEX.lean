/- Regions that draw an order: whatever the order, the answer is the one of the run in the order of the text. Regions that draw an order: the loop over the operations that are ready. Regions that draw an order: every order answers as the run in the order of the text. Tables of a program for the abstract machine: from tries with a word on every entry. Calls that are run on a part of memory alone: what they answer holds in the whole memory. -/
import Derived.Test.YtllfnhapnndngaaGreatDoorER
namespace Go.Proofs.YtllfnhapnndngaaGreatDoor.E
open Go
set_option linter.unusedVariables false
set_option linter.unusedSimpArgs false
def lst (listed : Array Bool) (i : Nat) : Prop := listed.getD i false = true
theorem lst_set {listed : Array Bool} {i j : Nat} (hi : i < listed.size) : lst (listed.setIfInBounds i true) j ↔ j = i ∨ lst listed j := by
  unfold lst
  by_cases e : i = j
  · subst e; simp [hi]
  · rw [getD_set_ne false e]
    exact ⟨.inr, fun h => h.resolve_left fun h => e h.symm⟩
structure Mem (fin : DS) (b0 n n0 : Nat) (ρ0 : Rho) (H0 : AH) (w0 : World) (listed : Array Bool) (k : Nat) (s : Snap) (ρ : Rho) (w : World) : Prop where
  snap : fin.sf[k]? = some s
  rel : Rel ρ s.S w
  stp : Stp ρ0 H0 w0 ρ s.S w
  eff : ∀ (k' : Nat) (s' : Snap) (j : Nat), fin.sf[k']? = some s' → s'.next = some j → (lst listed j ↔ k' < k)
  aside : ∀ p ∈ fin.al, lst listed p.1 → hasB s.pd p.1 = false → Aside ρ s.S w n0 (b0 + p.1) p.2
  sep : ∀ p ∈ fin.al, ∀ q ∈ fin.al, p.1 ≠ q.1 → lst listed p.1 → hasB s.pd p.1 = false → lst listed q.1 → hasB s.pd q.1 = false → ∀ im jm, ρ (b0 + p.1) 0 = some im → ρ (b0 + q.1) 0 = some jm → im.cb ≠ jm.cb
  fresh : ∀ j, j < n → ¬ lst listed j → (∀ v, ρ (b0 + j) v = none) ∧ s.S.t.get (b0 + j) = none
  nxt : b0 + n ≤ s.S.next
  pdl : ∀ j, hasB s.pd j = true → lst listed j
section
variable {fin : DS} {b0 n n0 : Nat} {ρ0 : Rho} {H0 : AH} {w0 : World} {listed : Array Bool} {k : Nat} {s : Snap} {ρ : Rho} {w : World}
theorem Mem.take (h : Mem fin b0 n n0 ρ0 H0 w0 listed k s ρ w) (hnd : (fin.al.map Prod.fst).Nodup) (hb : H0.next = b0) (hn : w0.heap.size = n0) {m : Nat} (hm : ∀ p ∈ fin.al, hasB m p.1 = true → lst listed p.1) :
    Taken ρ s.S w b0 m s.pd fin.al (absorbE b0 s.S m s.pd fin.al) ∧ Stp ρ0 H0 w0 ρ (absorbE b0 s.S m s.pd fin.al) w := by
  have t := absorb_ok (m := m) (pd := s.pd) (n0 := n0) h.rel fin.al hnd (fun p hp g1 g2 => h.aside p hp (hm p hp g1) g2) (fun p hp q hq hne g1 g2 g3 g4 => h.sep p hp q hq hne (hm p hp g1) g2 (hm q hq g3) g4)
  refine ⟨t, h.stp.le, by rw [t.next]; exact h.stp.next, h.stp.os, h.stp.tape, h.stp.output, h.stp.size, h.stp.frame, fun c hc hh => ?_, h.stp.olds, fun f b hf => ?_, ?_⟩
  · rcases t.held c hh with hh | ⟨p, hp, g1, g2, im, g3, g4⟩
    · exact h.stp.held c hc hh
    · obtain ⟨cb, cs, el, fr, h1, h2, h3, h4, h5, _⟩ := h.aside p hp (hm p hp g1) g2
      rw [h1] at g3
      cases g3
      simp at g4
      omega
  · rcases t.get f with hg | ⟨p, hp, _, _, rfl⟩
    · rw [hg] at hf; exact h.stp.dom f b hf
    · exact .inl (by omega)
  · obtain ⟨ws, a, b⟩ := h.stp.keep
    obtain ⟨vs, hvs⟩ := t.wr
    refine ⟨vs ++ ws, by rw [hvs, a, List.append_assoc], fun g hg' => ?_⟩
    have hg : g ∉ ws := fun hm => hg' (List.mem_append_right _ hm)
    refine ⟨fun b' hb' => ?_, (b g hg).2⟩
    have h1 := (b g hg).1 b' hb'
    rcases t.get g with hg2 | ⟨p, hp, g1, g2, rfl⟩
    · rw [hg2]; exact h1
    · obtain ⟨_, _, _, _, _, _, _, _, _, _, _, h8, _⟩ := h.aside p hp (hm p hp g1) g2
      rw [h8] at h1; cases h1
/-- An operation that leaves memory as it is. -/
theorem Mem.keep (h : Mem fin b0 n n0 ρ0 H0 w0 listed k s ρ w) {i : Nat} (hi : i < listed.size) (hal : ∀ l, (i, l) ∉ fin.al) (hsf : ∀ (k : Nat) s, fin.sf[k]? = some s → s.next ≠ some i) : Mem fin b0 n n0 ρ0 H0 w0 (listed.setIfInBounds i true) k s ρ w := by
  have hpl : ∀ p ∈ fin.al, lst (listed.setIfInBounds i true) p.1 → lst listed p.1 := fun p hp hl => by
    rcases (lst_set hi).1 hl with e | hl
    · exact absurd (by rw [← e]; exact hp) (hal p.2)
    · exact hl
  refine ⟨h.snap, h.rel, h.stp, fun k' s' j h1 h2 => ?_, fun p hp hl => h.aside p hp (hpl p hp hl), fun p hp q hq hne l1 g1 l2 g2 => h.sep p hp q hq hne (hpl p hp l1) g1 (hpl q hq l2) g2, fun j hj hl => h.fresh j hj fun hh => hl ((lst_set hi).2 (.inr hh)), h.nxt, fun j hj => (lst_set hi).2 (.inr (h.pdl j hj))⟩
  rw [lst_set hi]
  constructor
  · rintro (rfl | hh)
    · exact absurd h2 (hsf k' s' h1)
    · exact (h.eff k' s' j h1 h2).1 hh
  · intro hh; exact .inr ((h.eff k' s' j h1 h2).2 hh)
/-- An operation that makes a block. -/
theorem Mem.alloc (h : Mem fin b0 n n0 ρ0 H0 w0 listed k s ρ w) (hb : H0.next = b0) (hn : w0.heap.size = n0) {i : Nat} (hi : i < listed.size) (hin : i < n) (hli : ¬ lst listed i) {l : List AV} (hal : (i, l) ∈ fin.al) (hal' : ∀ l', (i, l') ∈ fin.al → l' = l) (hsf : ∀ (k : Nat) s, fin.sf[k]? = some s → s.next ≠ some i)
    {w' : World} {cs : Array Value} {el : TypeId} {fr : Nat × Nat} {ys : List Value} (hw : w'.heap = w.heap.push (.cells cs el fr)) (hos : w'.os = w.os) (htp : w'.tape = w.tape) (hout : w'.output = w.output) (h1 : ∀ x ∈ l, x.one = true) (hl : RL ρ l ys)
    (hcs : ∀ (j : Nat) (v : Value), ys[j]? = some v → cs[j]? = some v) (hfz : frozenOff fr cs.size) :
    Mem fin b0 n n0 ρ0 H0 w0 (listed.setIfInBounds i true) k s (ρ.add (b0 + i) 0 ⟨w.heap.size, 0, l.length, cs.size - l.length⟩) w' := by
  have hsz : n0 ≤ w.heap.size := by rw [← hn]; exact h.stp.size
  obtain ⟨f1, f2⟩ := h.fresh i hin hli
  have hfi : b0 + i < s.S.next := by have := h.nxt; omega
  obtain ⟨g1, g2⟩ := h.rel.aside (w' := w') (n0 := n0) hfi f1 f2 hsz h1 hl hcs hfz hw
  have hle : ρ.le (ρ.add (b0 + i) 0 ⟨w.heap.size, 0, l.length, cs.size - l.length⟩) := Rho.le_add _ _ (f1 0)
  have hne : ∀ g, g ≠ b0 + i → ∀ v, (ρ.add (b0 + i) 0 ⟨w.heap.size, 0, l.length, cs.size - l.length⟩) g v = ρ g v := fun g hg v => Rho.add_ne _ _ (by simp [hg])
  have hlive : ∀ g v, Live s.S g v → g ≠ b0 + i := by rintro g v ⟨b, hb, _⟩ rfl; rw [f2] at hb; cases hb
  have hold : ∀ k, k < w.heap.size → w'.heap[k]? = w.heap[k]? := fun k hk => by rw [hw, Array.getElem?_push, if_neg (by omega)]
  have hheld : ∀ c, Held (ρ.add (b0 + i) 0 ⟨w.heap.size, 0, l.length, cs.size - l.length⟩) s.S c → Held ρ s.S c := by
    rintro c ⟨g, v, im, hl1, hi, he⟩
    rw [hne g (hlive g v hl1)] at hi
    exact ⟨g, v, im, hl1, hi, he⟩
  have hpl : ∀ p ∈ fin.al, p.1 ≠ i → lst (listed.setIfInBounds i true) p.1 → lst listed p.1 := fun p hp hpi hl => ((lst_set hi).1 hl).resolve_left hpi
  have hcbl : ∀ p ∈ fin.al, lst listed p.1 → hasB s.pd p.1 = false → ∀ im, ρ (b0 + p.1) 0 = some im → im.cb < w.heap.size := by
    intro p hp l1 l2 im him
    obtain ⟨cb, cs', el', fr', e1, e2, _⟩ := h.aside p hp l1 l2
    rw [e1] at him
    cases him
    exact (Array.getElem?_eq_some_iff.1 e2).1
  refine ⟨h.snap, g1, ?_, fun k' s' j a1 a2 => ?_, fun p hp l1 l2 => ?_, fun p hp q hq hpq l1 l2 l3 l4 im jm e1 e2 => ?_, fun j hj hl' => ?_, h.nxt, fun j hj => (lst_set hi).2 (.inr (h.pdl j hj))⟩
  · refine ⟨Rho.le_trans h.stp.le hle, h.stp.next, hos.trans h.stp.os, htp.trans h.stp.tape, hout.trans h.stp.output, by rw [hw]; simp; have := h.stp.size; omega, fun c hc hh => ?_, fun c hc hh => h.stp.held c hc (hheld c hh), fun f v im hf => ?_, h.stp.dom, ?_⟩
    · have := h.stp.size
      rw [hold c (by omega)]; exact h.stp.frame c hc hh
    · by_cases e : f = b0 + i
      · exact .inr (.inl (by omega))
      · rw [hne f e] at hf; exact h.stp.olds f v im hf
    · obtain ⟨ws, a, b⟩ := h.stp.keep
      refine ⟨ws, a, fun g hg => ⟨(b g hg).1, fun v im hl hv => ?_⟩⟩
      obtain ⟨b', hb', hh⟩ := hl
      rw [← (b g hg).2 v im ⟨b', hb', hh⟩ hv]
      exact hold _ (h.rel.size g v im ⟨b', (b g hg).1 b' hb', hh⟩ (h.stp.le _ _ _ hv))
  · rw [lst_set hi]
    constructor
    · rintro (rfl | hh)
      · exact absurd a2 (hsf k' s' a1)
      · exact (h.eff k' s' j a1 a2).1 hh
    · intro hh; exact .inr ((h.eff k' s' j a1 a2).2 hh)
  · by_cases e : p.1 = i
    · obtain ⟨pi, pl⟩ := p
      subst e
      rw [hal' pl hp]
      exact g2
    · obtain ⟨cb, cs', el', fr', e1, e2, e3, e4, e5, e6, e7, e8, e9⟩ := h.aside p hp (hpl p hp e l1) l2
      have hcb := (Array.getElem?_eq_some_iff.1 e2).1
      have hf : b0 + p.1 ≠ b0 + i := by omega
      refine ⟨cb, cs', el', fr', hle _ _ _ e1, by rw [hold cb hcb]; exact e2, e3, e4, e5, fun hh => e6 (hheld cb hh), fun v im hv => e7 v im (by rw [← hne _ hf]; exact hv), e8, fun j x hx => ?_⟩
      obtain ⟨a, y, hy, hR⟩ := e9 j x hx
      exact ⟨a, y, hy, R.mono hle hR⟩
  · by_cases ep : p.1 = i
    · have eq : q.1 ≠ i := fun e => hpq (ep.trans e.symm)
      rw [ep, Rho.add_same] at e1
      cases e1
      rw [hne _ (by omega)] at e2
      have := hcbl q hq (hpl q hq eq l3) l4 jm e2
      simp; omega
    · rw [hne _ (by omega)] at e1
      by_cases eq : q.1 = i
      · rw [eq, Rho.add_same] at e2
        cases e2
        have := hcbl p hp (hpl p hp ep l1) l2 im e1
        simp; omega
      · rw [hne _ (by omega)] at e2
        exact h.sep p hp q hq hpq (hpl p hp ep l1) l2 (hpl q hq eq l3) l4 im jm e1 e2
  · have hji : j ≠ i := fun e => hl' ((lst_set hi).2 (.inl e))
    obtain ⟨q1, q2⟩ := h.fresh j hj fun hh => hl' ((lst_set hi).2 (.inr hh))
    exact ⟨fun v => by rw [hne _ (by omega)]; exact q1 v, q2⟩
/-- A change of memory. -/
theorem Mem.step (h : Mem fin b0 n n0 ρ0 H0 w0 listed k s ρ w) (hnd : (fin.al.map Prod.fst).Nodup) (halt : ∀ p ∈ fin.al, p.1 < n) (hb : H0.next = b0) (hn : w0.heap.size = n0) {i : Nat} (hi : i < listed.size) (hal : ∀ l, (i, l) ∉ fin.al) {m : Nat} (hm : ∀ j, hasB m j = true → lst listed j)
    {s' : Snap} (hs : s.next = some i) (hs' : fin.sf[k + 1]? = some s') (hpd : s'.pd = m) (hsub : ∀ j, hasB s.pd j = true → hasB m j = true) (huni : ∀ (k' : Nat) s'', fin.sf[k']? = some s'' → s''.next = some i → k' = k)
    {ρ' : Rho} {w' : World} (hrel : Rel ρ' s'.S w') (hstp : Stp ρ (absorbE b0 s.S m s.pd fin.al) w ρ' s'.S w') : Mem fin b0 n n0 ρ0 H0 w0 (listed.setIfInBounds i true) (k + 1) s' ρ' w' := by
  obtain ⟨t, tst⟩ := h.take hnd hb hn (m := m) fun p hp g => hm p.1 g
  have hpl : ∀ p ∈ fin.al, lst (listed.setIfInBounds i true) p.1 → lst listed p.1 := fun p hp hl => by
    rcases (lst_set hi).1 hl with e | hl
    · exact absurd (by rw [← e]; exact hp) (hal p.2)
    · exact hl
  have hpf : ∀ j, hasB s'.pd j = false → hasB m j = false ∧ hasB s.pd j = false := fun j hj => by
    rw [hpd] at hj
    refine ⟨hj, ?_⟩
    cases hq : hasB s.pd j with
    | false => rfl
    | true => rw [hsub j hq] at hj; cases hj
  have hasA : ∀ p ∈ fin.al, lst (listed.setIfInBounds i true) p.1 → hasB s'.pd p.1 = false → Aside ρ (absorbE b0 s.S m s.pd fin.al) w n0 (b0 + p.1) p.2 := by
    intro p hp l1 l2
    obtain ⟨m1, m2⟩ := hpf p.1 l2
    obtain ⟨cb, cs', el', fr', e1, e2, e3, e4, e5, e6, e7, e8, e9⟩ := h.aside p hp (hpl p hp l1) m2
    refine ⟨cb, cs', el', fr', e1, e2, e3, e4, e5, fun hh => ?_, e7, ?_, e9⟩
    · rcases t.held cb hh with hh | ⟨q, hq, g1, g2, im, g3, g4⟩
      · exact e6 hh
      · have hpq : p.1 ≠ q.1 := fun e => by rw [← e, m1] at g1; cases g1
        exact h.sep p hp q hq hpq (hpl p hp l1) m2 (hm q.1 g1) g2 _ _ e1 g3 g4.symm
    · rcases t.get (b0 + p.1) with hg | ⟨q, hq, g1, g2, he⟩
      · rw [hg]; exact e8
      · have : p.1 = q.1 := by omega
        rw [← this, m1] at g1; cases g1
  have hnx : b0 + n ≤ (absorbE b0 s.S m s.pd fin.al).next := by rw [t.next]; exact h.nxt
  have hfA : ∀ j, j < n → ¬ lst (listed.setIfInBounds i true) j → (∀ v, ρ (b0 + j) v = none) ∧ (absorbE b0 s.S m s.pd fin.al).t.get (b0 + j) = none := by
    intro j hj hl'
    have hlj : ¬ lst listed j := fun hh => hl' ((lst_set hi).2 (.inr hh))
    obtain ⟨q1, q2⟩ := h.fresh j hj hlj
    refine ⟨q1, ?_⟩
    rcases t.get (b0 + j) with hg | ⟨q, hq, g1, g2, he⟩
    · rw [hg]; exact q2
    · have : j = q.1 := by omega
      exact absurd (by rw [this]; exact hm q.1 g1) hlj
  refine ⟨hs', hrel, tst.trans hstp, fun k' s1 j a1 a2 => ?_, fun p hp l1 l2 => (hasA p hp l1 l2).move hstp (by have := halt p hp; omega), fun p hp q hq hpq l1 l2 l3 l4 im jm e1 e2 => ?_, fun j hj hl' => ?_, by have := hstp.next; omega, fun j hj => (lst_set hi).2 (.inr (hm j (by rw [hpd] at hj; exact hj)))⟩
  · rw [lst_set hi]
    by_cases e : j = i
    · subst e
      have := huni k' s1 a1 a2
      simp; omega
    · rw [h.eff k' s1 j a1 a2]
      constructor
      · rintro (h | h)
        · exact absurd h e
        · omega
      · intro hlt
        refine .inr ?_
        rcases Nat.lt_or_ge k' k with h1 | h1
        · exact h1
        · have : k' = k := by omega
          subst this
          rw [h.snap] at a1
          cases a1
          rw [hs] at a2
          cases a2
          exact absurd rfl e
  · obtain ⟨_, _, _, _, p1, _⟩ := hasA p hp l1 l2
    obtain ⟨_, _, _, _, q1, _⟩ := hasA q hq l3 l4
    have p2 := hstp.le _ _ _ p1
    have q2 := hstp.le _ _ _ q1
    rw [e1] at p2
    rw [e2] at q2
    cases p2
    cases q2
    exact h.sep p hp q hq hpq (hpl p hp l1) (hpf _ l2).2 (hpl q hq l3) (hpf _ l4).2 _ _ p1 q1
  · obtain ⟨q1, q2⟩ := hfA j hj hl'
    refine ⟨fun v => ?_, ?_⟩
    · cases hv : ρ' (b0 + j) v with
      | none => rfl
      | some im =>
        rcases hstp.olds _ _ _ hv with h1 | h1 | ⟨b, h1⟩
        · rw [q1] at h1; cases h1
        · omega
        · rw [q2] at h1; cases h1
    · cases hv : s'.S.t.get (b0 + j) with
      | none => rfl
      | some b =>
        rcases hstp.dom _ _ hv with h1 | ⟨b', h1⟩
        · omega
        · rw [q2] at h1; cases h1
end
end Go.Proofs.YtllfnhapnndngaaGreatDoor.E
namespace Go.Proofs.YtllfnhapnndngaaGreatDoor.E
open Go
set_option linter.unusedVariables false
set_option linter.unusedSimpArgs false
structure Reg (ops : List Oper) (D : Nat → Nat) (fin : DS) (r0 : Tr AV) (nt : Nat) (ds : List Deferred) (listed : Array Bool) (ρ : Rho) (a : Act) : Prop where
  vals : ∀ (i : Nat) o t x, ops[i]? = some o → lst listed i → o.dst = some t → fin.xs.get i = some x → R ρ x (a.tmps.getD t undef)
  old : ∀ t x, r0.get t = some x → (∀ (i : Nat) o, ops[i]? = some o → lst listed i → o.dst ≠ some t) → R ρ x (a.tmps.getD t undef)
  size : a.tmps.size = nt
  defers : a.defers = ds
  closed : ∀ (i : Nat) o, ops[i]? = some o → lst listed i → ∀ j, hasB (D i) j = true → lst listed j
  lsize : listed.size = ops.length
section
variable {P : Program} {E : Env} {cf : CF} {nt b0 : Nat} {ops : List Oper} {D : Nat → Nat} {r0 : Tr AV} {fin : DS} {ds : List Deferred} {listed : Array Bool} {ρ ρ' : Rho} {a : Act}
theorem getD_put {a : Act} {d t : Tmp} {v : Value} (h : d ≠ t) : (a.put (some d) v).tmps.getD t undef = a.tmps.getD t undef := by
  simp [Act.put, Array.getElem?_setIfInBounds_ne h]
theorem getD_put_same {a : Act} {d : Tmp} {v : Value} (h : d < a.tmps.size) : (a.put (some d) v).tmps.getD d undef = v := by
  simp [Act.put, h]
theorem Reg.put (h : Reg ops D fin r0 nt ds listed ρ a) (ht : Text ops D) {i : Nat} {o : Oper} (ho : ops[i]? = some o) (hdep : ∀ j, hasB (D i) j = true → lst listed j) (hle : ρ.le ρ') {x : AV} {y : Value} (hx : fin.xs.get i = some x) (hy : R ρ' x y) (hd : ∀ d, o.dst = some d → d < nt) :
    Reg ops D fin r0 nt ds (listed.setIfInBounds i true) ρ' (a.put o.dst y) := by
  have hi : i < listed.size := by rw [h.lsize]; exact (List.getElem?_eq_some_iff.1 ho).1
  have hput : ∀ t, o.dst ≠ some t → (a.put o.dst y).tmps.getD t undef = a.tmps.getD t undef := by
    intro t hne
    cases hdst : o.dst with
    | none => rfl
    | some d => exact getD_put fun e => hne (by rw [hdst, e])
  refine ⟨fun j o' t v hj hl hdst hv => ?_, fun t v hv hno => ?_, ?_, ?_, fun j o' hj hl m hm => ?_, by simp [h.lsize]⟩
  · rcases (lst_set hi).1 hl with rfl | hl
    · rw [ho] at hj
      cases hj
      rw [hx] at hv
      cases hv
      rw [hdst, getD_put_same (by rw [h.size]; exact hd t hdst)]
      exact hy
    · by_cases e : o.dst = some t
      · have := ht.dist i o j o' t ho hj e hdst
        subst this
        rw [ho] at hj
        cases hj
        rw [hx] at hv
        cases hv
        rw [hdst, getD_put_same (by rw [h.size]; exact hd t hdst)]
        exact hy
      · rw [hput t e]
        exact R.mono hle (h.vals j o' t v hj hl hdst hv)
  · have hne : o.dst ≠ some t := hno i o ho ((lst_set hi).2 (.inl rfl))
    rw [hput t hne]
    exact R.mono hle (h.old t v hv fun j o' hj hl => hno j o' hj ((lst_set hi).2 (.inr hl)))
  · cases hdst : o.dst with
    | none => exact h.size
    | some d => simp [Act.put, h.size]
  · cases hdst : o.dst with
    | none => exact h.defers
    | some d => exact h.defers
  · rcases (lst_set hi).1 hl with rfl | hl
    · exact (lst_set hi).2 (.inr (hdep m hm))
    · exact (lst_set hi).2 (.inr (h.closed j o' hj hl m hm))
/-- What an operation that is ready finds in its operands. -/
theorem Reg.regs (h : Reg ops D fin r0 nt ds listed ρ a) (ht : Text ops D) {i : Nat} {o : Oper} (ho : ops[i]? = some o) (hli : ¬ lst listed i) (hdep : ∀ j, hasB (D i) j = true → lst listed j) {rr : Tr AV}
    (hrr : ∀ t v, rr.get t = some v → t ∈ looksE ops o ∧ ((∃ j o', j < i ∧ ops[j]? = some o' ∧ o'.dst = some t ∧ fin.xs.get j = some v) ∨ (r0.get t = some v ∧ ∀ j o', j < i → ops[j]? = some o' → o'.dst ≠ some t))) : Regs ρ rr a := by
  intro t v hv
  obtain ⟨hl, hk⟩ := hrr t v hv
  rcases hk with ⟨j, o', hj, g1, g2, g3⟩ | ⟨g1, g2⟩
  · exact h.vals j o' t v g1 (hdep j ((ht.looks i o j o' t ho g1 g2 hl).1 hj)) g2 g3
  · refine h.old t v g1 fun j o' hoj hlj hdj => ?_
    rcases Nat.lt_trichotomy j i with hlt | rfl | hlt
    · exact g2 j o' hlt hoj hdj
    · exact hli hlj
    · exact hli (h.closed j o' hoj hlj i ((ht.looks i o j o' t ho hoj hdj hl).2 hlt))
theorem effStep_ok {H H' : AH} {w : World} {r : Tr AV} (hE : EnvOk P E) (hcf : CallOk P cf) (hr : Rel ρ H w) (hg : Regs ρ r a) {o : Oper} {x : AV} (h : effStep E cf H r o.op = some (x, H')) {K : Act → World → Prop} {Q : Exit → Act → World → Prop}
    (hK : LetsK P ρ H w x H' o a K) : o.wp P a w K Q := by
  unfold effStep at h
  split at h
  · rename_i p hp
    cases h
    exact (effE_ok hE.T hr hg hp).wp hK
  · simp only [Option.bind_eq_some_iff] at h
    obtain ⟨⟨f, xs⟩, hp, h⟩ := h
    obtain ⟨args, h1, h2⟩ := targetE_ok (w := w) hE.M hg hp
    obtain ⟨h3, h4⟩ := hcf f xs H x H' h ρ w args hr h2
    unfold Oper.wp
    rw [h1, h3, Oper.upon_enter]
    refine Calls.mono h4 fun e w' he => ?_
    obtain ⟨ρ', y, rfl, g1, g2, g3⟩ := he
    exact hK ρ' w' y g1 g2 g3
end
/-- All that stays the same in a region. -/
structure Fix (P : Program) (E : Env) (cf : CF) (nt : Nat) (ops : Array Oper) (D : Tr Nat) (r0 : Tr AV) (H0 : AH) (fin : DS) : Prop where
  env : EnvOk P E
  calls : CallOk P cf
  text : Text ops.toList (dep D)
  run : Run ops.toList r0 ops.size fin
  says : ∀ (i : Nat) (o : Oper), ops[i]? = some o → ∃ rr x, Says E cf nt H0.next ops.toList D r0 fin i o rr x
  reads : ∀ d ∈ fin.rd, ∀ s ∈ fin.sf, readOk E H0.next fin.al d s = true
section
variable {P : Program} {E : Env} {cf : CF} {nt : Nat} {ops : Array Oper} {D : Tr Nat} {r0 : Tr AV} {H0 : AH} {fin : DS} {ds : List Deferred} {listed : Array Bool} {ρ : Rho} {a : Act} {w : World} {ρ0 : Rho} {w0 : World} {k : Nat} {s : Snap}
theorem sf_next (hF : Fix P E cf nt ops D r0 H0 fin) {k : Nat} {s : Snap} (hs : fin.sf[k]? = some s) : (k < fin.sn.length ∧ ∃ p, s.next = some p ∧ p < ops.size) ∨ (k = fin.sn.length ∧ s = ⟨fin.S, fin.pd, none, fin.sn.length⟩) := by
  unfold DS.sf at hs
  rcases Nat.lt_trichotomy k fin.sn.length with h | h | h
  · rw [List.getElem?_append_left (by simpa using h)] at hs
    obtain ⟨p, h1, h2, _⟩ := hF.run.sn s (by simpa using List.mem_of_getElem? hs)
    exact .inl ⟨h, p, h1, h2⟩
  · rw [List.getElem?_append_right (by simp; omega)] at hs
    simp [h] at hs
    exact .inr ⟨h, hs.symm⟩
  · rw [List.getElem?_append_right (by simp; omega)] at hs
    rw [List.getElem?_eq_none (by simp; omega)] at hs
    cases hs
theorem sf_rank (hF : Fix P E cf nt ops D r0 H0 fin) {k : Nat} {s : Snap} (hs : fin.sf[k]? = some s) : s.k = k := by
  rcases sf_next hF hs with ⟨h1, _⟩ | ⟨h1, h2⟩
  · unfold DS.sf at hs
    rw [List.getElem?_append_left (by simpa using h1)] at hs
    exact hF.run.rk k s hs
  · rw [h2]; exact h1.symm
theorem sf_log (hF : Fix P E cf nt ops D r0 H0 fin) {m m' : Nat} {s s' : Snap} (h : m ≤ m') (h1 : fin.sf[m]? = some s) (h2 : fin.sf[m']? = some s') : Logged s.S s'.S := by
  unfold DS.sf at h1 h2
  rcases Nat.lt_or_ge m' fin.sn.length with h3 | h3
  · rw [List.getElem?_append_left (by simp; omega)] at h1 h2
    exact hF.run.lg2 m m' s s' h h1 h2
  · have h4 : m' = fin.sn.length := by
      have := (List.getElem?_eq_some_iff.1 h2).1
      simp at this; omega
    subst h4
    rw [List.getElem?_append_right (by simp)] at h2
    simp at h2; subst h2
    rcases Nat.lt_or_ge m fin.sn.length with h5 | h5
    · rw [List.getElem?_append_left (by simpa using h5)] at h1
      exact hF.run.lg1 s (by simpa using List.mem_of_getElem? h1)
    · have : m = fin.sn.length := by omega
      subst this
      rw [List.getElem?_append_right (by simp)] at h1
      simp at h1; subst h1
      exact Logged.refl _
theorem memN_no {t : Nat} {l : List Nat} (h : (!(memN t l)) = true) : t ∉ l := by
  intro hm
  rw [memN_ok.2 hm] at h
  cases h
theorem apart_get {f : Nat} {A B : AH} (h : Logged A B) (hf : apartL f A.wr B.wr = true ∨ apartL f B.wr A.wr = true) : B.t.get f = A.t.get f := by
  obtain ⟨ws, h1, h2⟩ := h
  refine h2 f ?_
  have key : (!(memN f (takeL (Nat.sub B.wr.length A.wr.length) B.wr))) = true := by
    rcases hf with hf | hf
    · unfold apartL at hf; simp only [Bool.and_eq_true] at hf; exact hf.2
    · unfold apartL at hf; simp only [Bool.and_eq_true] at hf; exact hf.1
  have e : takeL (Nat.sub B.wr.length A.wr.length) B.wr = ws := by
    rw [takeL_eq, h1]
    have : Nat.sub (ws ++ A.wr).length A.wr.length = ws.length := by
      show (ws ++ A.wr).length - A.wr.length = _
      simp
    rw [this]; simp
  rw [e] at key
  exact memN_no key
theorem famSame_ok (hF : Fix P E cf nt ops D r0 H0 fin) {k kk : Nat} {s c : Snap} {i m : Nat} {rr : Tr AV} {op : Op} {x : AV} {ww : List Nat} (hs : fin.sf[k]? = some s) (hc : fin.sf[kk]? = some c) (hw : c.S.wr = ww)
    (h : famSame H0.next ⟨i, m, rr, op, x, kk, ww⟩ s = true) (hr : readE E.T E.S (absorbE H0.next c.S m c.pd fin.al) rr op = some x) : readE E.T E.S (absorbE H0.next s.S m s.pd fin.al) rr op = some x := by
  unfold famSame at h
  dsimp only at h
  split at h
  · rename_i f hf
    simp only [Bool.and_eq_true, Nat.blt_eq] at h
    obtain ⟨hlt, hap⟩ := h
    subst hw
    have hget : s.S.t.get f = c.S.t.get f := by
      rcases Nat.le_total k kk with h1 | h1
      · exact (apart_get (sf_log hF h1 hs hc) (.inl hap)).symm
      · exact apart_get (sf_log hF h1 hc hs) (.inr hap)
    unfold famOf at hf
    split at hf
    · rename_i t p
      simp only [Option.bind_eq_some_iff] at hf
      obtain ⟨y, hy, hf⟩ := hf
      split at hf
      · rename_i f' v o n
        cases hf
        have e : ∀ S : AH, readE E.T E.S S rr (.load t p) = (evO rr p).bind fun p => loadE E.T S t p := fun _ => rfl
        rw [e] at hr ⊢
        simp only [hy, Option.bind_some, loadE] at hr ⊢
        rw [absorb_lt hlt] at hr ⊢
        rw [hget]; exact hr
      · cases hf
    · cases hf
  · cases h
/-- One operation that is ready. -/
theorem op_ok (hF : Fix P E cf nt ops D r0 H0 fin) {n0 : Nat} (hn : w0.heap.size = n0) (hm : Mem fin H0.next ops.size n0 ρ0 H0 w0 listed k s ρ w) (hg : Reg ops.toList (dep D) fin r0 nt ds listed ρ a) {i : Nat} (hi : i ∈ Region.ready .any ops listed) {Q : Exit → Act → World → Prop} {K : Act → World → Prop}
    (hK : ∀ k' s' ρ' a' w', Mem fin H0.next ops.size n0 ρ0 H0 w0 (listed.setIfInBounds i true) k' s' ρ' w' → Reg ops.toList (dep D) fin r0 nt ds (listed.setIfInBounds i true) ρ' a' → K a' w') : wpOp P ops Q i K a w := by
  obtain ⟨hun, o, ho, hall⟩ := mem_ready.1 hi
  have hoL : ops.toList[i]? = some o := by rw [Array.getElem?_toList]; exact ho
  have hin : i < ops.size := (Array.getElem?_eq_some_iff.1 ho).1
  have hil : i < listed.size := by rw [hg.lsize]; simpa using hin
  have hli : ¬ lst listed i := by
    intro h
    unfold lst at h
    simp [hil] at hun h
    rw [hun] at h; cases h
  have hdep : ∀ j, hasB (dep D i) j = true → lst listed j := by
    intro j hj
    obtain ⟨e, he, hb, h⟩ := hF.text.conv i o hoL j hj
    have hle := hall e (Array.mem_toList_iff.1 he) (by rw [bindsE_eq]; exact hb)
    rcases h with rfl | h
    · exact hle
    · have hlt := (hF.text.edge i o hoL e he hb).1
      have hlt' : e.on < ops.toList.length := by simp; omega
      exact hg.closed e.on _ (List.getElem?_eq_getElem hlt') hle j h
  obtain ⟨rr, x, hs⟩ := hF.says i o ho
  have hregs := hg.regs hF.text hoL hli hdep hs.regs
  have hb : (H0.next) = H0.next := rfl
  unfold wpOp
  rw [ho]
  dsimp only
  rcases hs.kind with ⟨hw, hk⟩ | ⟨hsf, ⟨hw, rfl, hal⟩ | ⟨hw, hk⟩⟩
  · rw [if_pos (wantE_ok hregs hw)]
    obtain ⟨_, hal, k1, s1, s2, e1, e2, e3, e4, e5, e6, e7, e8⟩ := hk
    have hkk : k1 = k := by
      have h1 : ¬ (k1 < k) := fun h => hli ((hm.eff k1 s1 i e1 e2).2 h)
      rcases Nat.lt_or_ge k k1 with h2 | h2
      · rcases sf_next hF hm.snap with ⟨_, p, hp, _⟩ | ⟨hk, _⟩
        · have := e7 k s p h2 hm.snap hp
          have := (hm.eff k s p hm.snap hp).1 (hdep p this)
          omega
        · rcases sf_next hF e1 with ⟨h3, _⟩ | ⟨h3, _⟩ <;> omega
      · omega
    subst hkk
    rw [hm.snap] at e1
    cases e1
    obtain ⟨t, tst⟩ := hm.take hF.run.nd rfl hn (m := dep D i) fun p _ g => hdep p.1 g
    refine .inl (effStep_ok hF.env hF.calls t.rel hregs e5 fun ρ' w' y g1 g2 g3 => ?_)
    have hm' := hm.step hF.run.nd hF.run.al rfl hn hil hal hdep e2 e3 e4 e6 e8 g2 g3
    exact hK _ _ _ _ _ hm' (hg.put hF.text hoL hdep g3.le hs.val g1 hs.dst)
  · rw [if_neg (by rw [wantE_ok hregs hw]; simp)]
    exact hK _ _ _ _ _ (hm.keep hil hal hsf) (hg.put hF.text hoL hdep (Rho.le_refl _) hs.val (.tup _ _ .nil) hs.dst)
  · rw [if_pos (wantE_ok hregs hw)]
    refine .inl ?_
    rcases hk with ⟨hal, hk⟩ | ⟨l, mk, ha, rfl, hal, hal'⟩
    · have hx : ∃ H', Rel ρ H' w ∧ readE E.T E.S H' rr o.op = some x := by
        rcases hk with ⟨_, kk, ww, hk, c, hc1, hc2, hcan⟩ | ⟨hmem, Hx, hk⟩
        · have hr := hF.reads _ hk s (List.mem_of_getElem? hm.snap)
          unfold readOk at hr
          dsimp only at hr
          cases hke : Nat.beq s.k kk with
          | true =>
            have e1 := Nat.eq_of_beq_eq_true hke
            have e2 := sf_rank hF hm.snap
            rw [e2] at e1
            subst e1
            obtain ⟨t, _⟩ := hm.take hF.run.nd rfl hn (m := dep D i) fun p _ g => hdep p.1 g
            rw [hm.snap] at hc1
            cases hc1
            exact ⟨_, t.rel, hcan⟩
          | false =>
          rw [hke] at hr
          simp only [cond_false] at hr
          have h1 : hasB s.pd i = false := by
            cases hq : hasB s.pd i with
            | false => rfl
            | true => exact absurd (hm.pdl i hq) hli
          have h2 : nextIn s.next (dep D i) = false := by
            unfold nextIn
            cases hq : s.next with
            | none => rfl
            | some j =>
              cases hd : hasB (dep D i) j with
              | false => exact hd
              | true =>
                have := (hm.eff k s j hm.snap hq).1 (hdep j hd)
                omega
          rw [h1, h2] at hr
          simp only [cond_false] at hr
          cases hfs : famSame H0.next ⟨i, dep D i, rr, o.op, x, kk, ww⟩ s with
          | true =>
            obtain ⟨t, _⟩ := hm.take hF.run.nd rfl hn (m := dep D i) fun p _ g => hdep p.1 g
            exact ⟨_, t.rel, famSame_ok hF hm.snap hc1 hc2 hfs hcan⟩
          | false =>
          rw [hfs] at hr
          simp only [cond_false] at hr
          split at hr
          · rename_i x' hx'
            rw [eqV_ok 12 _ _ hr] at hx'
            obtain ⟨t, _⟩ := hm.take hF.run.nd rfl hn (m := dep D i) fun p _ g => hdep p.1 g
            exact ⟨_, t.rel, hx'⟩
          · cases hr
        · exact ⟨s.S, hm.rel, by rw [memOp_ok hmem s.S Hx rr]; exact hk⟩
      obtain ⟨H', hr, hx⟩ := hx
      obtain ⟨y, h1, h2⟩ := readE_ok hF.env.T hF.env.S hr hregs hx
      unfold Oper.wp
      rw [h1, Oper.upon_value]
      exact hK _ _ _ _ _ (hm.keep hil hal hsf) (hg.put hF.text hoL hdep (Rho.le_refl _) hs.val h2 hs.dst)
    · obtain ⟨y, w', cs, el, fr, ys, h1, h2, h3, h4, h5, h6, h7, h8, h9, h10⟩ := allocE_ok (w := w) hF.env.T hregs ha
      unfold Oper.wp
      rw [h1, Oper.upon_value]
      have hm' := hm.alloc rfl hn hil hin hli hal hal' hsf h2 h3 h4 h5 h6 h7 h8 h9
      refine hK _ _ _ _ _ hm' (hg.put hF.text hoL hdep (Rho.le_add _ _ ((hm.fresh i hin hli).1 0)) hs.val (h10 _ _ (Rho.add_same _ _ _ _)) hs.dst)
end
end Go.Proofs.YtllfnhapnndngaaGreatDoor.E
namespace Go.Proofs.YtllfnhapnndngaaGreatDoor.E
open Go
set_option linter.unusedVariables false
set_option linter.unusedSimpArgs false
section
variable {P : Program} {E : Env} {cf : CF} {nt : Nat} {ops : Array Oper} {D : Tr Nat} {r0 : Tr AV} {H0 : AH} {fin : DS} {ds : List Deferred} {listed : Array Bool} {ρ : Rho} {a : Act} {w : World} {ρ0 : Rho} {w0 : World} {k : Nat} {s : Snap}
theorem end_ok (hF : Fix P E cf nt ops D r0 H0 fin) {n0 : Nat} (hn : w0.heap.size = n0) (hm : Mem fin H0.next ops.size n0 ρ0 H0 w0 listed k s ρ w) (hg : Reg ops.toList (dep D) fin r0 nt ds listed ρ a) (hall : ∀ i, i < ops.size → lst listed i) :
    Regs ρ fin.r a ∧ Rel ρ (absorbE H0.next fin.S (Nat.sub (2 ^ ops.size) 1) fin.pd fin.al) w ∧ Stp ρ0 H0 w0 ρ (absorbE H0.next fin.S (Nat.sub (2 ^ ops.size) 1) fin.pd fin.al) w := by
  have hs : s = ⟨fin.S, fin.pd, none, fin.sn.length⟩ := by
    rcases sf_next hF hm.snap with ⟨_, p, h1, h2⟩ | ⟨_, h⟩
    · have := (hm.eff k s p hm.snap h1).1 (hall p h2)
      omega
    · exact h
  subst hs
  obtain ⟨t, tst⟩ := hm.take hF.run.nd rfl hn (m := Nat.sub (2 ^ ops.size) 1) fun p hp _ => hall p.1 (hF.run.al p hp)
  refine ⟨fun x v hv => ?_, t.rel, tst⟩
  rcases hF.run.regs x v hv with ⟨j, o', hj, g1, g2, g3⟩ | ⟨g1, g2⟩
  · exact hg.vals j o' x v g1 (hall j hj) g2 g3
  · exact hg.old x v g1 fun j o' hoj hlj => g2 j o' (by simpa using (List.getElem?_eq_some_iff.1 hoj).1) hoj
theorem all_of_ready (hF : Fix P E cf nt ops D r0 H0 fin) (hz : listed.size = ops.size) (hr : Region.ready .any ops listed = []) : ∀ i, i < ops.size → lst listed i := by
  intro i
  induction i using Nat.strongRecOn with
  | _ i ih =>
    intro hi
    cases hc : listed.getD i false with
    | true => exact hc
    | false =>
      exfalso
      have hil : i < listed.size := by omega
      have hmem : i ∈ Region.ready .any ops listed := by
        rw [mem_ready]
        refine ⟨?_, ops[i], Array.getElem?_eq_getElem hi, fun e he hb => ?_⟩
        · simp [hil] at hc ⊢; exact hc
        · have hlt := (hF.text.edge i ops[i] (by rw [Array.getElem?_toList]; exact Array.getElem?_eq_getElem hi) e (Array.mem_toList_iff.2 he) (by rw [← bindsE_eq]; exact hb)).1
          exact ih e.on hlt (by omega)
      rw [hr] at hmem
      cases hmem
theorem all_of_count (h : listed.count false = 0) : ∀ i, i < listed.size → lst listed i := by
  intro i hi
  have hn := Array.count_eq_zero.1 h
  unfold lst
  simp only [Array.getD_eq_getD_getElem?, Array.getElem?_eq_getElem hi, Option.getD_some]
  cases hc : listed[i] with
  | true => rfl
  | false => exact absurd (by rw [← hc]; exact Array.getElem_mem hi) hn
theorem any_ok (hF : Fix P E cf nt ops D r0 H0 fin) {n0 : Nat} (hn : w0.heap.size = n0) {Q : Exit → Act → World → Prop}
    (hQ : ∀ ρ' a' w', Regs ρ' fin.r a' → Rel ρ' (absorbE H0.next fin.S (Nat.sub (2 ^ ops.size) 1) fin.pd fin.al) w' → Stp ρ0 H0 w0 ρ' (absorbE H0.next fin.S (Nat.sub (2 ^ ops.size) 1) fin.pd fin.al) w' → a'.tmps.size = nt → a'.defers = ds → Q .normal a' w') :
    ∀ (fuel : Nat) (listed : Array Bool) (k : Nat) (s : Snap) (ρ : Rho) (a : Act) (w : World), Mem fin H0.next ops.size n0 ρ0 H0 w0 listed k s ρ w → Reg ops.toList (dep D) fin r0 nt ds listed ρ a → listed.count false = fuel → wpAny P .any ops Q fuel listed a w := by
  intro fuel
  induction fuel with
  | zero =>
    intro listed k s ρ a w hm hg hc
    have hz : listed.size = ops.size := by rw [hg.lsize]; simp
    have hall : ∀ i, i < ops.size → lst listed i := fun i hi => all_of_count hc i (by omega)
    refine ⟨?_, ?_⟩
    · cases hr : Region.ready .any ops listed with
      | nil => rfl
      | cons i l =>
        have hi : i ∈ Region.ready .any ops listed := by rw [hr]; simp
        obtain ⟨hun, o, ho, _⟩ := mem_ready.1 hi
        have hin := (Array.getElem?_eq_some_iff.1 ho).1
        have := hall i hin
        unfold lst at this
        simp [show i < listed.size by omega] at hun this
        rw [hun] at this; cases this
    · obtain ⟨g1, g2, g3⟩ := end_ok hF hn hm hg hall
      exact hQ ρ a w g1 g2 g3 hg.size hg.defers
  | succ fuel ih =>
    intro listed k s ρ a w hm hg hc
    have hz : listed.size = ops.size := by rw [hg.lsize]; simp
    refine ⟨fun hr => ?_, fun i hi => ?_⟩
    · obtain ⟨g1, g2, g3⟩ := end_ok hF hn hm hg (all_of_ready hF hz hr)
      exact hQ ρ a w g1 g2 g3 hg.size hg.defers
    · refine op_ok hF hn hm hg hi fun k' s' ρ' a' w' hm' hg' => ih _ k' s' ρ' a' w' hm' hg' ?_
      obtain ⟨hun, o, ho, _⟩ := mem_ready.1 hi
      have hin := (Array.getElem?_eq_some_iff.1 ho).1
      have hil : i < listed.size := by omega
      have hel : listed[i] = false := by simpa [hil] using hun
      have : listed.setIfInBounds i true = listed.set i true hil := by simp [Array.setIfInBounds, hil]
      rw [this, Array.count_set, hel, hc]
      simp
theorem draw_ok (hP : P.follows .mixedOrders = true) (hE : EnvOk P E) (hcf : CallOk P cf) (hlg : LogOk cf) (nt : Nat) : DrawOk P nt (drawE E cf nt) := by
  intro ops r H r' H' h id ρ a w Q hg hr hs hQ
  unfold drawE at h
  replace h := cond_some h
  obtain ⟨htx, h⟩ := h
  simp only [Option.bind_eq_some_iff] at h
  obtain ⟨fin, hdyn, h⟩ := h
  replace h := cond_some h
  obtain ⟨hrd, h⟩ := h
  simp only [Option.some.injEq, Prod.mk.injEq] at h
  obtain ⟨rfl, rfl⟩ := h
  have htext := textE_ok htx
  obtain ⟨hgo, hrun, hsays⟩ := dyn_ok (r0 := r) hlg htext ops.toList 0 _ fin (fun k => by simp) hdyn
    ⟨fun t v hv => .inr ⟨hv, fun j o' hj => absurd hj (by omega)⟩, by intro p hp; simp at hp, by intro s hs; simp at hs, by intro p hp; simp at hp, by simp, by intro m s hm; simp at hm, by intro s hs; simp at hs, by intro m m' s s' _ hm; simp at hm⟩
  have hF : Fix P E cf nt ops (depsE ops.toList 0 .leaf) r H fin := by
    refine ⟨hE, hcf, htext, by simpa using hrun, fun i o ho => ?_, fun d hd s hs => ?_⟩
    · have := hsays i o (by rw [Array.getElem?_toList]; exact ho)
      rwa [Nat.zero_add] at this
    · have h1 := allL_ok hrd d hd
      refine allL_ok h1 s ?_
      unfold DS.sf at hs
      rcases List.mem_append.1 hs with hs | hs
      · exact List.mem_cons_of_mem _ (by simpa using hs)
      · simp at hs; subst hs; simp
  have hlen : ops.toList.length = ops.size := by simp
  rw [hlen] at hQ
  refine wp_region_any hP (any_ok (ρ0 := ρ) (w0 := { w with drawn := w.drawn + 1 }) (n0 := w.heap.size) (ds := a.defers) hF rfl (fun ρ' a' w' g1 g2 g3 g4 g5 => hQ ρ' a' w' g1 g2 (Stp.heap (w1 := { w with drawn := w.drawn + 1 }) rfl rfl rfl rfl g3) g4 g5) _ _ 0 ⟨⟨H.next + ops.size, H.t, H.wr⟩, 0, hgo.head.choose.next, hgo.head.choose.k⟩ ρ a _ ?_ ?_ (by rw [Array.count_replicate_self]))
  · obtain ⟨d1, d2, d3⟩ := hgo.head.choose_spec
    have hsn : fin.sf[0]? = some ⟨⟨H.next + ops.size, H.t, H.wr⟩, 0, hgo.head.choose.next, hgo.head.choose.k⟩ := by
      have e : hgo.head.choose = ⟨⟨H.next + ops.size, H.t, H.wr⟩, 0, hgo.head.choose.next, hgo.head.choose.k⟩ := by
        cases hc : hgo.head.choose with
        | mk S pd nx kk =>
          rw [hc] at d2 d3
          simp only at d2 d3
          subst d2 d3
          simp
      rw [← e]; simpa using d1
    have hno : ∀ j, ¬ lst (Array.replicate ops.size false) j := by
      intro j hj
      unfold lst at hj
      simp only [Array.getD_eq_getD_getElem?, Array.getElem?_replicate] at hj
      split at hj <;> simp at hj
    have hrel : Rel ρ ⟨H.next + ops.size, H.t, H.wr⟩ { w with drawn := w.drawn + 1 } := by
      have := hr.heap (w' := { w with drawn := w.drawn + 1 }) rfl
      exact ⟨this.blk, this.apart, this.same, fun f v im hv => Nat.lt_of_lt_of_le (this.fresh f v im hv) (Nat.le_add_right _ _), this.size, fun f b hb => Nat.lt_of_lt_of_le (this.below f b hb) (Nat.le_add_right _ _), this.root⟩
    refine ⟨hsn, hrel, ⟨ρ.le_refl, Nat.le_add_right _ _, rfl, rfl, rfl, Nat.le_refl _, fun _ _ _ => rfl, fun _ _ h => h, fun _ _ _ h => .inl h, fun _ b h => .inr ⟨b, h⟩, ⟨[], rfl, fun _ _ => ⟨fun _ h => h, fun _ _ _ _ => rfl⟩⟩⟩, ?_, fun p hp hl => absurd hl (hno _), fun p hp q hq _ hl => absurd hl (hno _), fun j hj _ => ⟨fun v => ?_, ?_⟩, Nat.le_refl _, fun j hj => ?_⟩
    · intro k' s' j h1 h2
      exact ⟨fun hl => absurd hl (hno _), fun hl => by omega⟩
    · cases hv : ρ (H.next + j) v with
      | none => rfl
      | some im => exact absurd (hr.fresh _ _ _ hv) (by omega)
    · cases hv : H.t.get (H.next + j) with
      | none => rfl
      | some b => exact absurd (hr.below _ _ hv) (by omega)
    · rw [hasB_zero] at hj; cases hj
  · refine ⟨fun i o t x _ hl => ?_, fun t x hx _ => hg t x hx, hs, rfl, fun i o _ hl => ?_, by simp⟩
    · exfalso
      unfold lst at hl
      simp only [Array.getD_eq_getD_getElem?, Array.getElem?_replicate] at hl
      split at hl <;> simp at hl
    · exfalso
      unfold lst at hl
      simp only [Array.getD_eq_getD_getElem?, Array.getElem?_replicate] at hl
      split at hl <;> simp at hl
theorem dyn_log (hlg : LogOk cf) {b0 : Nat} {ol : List Oper} (l : List Oper) : ∀ (i : Nat) (st fin : DS), dynE E cf nt b0 ol D l i st = some fin → Logged st.S fin.S := by
  induction l with
  | nil => intro i st fin h; cases h; exact Logged.refl _
  | cons o l ih =>
    intro i st fin h
    rw [dynE_cons] at h
    simp only [Option.bind_eq_some_iff] at h
    obtain ⟨b, hb, h⟩ := h
    cases b with
    | false =>
      simp only [cond_false, Option.bind_eq_some_iff] at h
      obtain ⟨r', hr', h⟩ := h
      have g := ih _ _ _ h
      exact g
    | true =>
      simp only [cond_true] at h
      cases he : isEff o.op with
      | true =>
        rw [he] at h
        simp only [cond_true] at h
        replace h := cond_some h
        obtain ⟨hc, h⟩ := h
        simp only [Option.bind_eq_some_iff] at h
        obtain ⟨⟨x, S'⟩, hx, r', hr', h⟩ := h
        exact ((absorb_log st.al).trans (effStep_log hlg hx)).trans (ih _ _ _ h)
      | false =>
        rw [he] at h
        simp only [cond_false] at h
        split at h
        · simp only [Option.bind_eq_some_iff] at h
          obtain ⟨r', hr', h⟩ := h
          have g := ih _ _ _ h
          exact g
        · simp only [Option.bind_eq_some_iff] at h
          obtain ⟨⟨al, mk⟩, hx, r', hr', h⟩ := h
          have g := ih _ _ _ h
          exact g
theorem draw_log (hlg : LogOk cf) {ol : List Oper} {r r' : Tr AV} {H H' : AH} (h : drawE E cf nt ol r H = some (r', H')) : Logged H H' := by
  unfold drawE at h
  replace h := cond_some h
  obtain ⟨htx, h⟩ := h
  simp only [Option.bind_eq_some_iff] at h
  obtain ⟨fin, hdyn, h⟩ := h
  replace h := cond_some h
  obtain ⟨hrd, h⟩ := h
  simp only [Option.some.injEq, Prod.mk.injEq] at h
  obtain ⟨rfl, rfl⟩ := h
  have h1 := dyn_log hlg _ _ _ _ hdyn
  have h0 : Logged H ⟨H.next + ol.length, H.t, H.wr⟩ := ⟨[], rfl, fun _ _ => rfl⟩
  exact (h0.trans h1).trans (absorb_log _)
end
end Go.Proofs.YtllfnhapnndngaaGreatDoor.E
namespace Go.Proofs.YtllfnhapnndngaaGreatDoor.E
open Go
set_option linter.unusedVariables false
inductive AllT {α : Type} : (Nat → α → Prop) → Tr α → Prop where
  | leaf {p : Nat → α → Prop} : AllT p .leaf
  | bare {p : Nat → α → Prop} {l r : Tr α} (hl : AllT (fun m => p (2 * m + 1)) l) (hr : AllT (fun m => p (2 * m + 2)) r) : AllT p (.node none l r)
  | full {p : Nat → α → Prop} {x : α} {l r : Tr α} (h : p 0 x) (hl : AllT (fun m => p (2 * m + 1)) l) (hr : AllT (fun m => p (2 * m + 2)) r) : AllT p (.node (some x) l r)
theorem AllT.get {α : Type} {p : Nat → α → Prop} {t : Tr α} (h : AllT p t) : ∀ k x, t.get k = some x → p k x := by
  induction h with
  | leaf => intro k x h; cases h
  | bare hl hr ihl ihr =>
    intro k x h
    cases k with
    | zero => cases h
    | succ m =>
      rw [Tr.get_node_succ] at h
      have e1 : Nat.div m 2 = m / 2 := rfl
      have e2 : Nat.mod m 2 = m % 2 := rfl
      cases hb : Nat.beq (Nat.mod m 2) 0 with
      | true =>
        rw [hb] at h
        have hb' := Nat.eq_of_beq_eq_true hb
        have := ihl _ x h
        dsimp only at this
        rwa [show 2 * Nat.div m 2 + 1 = m + 1 by omega] at this
      | false =>
        rw [hb] at h
        have hb' := Nat.ne_of_beq_eq_false hb
        have := ihr _ x h
        dsimp only at this
        rwa [show 2 * Nat.div m 2 + 2 = m + 1 by omega] at this
  | full h0 hl hr ihl ihr =>
    intro k x h
    cases k with
    | zero => cases h; exact h0
    | succ m =>
      rw [Tr.get_node_succ] at h
      have e1 : Nat.div m 2 = m / 2 := rfl
      have e2 : Nat.mod m 2 = m % 2 := rfl
      cases hb : Nat.beq (Nat.mod m 2) 0 with
      | true =>
        rw [hb] at h
        have hb' := Nat.eq_of_beq_eq_true hb
        have := ihl _ x h
        dsimp only at this
        rwa [show 2 * Nat.div m 2 + 1 = m + 1 by omega] at this
      | false =>
        rw [hb] at h
        have hb' := Nat.ne_of_beq_eq_false hb
        have := ihr _ x h
        dsimp only at this
        rwa [show 2 * Nat.div m 2 + 2 = m + 1 by omega] at this
def TOk (P : Program) (t : TypeId) (i : TI) : Prop := ∃ d j z, P.underlying t = some d ∧ i.td.Ok d ∧ P.info? t = some j ∧ j.size = i.size ∧ j.bytes = i.bytes ∧ j.zero = some z ∧ ∀ ρ, R ρ i.zero z
theorem mkT {P : Program} {t : TypeId} {d : TypeDesc} {j : TypeInfo} {i : TI} {z : Value} (hu : P.underlying t = some d) (hj : P.info? t = some j) (hd : i.td.Ok d) (hs : j.size = i.size) (hb : j.bytes = i.bytes) (hz : j.zero = some z) (ho : ofV z = some i.zero) : TOk P t i :=
  ⟨d, j, z, hu, hd, hj, hs, hb, hz, ofV_ok ho⟩
theorem types_of {P : Program} {t : Tr TI} (h : AllT (TOk P) t) : Types P t.get := ⟨fun k i hk => h.get k i hk⟩
def FOk (P : Program) (f : FuncId) (fn : Func) : Prop := P.funcs[f]? = some fn ∧ (fn.name == "runtime.NumGoroutine") = false
theorem fOk {P : Program} {f : FuncId} {fn : Func} (h : P.funcs[f]? = some fn) (hn : (fn.name == "runtime.NumGoroutine") = false) : FOk P f fn := ⟨h, hn⟩
noncomputable def fdOf (fn : Func) : Option FD :=
  match fn.body with
  | some c => some ⟨c, fn.ntmps, fn.results.toList⟩
  | none => none
noncomputable def funF (t : Tr Func) (f : FuncId) : Option FD := (t.get f).bind fdOf
theorem funs_of {P : Program} {t : Tr Func} (h : AllT (FOk P) t) : Funs P (funF t) := ⟨fun f d hd => by
  simp only [funF, Option.bind_eq_some_iff] at hd
  obtain ⟨fn, hfn, hd⟩ := hd
  obtain ⟨h1, h2⟩ := h.get f fn hfn
  unfold fdOf at hd
  split at hd
  · rename_i c hc
    cases hd
    exact ⟨fn, h1, h2, hc, rfl, rfl⟩
  · cases hd⟩
end Go.Proofs.YtllfnhapnndngaaGreatDoor.E
namespace Go.Proofs.YtllfnhapnndngaaGreatDoor.E
open Go
set_option linter.unusedVariables false
set_option linter.unusedSimpArgs false
/-- All that was there is as it was. -/
structure Same (w w' : World) : Prop where
  os : w'.os = w.os
  tape : w'.tape = w.tape
  output : w'.output = w.output
  size : w.heap.size ≤ w'.heap.size
  heap : ∀ k, k < w.heap.size → w'.heap[k]? = w.heap[k]?
theorem Rel.stay {ρ : Rho} {H : AH} {w w' : World} (h : Rel ρ H w) (s : Same w w') : Rel ρ H w' ∧ Stp ρ H w ρ H w' :=
  ⟨⟨fun f b hb => (h.blk f b hb).mono (Rho.le_refl _) (fun _ => rfl) (fun v im hv hi => s.heap _ (h.size f v im ⟨b, hb, hv⟩ hi)), h.apart, h.same, h.fresh, fun f v im hl hi => Nat.lt_of_lt_of_le (h.size f v im hl hi) s.size, h.below, h.root⟩,
   ⟨ρ.le_refl, Nat.le_refl _, s.os, s.tape, s.output, s.size, fun k hk _ => s.heap k hk, fun _ _ hh => hh, fun _ _ _ h => .inl h, fun _ b h => .inr ⟨b, h⟩, ⟨[], rfl, fun g _ => ⟨fun _ hb => hb, fun v im hl hi => s.heap _ (h.size g v im hl hi)⟩⟩⟩⟩
/-- Values with no word of memory in them. -/
def AV.bare : AV → Bool
  | .bool _ | .int _ _ | .str _ | .nilp | .nils | .nilm | .nilf | .nili => true
  | _ => false
def AV.flat : AV → Bool
  | .agg l | .tup l => l.all AV.bare
  | x => x.bare
theorem R.bare {ρ ρ' : Rho} {x : AV} {y : Value} (h : R ρ x y) (hb : x.bare = true) : R ρ' x y := by
  cases h <;> first | (simp [AV.bare] at hb; done) | skip
  · exact .bool _
  · exact .int _ _
  · exact .str _ _ (by assumption)
  · exact .nilp
  · exact .nils
  · exact .nilm
  · exact .nilf
  · exact .nili
theorem RL.bare {ρ ρ' : Rho} {l : List AV} : ∀ {vs : List Value}, RL ρ l vs → l.all AV.bare = true → RL ρ' l vs := by
  induction l with
  | nil => intro vs h _; cases h; exact .nil
  | cons x l ih =>
    intro vs h hb
    simp only [List.all_cons, Bool.and_eq_true] at hb
    cases h with | cons _ _ _ _ h hs => exact .cons _ _ _ _ (h.bare hb.1) (ih hs hb.2)
theorem R.flat {ρ ρ' : Rho} {x : AV} {y : Value} (h : R ρ x y) (hb : x.flat = true) : R ρ' x y := by
  cases h with
  | agg l vs hl => exact .agg _ _ (hl.bare hb)
  | tup l vs hl => exact .tup _ _ (hl.bare hb)
  | bool b => exact .bool _
  | int k n => exact .int _ _
  | str s l h => exact .str _ _ h
  | nilp => exact .nilp
  | nils => exact .nils
  | nilm => exact .nilm
  | nilf => exact .nilf
  | nili => exact .nili
  | ptr => simp [AV.flat, AV.bare] at hb
  | sl => simp [AV.flat, AV.bare] at hb
  | sle => simp [AV.flat, AV.bare] at hb
  | map => simp [AV.flat, AV.bare] at hb
  | iter => simp [AV.flat, AV.bare] at hb
  | fn => simp [AV.flat, AV.bare] at hb
  | ifc => simp [AV.flat, AV.bare] at hb
theorem RL.flat {ρ ρ' : Rho} {l : List AV} : ∀ {vs : List Value}, RL ρ l vs → l.all AV.flat = true → RL ρ' l vs := by
  induction l with
  | nil => intro vs h _; cases h; exact .nil
  | cons x l ih =>
    intro vs h hb
    simp only [List.all_cons, Bool.and_eq_true] at hb
    cases h with | cons _ _ _ _ h hs => exact .cons _ _ _ _ (h.flat hb.1) (ih hs hb.2)
/-- Nothing known of memory. -/
def rho0 : Rho := fun _ _ => none
noncomputable def AH.none : AH := ⟨0, .leaf, []⟩
theorem none_get {f : Nat} {b : ABlk} (h : AH.none.t.get f = some b) : False := by cases h
theorem rel_none (w : World) : Rel rho0 AH.none w := by
  refine ⟨fun f b h => (none_get h).elim, ?_, ?_, ?_, ?_, fun f b h => (none_get h).elim, fun f im h => by cases h⟩
  · rintro f v g u im jm _ ⟨b, hb, _⟩; exact (none_get hb).elim
  · rintro f v u im jm ⟨b, hb, _⟩; exact (none_get hb).elim
  · intro f v im h; cases h
  · rintro f v im ⟨b, hb, _⟩; exact (none_get hb).elim
/-- One row alone. -/
noncomputable def AH.row (l : List AV) : AH := ⟨1, Tr.leaf.set 0 (blkOf l), []⟩
noncomputable def rowE (H : AH) (f v o n : Nat) : Option (List AV) :=
  (H.t.get f).bind fun b => match b with
    | .cells lo _ _ c => bif Nat.ble lo v then c.take o n else none
    | _ => none
def rho1 (im : Img) : Rho := fun g u => if g = 0 ∧ u = 0 then some im else none
theorem row_get {l : List AV} {f : Nat} {b : ABlk} (h : (AH.row l).t.get f = some b) : f = 0 ∧ b = blkOf l := by
  have h' : (Tr.leaf.set 0 (blkOf l)).get f = some b := h
  rw [Tr.get_set] at h'
  by_cases e : 0 = f
  · rw [if_pos e] at h'; cases h'; exact ⟨e.symm, rfl⟩
  · rw [if_neg e] at h'; cases h'
theorem rel_row {ρ : Rho} {H : AH} {w : World} (h : Rel ρ H w) {f v o n es : Nat} {c : Option Nat} {l : List AV} (hl : rowE H f v o (n * es) = some l) (hn : 1 ≤ n) (h1c : n * es ≠ 1) (hbare : l.all AV.bare = true) {sv : Value} (hs : R ρ (.sl f v o n es c) sv) :
    ∃ im, Rel (rho1 im) (AH.row l) w ∧ R (rho1 im) (.sl 0 0 0 n es none) sv ∧ l.length = n * es := by
  simp only [rowE, Option.bind_eq_some_iff] at hl
  obtain ⟨b, hb, hl⟩ := hl
  split at hl
  · rename_i lo hi m cs
    replace hl := cond_some hl
    obtain ⟨hlo, hl⟩ := hl
    rw [Nat.ble_eq] at hlo
    obtain ⟨hlen, hget⟩ := Tr.take_spec cs (n * es) o l hl
    cases hs with
    | sle => omega
    | sl _ _ _ _ _ _ im cap him hlc hsz hrm hcap =>
      obtain ⟨h1, h2⟩ := h.blk f _ hb
      obtain ⟨h0, as, el, fr, e1, e2, e3, e4⟩ := h2 v im hlo him
      have hcb := (Array.getElem?_eq_some_iff.1 e1).1
      have hroom : im.room = im.sz + im.ext := rfl
      refine ⟨⟨im.cb, im.base + o, n * es, im.room - o - n * es⟩, ⟨?_, ?_, ?_, ?_, ?_, ?_, ?_⟩, ?_, hlen⟩
      · intro g b' hb'
        obtain ⟨rfl, rfl⟩ := row_get hb'
        have himg : ∀ u jm, rho1 ⟨im.cb, im.base + o, n * es, im.room - o - n * es⟩ 0 u = some jm → u = 0 ∧ jm = ⟨im.cb, im.base + o, n * es, im.room - o - n * es⟩ := by
          intro u jm hu
          unfold rho1 at hu
          split at hu
          · rename_i hc; cases hu; exact ⟨hc.2, rfl⟩
          · cases hu
        refine ⟨fun u jm hu => ?_, fun u jm _ hu => ?_⟩
        · obtain ⟨rfl, rfl⟩ := himg u jm hu; simp [hlen]
        · obtain ⟨rfl, rfl⟩ := himg u jm hu
          refine ⟨Img.le _, as, el, fr, e1, by simp only [Img.room]; omega, e3, fun i x hi hx => ?_⟩
          have hx' := get_leaf_puts l i x hx
          have hg := hget i x hx'
          have hi' : i < n * es := hi
          obtain ⟨a, y, hy, hR⟩ := e4 (o + i) x (by omega) hg
          have hy' : as[im.base + o + i]? = some y := by rw [Nat.add_assoc]; exact hy
          exact ⟨a, y, hy', hR.bare (List.all_eq_true.1 hbare x (List.mem_of_getElem? hx'))⟩
      · intro g v' k u im' jm' hne hl1 hl2
        obtain ⟨b1, hb1, _⟩ := hl1
        obtain ⟨b2, hb2, _⟩ := hl2
        exact absurd ((row_get hb1).1.trans (row_get hb2).1.symm) hne
      · intro g v' u im' jm' hl1 hl2 hi hj _
        unfold rho1 at hi hj
        split at hi
        · cases hi
          split at hj
          · cases hj; rfl
          · cases hj
        · cases hi
      · intro g v' im' hi
        unfold rho1 at hi
        split at hi
        · rename_i hc; rw [hc.1]; exact Nat.zero_lt_one
        · cases hi
      · intro g v' im' hl1 hi
        unfold rho1 at hi
        split at hi
        · cases hi; exact hcb
        · cases hi
      · intro g b' hb'
        rw [(row_get hb').1]; exact Nat.zero_lt_one
      · intro g im' hi h1
        unfold rho1 at hi
        split at hi
        · cases hi; exact absurd h1 h1c
        · cases hi
      · have h1' : rho1 ⟨im.cb, im.base + o, n * es, im.room - o - n * es⟩ 0 0 = some ⟨im.cb, im.base + o, n * es, im.room - o - n * es⟩ := by simp [rho1]
        have h2' : 0 + n * es ≤ (⟨im.cb, im.base + o, n * es, im.room - o - n * es⟩ : Img).sz := by show 0 + n * es ≤ n * es; omega
        have h3' : 0 + cap * es ≤ (⟨im.cb, im.base + o, n * es, im.room - o - n * es⟩ : Img).room := by show 0 + cap * es ≤ n * es + (im.room - o - n * es); omega
        have := R.sl (ρ := rho1 ⟨im.cb, im.base + o, n * es, im.room - o - n * es⟩) 0 0 0 n es none _ cap h1' hlc h2' h3' (by intro k hk; cases hk)
        simpa using this
  · cases hl
/-- A call on a part of memory. -/
theorem sub_call {P : Program} {cf : CF} (hcf : CallOk P cf) {f : FuncId} {xs : List AV} {Hc Hc' : AH} {v : AV} (he : cf f xs Hc = some (v, Hc')) (hwr : Hc.wr = []) (hfam : ∀ g b, Hc.t.get g = some b → g ∉ Hc'.wr) {ρc : Rho} {w : World} {args : Array Value} (hr : Rel ρc Hc w) (hx : RL ρc xs args.toList) :
    (callFunc f args).run P w = .ok (.enter f args) w ∧
    Calls P f args w fun e w' => ∃ ρ' y, e = .returned y ∧ R ρ' v y ∧ Rel ρ' Hc' w' ∧ Same w w' ∧ Stp ρc Hc w ρ' Hc' w' := by
  obtain ⟨h1, h2⟩ := hcf f xs Hc v Hc' he ρc w args hr hx
  refine ⟨h1, Calls.mono h2 fun e w' hp => ?_⟩
  obtain ⟨ρ', y, rfl, g1, g2, g3⟩ := hp
  refine ⟨ρ', y, rfl, g1, g2, ⟨g3.os, g3.tape, g3.output, g3.size, fun k hk => ?_⟩, g3⟩
  by_cases hh : Held ρc Hc k
  · obtain ⟨g, u, im, hl, hi, rfl⟩ := hh
    obtain ⟨ws, a, b⟩ := g3.keep
    obtain ⟨bb, hb, _⟩ := id hl
    have hg : g ∉ ws := fun hm => hfam g bb hb (by rw [a]; exact List.mem_append_left _ hm)
    exact (b g hg).2 u im hl hi
  · exact g3.frame k hk hh
/-- A call with no memory in its arguments nor in its answer. -/
theorem flat_call {P : Program} {cf : CF} (hcf : CallOk P cf) {f : FuncId} {xs : List AV} {Hc' : AH} {v : AV} (he : cf f xs AH.none = some (v, Hc')) (hxs : xs.all AV.flat = true) (hv : v.flat = true) {ρ : Rho} {H : AH} {w : World} {args : Array Value} (hr : Rel ρ H w) (hx : RL ρ xs args.toList) :
    (callFunc f args).run P w = .ok (.enter f args) w ∧ Calls P f args w fun e w' => ∃ ρ' y, e = .returned y ∧ R ρ' v y ∧ Rel ρ' H w' ∧ Stp ρ H w ρ' H w' := by
  have hx0 : RL rho0 xs args.toList := hx.flat hxs
  obtain ⟨h1, h2⟩ := sub_call hcf he rfl (fun g b hb => (none_get hb).elim) (rel_none w) hx0
  refine ⟨h1, Calls.mono h2 fun e w' hp => ?_⟩
  obtain ⟨ρ', y, rfl, g1, g2, g3, g4⟩ := hp
  obtain ⟨a, b⟩ := hr.stay g3
  exact ⟨ρ, y, rfl, g1.flat hv, a, b⟩
/-- A row that a call made, taken into memory. -/
theorem Rel.adopt {ρ ρ' : Rho} {H Hc' : AH} {w w' : World} (hr : Rel ρ H w) (hs : Same w w') (hc : Rel ρ' Hc' w') {k u o n : Nat} {l : List AV} (hl : rowE Hc' k u o n = some l) (hbare : l.all AV.bare = true) (hn : 1 ≤ n) (h1c : n ≠ 1) {y : Value} {es len : Nat} (hne : n = len * es) {cap : Option Nat} (hy : R ρ' (.sl k u o len es cap) y)
    (hnew : ∀ im, ρ' k u = some im → w.heap.size ≤ im.cb) : ∃ ρ'', Rel ρ'' (H.new l) w' ∧ Stp ρ H w ρ'' (H.new l) w' ∧ R ρ'' (.sl H.next 0 0 len es none) y := by
  simp only [rowE, Option.bind_eq_some_iff] at hl
  obtain ⟨b, hb, hl⟩ := hl
  split at hl
  · rename_i lo hi m cs
    replace hl := cond_some hl
    obtain ⟨hlo, hl⟩ := hl
    rw [Nat.ble_eq] at hlo
    obtain ⟨hlen, hget⟩ := Tr.take_spec cs n o l hl
    cases hy with
    | sle => omega
    | sl _ _ _ _ _ _ im cp him hlc hsz hrm hcap =>
      obtain ⟨h1, h2⟩ := hc.blk k _ hb
      obtain ⟨h0, as, el, fr, e1, e2, e3, e4⟩ := h2 u im hlo him
      have hcb := (Array.getElem?_eq_some_iff.1 e1).1
      have hge := hnew im him
      have hroom : im.room = im.sz + im.ext := rfl
      have hnone : ∀ v, ρ H.next v = none := fun v => by
        cases h : ρ H.next v with
        | none => rfl
        | some im => exact absurd (hr.fresh _ _ _ h) (by omega)
      have hle : ρ.le (ρ.add H.next 0 ⟨im.cb, im.base + o, n, im.room - o - n⟩) := Rho.le_add _ _ (hnone 0)
      have himg : ∀ v jm, (ρ.add H.next 0 ⟨im.cb, im.base + o, n, im.room - o - n⟩) H.next v = some jm → v = 0 ∧ jm = ⟨im.cb, im.base + o, n, im.room - o - n⟩ := by
        intro v jm h
        by_cases hv : v = 0
        · subst hv; rw [Rho.add_same] at h; cases h; exact ⟨rfl, rfl⟩
        · rw [Rho.add_ne _ _ (by simp [hv]), hnone] at h; cases h
      have key := Rel.change (ρ' := ρ.add H.next 0 ⟨im.cb, im.base + o, n, im.room - o - n⟩) (f := H.next) (nx := H.next + 1) (b' := .cells 0 0 l.length (Tr.leaf.puts 0 l)) (w' := w') hr hle
        (fun g v hg => Rho.add_ne _ _ (by simp [hg])) (by omega) (by omega) (.inl (Nat.le_refl _)) (fun jm h h1 => by rw [(himg 0 jm h).2] at h1; exact absurd h1 h1c) hs.size hs.os hs.tape hs.output ?_ (fun k hk _ => hs.heap k hk) ?_ ?_
      · refine ⟨_, key.1, key.2, ?_⟩
        have h2' : 0 + len * es ≤ (⟨im.cb, im.base + o, n, im.room - o - n⟩ : Img).sz := by show 0 + len * es ≤ n; omega
        have h3' : 0 + cp * es ≤ (⟨im.cb, im.base + o, n, im.room - o - n⟩ : Img).room := by show 0 + cp * es ≤ n + (im.room - o - n); omega
        have := R.sl (ρ := ρ.add H.next 0 ⟨im.cb, im.base + o, n, im.room - o - n⟩) H.next 0 0 len es none _ cp (Rho.add_same _ _ _ _) hlc h2' h3' (by intro k hk; cases hk)
        simpa using this
      · refine ⟨fun v jm h => ?_, fun v jm _ h => ?_⟩
        · obtain ⟨rfl, rfl⟩ := himg v jm h; simp [hlen]
        · obtain ⟨rfl, rfl⟩ := himg v jm h
          refine ⟨Img.le _, as, el, fr, e1, by simp only [Img.room]; omega, e3, fun i x hi hx => ?_⟩
          have hx' := get_leaf_puts l i x hx
          have hi' : i < n := hi
          obtain ⟨a, y, hy, hR⟩ := e4 (o + i) x (by omega) (hget i x hx')
          have hy' : as[im.base + o + i]? = some y := by rw [Nat.add_assoc]; exact hy
          exact ⟨a, y, hy', hR.bare (List.all_eq_true.1 hbare x (List.mem_of_getElem? hx'))⟩
      · intro v jm _ h
        obtain ⟨rfl, rfl⟩ := himg v jm h
        exact ⟨hcb, fun hlt => by have hlt' : im.cb < w.heap.size := hlt; omega⟩
      · intro v v' jm km _ _ h h' _
        obtain ⟨_, rfl⟩ := himg v jm h
        obtain ⟨_, rfl⟩ := himg v' km h'
        rfl
  · cases hl
end Go.Proofs.YtllfnhapnndngaaGreatDoor.E
