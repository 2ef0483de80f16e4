/- The plain laws of text: what the program computes is what the reference computes; no program in sight. -/
import Derived.Test.YtoccblnjalpcdaaR
namespace Go.Proofs.Ytoccblnjalpcdaa
open Go.RowKit Go.Proofs.YtoccblnjalpcdaaW.PrintWords
set_option linter.unusedVariables false
set_option linter.unusedSimpArgs false

theorem byte_all {p : Int → Prop} (h : ∀ a : Fin 256, p (a.val : Int)) (c : Int) (h0 : 0 ≤ c) (h1 : c ≤ 255) : p c := by
  obtain ⟨n, rfl⟩ := Int.eq_ofNat_of_zero_le h0
  exact h ⟨n, by omega⟩
theorem plain_eq (c : Int) (h0 : 0 ≤ c) (h1 : c ≤ 255) : rplainB c = plainB c := byte_all (p := fun c => rplainB c = plainB c) (by decide +kernel) c h0 h1
theorem print_eq (c : Int) (h0 : 0 ≤ c) (h1 : c ≤ 255) : rprintB c = printB c := byte_all (p := fun c => rprintB c = printB c) (by decide +kernel) c h0 h1
theorem ia5_eq (c : Int) (h0 : 0 ≤ c) (h1 : c ≤ 255) : ria5B c = ia5B c := byte_all (p := fun c => ria5B c = ia5B c) (by decide +kernel) c h0 h1
theorem hex_eq (c : Int) (h0 : 0 ≤ c) (h1 : c ≤ 255) : hexIdx c = nibL c := byte_all (p := fun c => hexIdx c = nibL c) (by decide +kernel) c h0 h1
theorem esc_back (c : Int) (h0 : 0 ≤ c) (h1 : c ≤ 255) : hexIdx (hexDigit (c / 16)) = c / 16 ∧ hexIdx (hexDigit (c % 16)) = c % 16 :=
  byte_all (p := fun c => hexIdx (hexDigit (c / 16)) = c / 16 ∧ hexIdx (hexDigit (c % 16)) = c % 16) (by decide +kernel) c h0 h1
theorem hex_digit (c : Int) (h0 : 0 ≤ c) (h1 : c ≤ 255) : 0 ≤ hexIdx c → hexDigit (hexIdx c) = c :=
  byte_all (p := fun c => 0 ≤ hexIdx c → hexDigit (hexIdx c) = c) (by decide +kernel) c h0 h1
theorem plain92 : plainB 92 = false := by decide +kernel

theorem Byt.tail {c : Int} {l : List Int} (h : Byt (c :: l)) : Byt l := fun x hx => h x (List.mem_cons_of_mem _ hx)
theorem Byt.head {c : Int} {l : List Int} (h : Byt (c :: l)) : 0 ≤ c ∧ c ≤ 255 := h c List.mem_cons_self

/-! ### Escape -/
theorem unesc_nil (out : List Int) : unesc [] out = some out := by conv => lhs; unfold unesc
theorem unesc_cons (c : Int) (r out : List Int) : unesc (c :: r) out = if plainB c then unesc r (out ++ [c])
    else if c = 92 then
      match r with
      | a :: b :: r' => if hexIdx a < 0 ∨ hexIdx b < 0 ∨ plainB (16 * hexIdx a + hexIdx b) = true then none else unesc r' (out ++ [16 * hexIdx a + hexIdx b])
      | _ => none
    else none := by
  conv => lhs; unfold unesc
  rcases r with _ | ⟨a, _ | ⟨b, r⟩⟩ <;> rfl
theorem unescR_nil (out : List Int) : unescR [] out = some out := by conv => lhs; unfold unescR
theorem unescR_cons (c : Int) (r out : List Int) : unescR (c :: r) out = if c = 92 then
      match r with
      | a :: b :: r' => if nibL a < 0 ∨ nibL b < 0 then none else unescR r' (out ++ [16 * nibL a + nibL b])
      | _ => none
    else unescR r (out ++ [c]) := by
  conv => lhs; unfold unescR
  rcases r with _ | ⟨a, _ | ⟨b, r⟩⟩ <;> rfl
theorem resc_eq : ∀ l : List Int, Byt l → rescL l = escL l
  | [], _ => rfl
  | c :: l, h => by
    have ih := resc_eq l h.tail
    simp only [rescL, escL, List.flatMap_cons] at ih ⊢
    rw [ih]
    unfold rescStep escStep
    rw [plain_eq c h.head.1 h.head.2]
theorem esc_cons (c : Int) (l : List Int) : escL (c :: l) = escStep c ++ escL l := by simp [escL, List.flatMap_cons]
theorem unesc_esc : ∀ (l out : List Int), Byt l → unesc (escL l) out = some (out ++ l)
  | [], out, _ => by simp [escL, unesc_nil]
  | c :: l, out, h => by
    rw [esc_cons]
    have ih := unesc_esc l (out ++ [c]) h.tail
    unfold escStep
    by_cases hp : plainB c = true
    · rw [if_pos hp]
      simp only [List.cons_append, List.nil_append]
      rw [unesc_cons]
      rw [if_pos hp, ih]; simp
    · rw [if_neg hp]
      simp only [List.cons_append, List.nil_append]
      rw [unesc_cons]
      rw [if_neg (by rw [plain92]; simp)]
      have hb := esc_back c h.head.1 h.head.2
      simp only [if_true]
      rw [hb.1, hb.2]
      have hc := h.head
      have e : 16 * (c / 16) + c % 16 = c := by omega
      rw [e]
      rw [if_neg (by rintro (h1 | h1 | h1); omega; omega; exact hp h1), ih]; simp
theorem esc_unesc (n : Nat) : ∀ (l out o : List Int), l.length ≤ n → Byt l → unesc l out = some o → ∃ m, o = out ++ m ∧ escL m = l ∧ unescR l out = some o := by
  induction n with
  | zero =>
    intro l out o hl hb h
    obtain rfl : l = [] := List.eq_nil_of_length_eq_zero (by omega)
    simp only [unesc_nil, Option.some.injEq] at h
    exact ⟨[], by simp [h], rfl, by simp [unescR_nil, h]⟩
  | succ n ih =>
    intro l out o hl hb h
    cases l with
    | nil =>
      simp only [unesc_nil, Option.some.injEq] at h
      exact ⟨[], by simp [h], rfl, by simp [unescR_nil, h]⟩
    | cons c r =>
      rw [unesc_cons] at h
      by_cases hp : plainB c = true
      · rw [if_pos hp] at h
        obtain ⟨m, e1, e2, e3⟩ := ih r (out ++ [c]) o (by simp at hl; omega) hb.tail h
        have h92 : c ≠ 92 := fun e => by rw [e, plain92] at hp; cases hp
        refine ⟨c :: m, by rw [e1]; simp, ?_, ?_⟩
        · rw [esc_cons, e2]; unfold escStep; rw [if_pos hp]; rfl
        · rw [unescR_cons]; rw [if_neg h92, e3]
      · rw [if_neg hp] at h
        by_cases h92 : c = 92
        · rw [if_pos h92] at h
          cases r with
          | nil => simp at h
          | cons a r => cases r with
            | nil => simp at h
            | cons b r =>
              simp only [] at h
              by_cases hx : hexIdx a < 0 ∨ hexIdx b < 0 ∨ plainB (16 * hexIdx a + hexIdx b) = true
              · rw [if_pos hx] at h; cases h
              · rw [if_neg hx] at h
                have ha := hb.tail.head
                have hb2 := hb.tail.tail.head
                obtain ⟨m, e1, e2, e3⟩ := ih r (out ++ [16 * hexIdx a + hexIdx b]) o (by simp at hl; omega) hb.tail.tail.tail h
                have ra := hexIdx_range a
                have rb := hexIdx_range b
                have a0 : 0 ≤ hexIdx a := by omega
                have b0 : 0 ≤ hexIdx b := by omega
                refine ⟨(16 * hexIdx a + hexIdx b) :: m, by rw [e1]; simp, ?_, ?_⟩
                · rw [esc_cons, e2]
                  unfold escStep
                  rw [if_neg (fun h => hx (.inr (.inr h))), h92]
                  rw [show (16 * hexIdx a + hexIdx b) / 16 = hexIdx a by omega, show (16 * hexIdx a + hexIdx b) % 16 = hexIdx b by omega]
                  rw [hex_digit a ha.1 ha.2 a0, hex_digit b hb2.1 hb2.2 b0]; rfl
                · rw [unescR_cons, if_pos h92]
                  simp only []
                  rw [← hex_eq a ha.1 ha.2, ← hex_eq b hb2.1 hb2.2, if_neg (by omega), e3]
        · rw [if_neg h92] at h; cases h
theorem unescR_back (n : Nat) : ∀ (l out o : List Int), l.length ≤ n → Byt l → unescR l out = some o → ∃ m, o = out ++ m ∧ (escL m = l → unesc l out = some o) := by
  induction n with
  | zero =>
    intro l out o hl hb h
    obtain rfl : l = [] := List.eq_nil_of_length_eq_zero (by omega)
    simp only [unescR_nil, Option.some.injEq] at h
    exact ⟨[], by simp [h], fun _ => by simp [unesc_nil, h]⟩
  | succ n ih =>
    intro l out o hl hb h
    cases l with
    | nil =>
      simp only [unescR_nil, Option.some.injEq] at h
      exact ⟨[], by simp [h], fun _ => by simp [unesc_nil, h]⟩
    | cons c r =>
      rw [unescR_cons] at h
      by_cases h92 : c = 92
      · rw [if_pos h92] at h
        cases r with
        | nil => simp at h
        | cons a r => cases r with
          | nil => simp at h
          | cons b r =>
            simp only [] at h
            have ha := hb.tail.head
            have hb2 := hb.tail.tail.head
            rw [← hex_eq a ha.1 ha.2, ← hex_eq b hb2.1 hb2.2] at h
            by_cases hx : hexIdx a < 0 ∨ hexIdx b < 0
            · rw [if_pos hx] at h; cases h
            · rw [if_neg hx] at h
              obtain ⟨m, e1, e2⟩ := ih r (out ++ [16 * hexIdx a + hexIdx b]) o (by simp at hl; omega) hb.tail.tail.tail h
              have ra := hexIdx_range a
              have rb := hexIdx_range b
              refine ⟨(16 * hexIdx a + hexIdx b) :: m, by rw [e1]; simp, fun he => ?_⟩
              rw [esc_cons] at he
              unfold escStep at he
              by_cases hp : plainB (16 * hexIdx a + hexIdx b) = true
              · rw [if_pos hp] at he
                simp only [List.cons_append, List.nil_append] at he
                injection he with he1 he2
                rw [he1, h92, plain92] at hp; cases hp
              · rw [if_neg hp] at he
                simp only [List.cons_append, List.nil_append] at he
                injection he with he1 he2
                injection he2 with he2 he3
                injection he3 with he3 he4
                rw [unesc_cons, if_neg (by rw [h92, plain92]; simp), if_pos h92]
                simp only []
                rw [if_neg (by rintro (h1 | h1 | h1); omega; omega; exact hp h1), e2 he4]
      · rw [if_neg h92] at h
        obtain ⟨m, e1, e2⟩ := ih r (out ++ [c]) o (by simp at hl; omega) hb.tail h
        refine ⟨c :: m, by rw [e1]; simp, fun he => ?_⟩
        rw [esc_cons] at he
        unfold escStep at he
        by_cases hp : plainB c = true
        · rw [if_pos hp] at he
          simp only [List.cons_append, List.nil_append] at he
          injection he with he1 he2
          rw [unesc_cons]
          rw [if_pos hp, e2 he2]
        · rw [if_neg hp] at he
          simp only [List.cons_append, List.nil_append] at he
          injection he with he1 he2
          exact absurd he1.symm h92
theorem unescRef_eq (l : List Int) (hb : Byt l) : unescRef l = unesc l [] := by
  unfold unescRef
  cases hu : unesc l [] with
  | some o =>
    obtain ⟨m, e1, e2, e3⟩ := esc_unesc l.length l [] o (Nat.le_refl _) hb hu
    rw [e3]
    simp only [List.nil_append] at e1
    subst e1
    have hbo : Byt o := by
      intro x hx
      -- every element of o is plain or a value of two digits
      have h : ∀ (n : Nat) (l out o : List Int), l.length ≤ n → Byt l → Byt out → unesc l out = some o → Byt o := by
        intro n
        induction n with
        | zero =>
          intro l out o hl hb ho h
          obtain rfl : l = [] := List.eq_nil_of_length_eq_zero (by omega)
          simp only [unesc_nil, Option.some.injEq] at h
          rw [← h]; exact ho
        | succ n ih =>
          intro l out o hl hb ho h
          cases l with
          | nil =>
            simp only [unesc_nil, Option.some.injEq] at h
            rw [← h]; exact ho
          | cons c r =>
            have hap : ∀ v, 0 ≤ v ∧ v ≤ 255 → Byt (out ++ [v]) := fun v hv x hx => by
              rcases List.mem_append.1 hx with hx | hx
              · exact ho x hx
              · simp at hx; rw [hx]; exact hv
            rw [unesc_cons] at h
            by_cases hp : plainB c = true
            · rw [if_pos hp] at h
              exact ih r _ o (by simp at hl; omega) hb.tail (hap c hb.head) h
            · rw [if_neg hp] at h
              by_cases h92 : c = 92
              · rw [if_pos h92] at h
                cases r with
                | nil => simp at h
                | cons a r => cases r with
                  | nil => simp at h
                  | cons b r =>
                    simp only [] at h
                    by_cases hx : hexIdx a < 0 ∨ hexIdx b < 0 ∨ plainB (16 * hexIdx a + hexIdx b) = true
                    · rw [if_pos hx] at h; cases h
                    · rw [if_neg hx] at h
                      have ra := hexIdx_range a
                      have rb := hexIdx_range b
                      exact ih r _ o (by simp at hl; omega) hb.tail.tail.tail (hap _ (by omega)) h
              · rw [if_neg h92] at h; cases h
      exact h l.length l [] o (Nat.le_refl _) hb (by intro x hx; simp at hx) hu x hx
    simp only [Option.bind_some]
    rw [resc_eq o hbo, if_pos e2]
  | none =>
    cases hr : unescR l [] with
    | none => rfl
    | some o =>
      obtain ⟨m, e1, e2⟩ := unescR_back l.length l [] o (Nat.le_refl _) hb hr
      simp only [List.nil_append] at e1
      subst e1
      simp only [Option.bind_some]
      by_cases he : rescL o = l
      · exfalso
        have hbo : Byt o := by
          -- rescL keeps each element's bounds: from the elements of l
          have h : ∀ (n : Nat) (l out o : List Int), l.length ≤ n → Byt l → Byt out → unescR l out = some o → Byt o := by
            intro n
            induction n with
            | zero =>
              intro l out o hl hb ho h
              obtain rfl : l = [] := List.eq_nil_of_length_eq_zero (by omega)
              simp only [unescR_nil, Option.some.injEq] at h
              rw [← h]; exact ho
            | succ n ih =>
              intro l out o hl hb ho h
              cases l with
              | nil =>
                simp only [unescR_nil, Option.some.injEq] at h
                rw [← h]; exact ho
              | cons c r =>
                have hap : ∀ v, 0 ≤ v ∧ v ≤ 255 → Byt (out ++ [v]) := fun v hv x hx => by
                  rcases List.mem_append.1 hx with hx | hx
                  · exact ho x hx
                  · simp at hx; rw [hx]; exact hv
                rw [unescR_cons] at h
                by_cases h92 : c = 92
                · rw [if_pos h92] at h
                  cases r with
                  | nil => simp at h
                  | cons a r => cases r with
                    | nil => simp at h
                    | cons b r =>
                      simp only [] at h
                      by_cases hx : nibL a < 0 ∨ nibL b < 0
                      · rw [if_pos hx] at h; cases h
                      · rw [if_neg hx] at h
                        have ra := nibL_range a
                        have rb := nibL_range b
                        exact ih r _ o (by simp at hl; omega) hb.tail.tail.tail (hap _ (by omega)) h
                · rw [if_neg h92] at h
                  exact ih r _ o (by simp at hl; omega) hb.tail (hap c hb.head) h
          exact h l.length l [] o (Nat.le_refl _) hb (by intro x hx; simp at hx) hr
        rw [resc_eq o hbo] at he
        rw [e2 he] at hu
        cases hu
      · rw [if_neg he]

/-! ### Fold -/
theorem lowC_32 (c : Int) (h : c ≠ 32) : lowC c ≠ 32 := by unfold lowC; split <;> omega
theorem lowC_low (c : Int) : lowC (lowC c) = lowC c := by unfold lowC; repeat' split <;> omega
theorem lastI_snoc (l : List Int) (x : Int) : lastI (l ++ [x]) = x := by simp [lastI]
structure FInv (st : List Int × Bool) (r : List Int) : Prop where
  gap : st.2 = true → 0 < st.1.length
  eq : r = if st.2 then st.1 ++ [32] else st.1
  last : 0 < st.1.length → lastI st.1 ≠ 32
  again : st.1.foldl foldStep ([], false) = (st.1, false)
theorem foldStep_ne (st : List Int × Bool) (c : Int) (h : c ≠ 32) : foldStep st c = ((if st.2 then st.1 ++ [32] else st.1) ++ [lowC c], false) := by
  unfold foldStep; rw [if_neg h]; rfl
theorem FInv.step {st : List Int × Bool} {r : List Int} (h : FInv st r) (c : Int) : FInv (foldStep st c) (rfoldStep r (lowC c)) := by
  obtain ⟨out, gap⟩ := st
  obtain ⟨h1, h2, h3, h4⟩ := h
  simp only at h1 h2 h3 h4
  by_cases hc : c = 32
  · subst hc
    have e : foldStep (out, gap) 32 = (out, decide (0 < out.length)) := by unfold foldStep; rfl
    have el : lowC 32 = 32 := by decide
    rw [e, el]
    refine ⟨by simp, ?_, h3, h4⟩
    simp only [decide_eq_true_iff]
    unfold rfoldStep
    cases gap with
    | true =>
      have h0 := h1 rfl
      simp only [if_true] at h2
      subst h2
      rw [lastI_snoc, if_pos h0, if_neg (by rintro (h | h); exact h rfl; exact h.2 rfl)]
    | false =>
      simp only [Bool.false_eq_true, if_false] at h2
      subst h2
      by_cases h0 : 0 < r.length
      · rw [if_pos h0, if_pos (.inr ⟨h0, h3 h0⟩)]
      · rw [if_neg h0, if_neg (by rintro (h | h); exact h rfl; exact h0 h.1)]
  · rw [foldStep_ne _ _ hc]
    have hl := lowC_32 c hc
    simp only at *
    have hr : rfoldStep r (lowC c) = r ++ [lowC c] := by unfold rfoldStep; rw [if_pos (.inl hl)]
    rw [hr]
    refine ⟨by simp, by simp only [Bool.false_eq_true, if_false]; rw [h2], fun _ => by rw [lastI_snoc]; exact hl, ?_⟩
    simp only
    rw [List.foldl_append]
    have hs : ∀ g : Bool, foldStep (out, g) (lowC c) = ((if g then out ++ [32] else out) ++ [lowC c], false) := fun g => by
      rw [foldStep_ne _ _ hl, lowC_low]
    cases gap with
    | true =>
      have h0 := h1 rfl
      simp only [if_true]
      rw [List.foldl_append, h4]
      have e : foldStep (out, false) 32 = (out, true) := by unfold foldStep; simp; exact h0
      simp only [List.foldl_cons, List.foldl_nil]
      rw [e, hs]; rfl
    | false =>
      simp only [Bool.false_eq_true, if_false]
      rw [h4]
      simp only [List.foldl_cons, List.foldl_nil]
      rw [hs]; rfl
theorem FInv.run : ∀ (l : List Int) (st : List Int × Bool) (r : List Int), FInv st r → FInv (l.foldl foldStep st) ((lowL l).foldl rfoldStep r)
  | [], _, _, h => h
  | c :: l, st, r, h => FInv.run l _ _ (h.step c)
theorem FInv.start : FInv ([], false) [] := ⟨by simp, rfl, by simp, rfl⟩
theorem fold_eq (l : List Int) : rfoldL l = foldL l := by
  have h := FInv.run l _ _ FInv.start
  unfold rfoldL foldL
  generalize l.foldl foldStep ([], false) = st at *
  generalize (lowL l).foldl rfoldStep [] = r at *
  obtain ⟨out, gap⟩ := st
  obtain ⟨h1, h2, h3, _⟩ := h
  simp only at *
  cases gap with
  | true =>
    simp only [if_true] at h2
    subst h2
    unfold rtrim
    rw [lastI_snoc, if_pos ⟨by simp, rfl⟩]
    simp
  | false =>
    simp only [Bool.false_eq_true, if_false] at h2
    subst h2
    unfold rtrim
    rw [if_neg (fun h => h3 h.1 h.2)]
theorem fold_fold (l : List Int) : foldL (foldL l) = foldL l := by
  have h := (FInv.run l _ _ FInv.start).again
  show ((foldL l).foldl foldStep ([], false)).1 = _
  unfold foldL
  rw [h]
theorem foldL_byt (l : List Int) (h : Byt l) : Byt (foldL l) := by
  have hr : ∀ (l : List Int) (st : List Int × Bool), Byt l → Byt st.1 → Byt (l.foldl foldStep st).1 := by
    intro l
    induction l with
    | nil => intro st _ h; exact h
    | cons c l ih =>
      intro st hl hs
      refine ih _ hl.tail ?_
      have hc := hl.head
      unfold foldStep
      split
      · exact hs
      · intro x hx
        rcases List.mem_append.1 hx with hx | hx
        · split at hx
          · rcases List.mem_append.1 hx with hx | hx
            · exact hs x hx
            · simp at hx; omega
          · exact hs x hx
        · simp at hx
          split at hx <;> omega
  exact hr l _ h (by intro x hx; simp at hx)
theorem rfoldS_eq (s : ByteArray) : rfoldS s = foldS s := by unfold rfoldS foldS; rw [fold_eq]
theorem bytes_foldS (s : ByteArray) : bytesOf (foldS s) = foldL (bytesOf s) := bytes_str _ (foldL_byt _ (bytesOf_byt s))
theorem foldS_foldS (s : ByteArray) : foldS (foldS s) = foldS s := by
  show strOfNums (foldL (bytesOf (foldS s))) = _
  rw [bytes_foldS, fold_fold]; rfl
end Go.Proofs.Ytoccblnjalpcdaa
