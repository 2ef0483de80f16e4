/- The contracts that the laws meet, with the program and the reference answering alike. -/
import Derived.Test.YtoccblnjalpcdaaU
namespace Go.Proofs.Ytoccblnjalpcdaa
open Go.RowKit Go.Proofs.YtoccblnjalpcdaaW.PrintWords
set_option linter.unusedVariables false
set_option linter.unusedSimpArgs false

def Ans (f : Nat) (args : Array Value) (v : Value) : Prop := ∀ w : World, Calls Try.prog f args w fun e w' => e = .returned v ∧ Below w.heap.size w w'
theorem Ans.at {f : Nat} {args : Array Value} {v : Value} (h : Ans f args v) (w : World) : Calls Try.prog f args w fun e w' => e = .returned v ∧ Below w.heap.size w w' := h w

structure EscFacts (x E A : ByteArray) (ok : Bool) : Prop where
  esc : Ans 17 #[.string x] (.string E)
  resc : Ans 20 #[.string x] (.string E)
  unesc : Ans 18 #[.string x] (.tuple #[.string A, .bool ok])
  runesc : Ans 19 #[.string x] (.tuple #[.string A, .bool ok])
  back : Ans 18 #[.string E] (.tuple #[.string x, .bool true])
  again : ok = true → Ans 17 #[.string A] (.string x)
theorem escL_len (l : List Int) : (escL l).length ≤ 3 * l.length := by
  induction l with
  | nil => simp [escL]
  | cons c l ih =>
    rw [esc_cons, List.length_append, List.length_cons]
    have : (escStep c).length ≤ 3 := by unfold escStep; split <;> simp
    omega
theorem escL_byt (l : List Int) (h : Byt l) : Byt (escL l) := by rw [← resc_eq l h]; exact rescL_byt l h
theorem unesc_len (n : Nat) : ∀ (l out o : List Int), l.length ≤ n → unesc l out = some o → o.length ≤ out.length + l.length := by
  induction n with
  | zero =>
    intro l out o hl h
    obtain rfl : l = [] := List.eq_nil_of_length_eq_zero (by omega)
    rw [unesc_nil, Option.some.injEq] at h; rw [← h]; omega
  | succ n ih =>
    intro l out o hl h
    cases l with
    | nil => rw [unesc_nil, Option.some.injEq] at h; rw [← h]; omega
    | cons c r =>
      rw [unesc_cons] at h
      by_cases hp : plainB c = true
      · rw [if_pos hp] at h
        have := ih r _ o (by simp at hl; omega) h
        simp at this ⊢; omega
      · rw [if_neg hp] at h
        by_cases h92 : c = 92
        · rw [if_pos h92] at h
          cases r with
          | nil => simp at h
          | cons a r => cases r with
            | nil => simp at h
            | cons b r =>
              simp only [] at h
              split at h
              · cases h
              · have := ih r _ o (by simp at hl; omega) h
                simp at this ⊢; omega
        · rw [if_neg h92] at h; cases h
theorem unesc_byt (l o : List Int) (hb : Byt l) (h : unesc l [] = some o) : Byt o := by
  obtain ⟨m, e1, e2, _⟩ := esc_unesc l.length l [] o (Nat.le_refl _) hb h
  simp only [List.nil_append] at e1
  subst e1
  have he := unescRef_eq l hb
  rw [h] at he
  unfold unescRef at he
  -- each element of o is itself a byte of l or a pair of digits: read off the reference's run
  have hr : ∀ (n : Nat) (l out o : List Int), l.length ≤ n → Byt l → Byt out → unesc l out = some o → Byt o := by
    intro n
    induction n with
    | zero =>
      intro l out o hl hb ho h
      obtain rfl : l = [] := List.eq_nil_of_length_eq_zero (by omega)
      rw [unesc_nil, Option.some.injEq] at h
      rw [← h]; exact ho
    | succ n ih =>
      intro l out o hl hb ho h
      cases l with
      | nil =>
        rw [unesc_nil, Option.some.injEq] at h
        rw [← h]; exact ho
      | cons c r =>
        have hap : ∀ v, 0 ≤ v ∧ v ≤ 255 → Byt (out ++ [v]) := fun v hv x hx => by
          rcases List.mem_append.1 hx with hx | hx
          · exact ho x hx
          · simp at hx; rw [hx]; exact hv
        rw [unesc_cons] at h
        by_cases hp : plainB c = true
        · rw [if_pos hp] at h
          exact ih r _ o (by simp at hl; omega) hb.tail (hap c hb.head) h
        · rw [if_neg hp] at h
          by_cases h92 : c = 92
          · rw [if_pos h92] at h
            cases r with
            | nil => simp at h
            | cons a r => cases r with
              | nil => simp at h
              | cons b r =>
                simp only [] at h
                by_cases hx : hexIdx a < 0 ∨ hexIdx b < 0 ∨ plainB (16 * hexIdx a + hexIdx b) = true
                · rw [if_pos hx] at h; cases h
                · rw [if_neg hx] at h
                  have ra := hexIdx_range a
                  have rb := hexIdx_range b
                  exact ih r _ o (by simp at hl; omega) hb.tail.tail.tail (hap _ (by omega)) h
          · rw [if_neg h92] at h; cases h
  exact hr l.length l [] o (Nat.le_refl _) hb (by intro x hx; simp at hx) h
theorem esc_facts (x : ByteArray) (hx : x.size ≤ 400) : ∃ E A ok, EscFacts x E A ok := by
  have hb := bytesOf_byt x
  have hl := bytesOf_length x
  have hE : (strOfNums (escL (bytesOf x))).size ≤ 1200 := by rw [str_size]; have := escL_len (bytesOf x); omega
  refine ⟨strOfNums (escL (bytesOf x)), strOfNums ((unesc (bytesOf x) []).getD []), (unesc (bytesOf x) []).isSome, ⟨?_, ?_, ?_, ?_, ?_, ?_⟩⟩
  · exact fun w => escape_any x w (by omega)
  · intro w; have := resc_any x w (by omega); rwa [resc_eq _ hb] at this
  · exact fun w => unescape_any x w (by omega)
  · intro w; have := unescR_any x w (by omega); rwa [unescRef_eq _ hb] at this
  · intro w
    have := unescape_any (strOfNums (escL (bytesOf x))) w (by omega)
    rw [bytes_str _ (escL_byt _ hb), unesc_esc _ _ hb, List.nil_append] at this
    simp only [unescRes, Option.getD_some, Option.isSome_some, str_bytes] at this
    exact this
  · intro hok w
    obtain ⟨o, ho⟩ := Option.isSome_iff_exists.1 hok
    rw [ho, Option.getD_some]
    have hlen := unesc_len _ _ _ _ (Nat.le_refl _) ho
    have := escape_any (strOfNums o) w (by rw [str_size]; simp at hlen; omega)
    obtain ⟨m, e1, e2, _⟩ := esc_unesc _ _ _ _ (Nat.le_refl _) hb ho
    simp only [List.nil_append] at e1
    subst e1
    rw [bytes_str _ (unesc_byt _ _ hb ho), e2, str_bytes] at this
    exact this

structure FoldFacts (x y F G : ByteArray) (m m2 : Bool) : Prop where
  fold : Ans 13 #[.string x] (.string F)
  rfold : Ans 14 #[.string x] (.string F)
  mt : Ans 15 #[.string x, .string y] (.bool m)
  rmt : Ans 16 #[.string x, .string y] (.bool m)
  again : Ans 13 #[.string F] (.string F)
  self : Ans 15 #[.string x, .string F] (.bool true)
theorem fold_facts (x y : ByteArray) (hx : x.size ≤ 1000) (hy : y.size ≤ 1000) : ∃ F m, FoldFacts x y F F m m := by
  have hF : (foldS x).size ≤ 1000000 := by
    have hl : ∀ (l : List Int) (st : List Int × Bool), (l.foldl foldStep st).1.length ≤ st.1.length + 2 * l.length := by
      intro l
      induction l with
      | nil => intro st; simp
      | cons c l ih =>
        intro st
        have := ih (foldStep st c)
        have h2 := foldStep_len st c
        simp only [List.foldl_cons, List.length_cons]
        omega
    have := hl (bytesOf x) ([], false)
    unfold foldS
    rw [str_size]
    unfold foldL
    rw [bytesOf_length] at this
    simp at this; omega
  refine ⟨foldS x, decide (foldS x = foldS y), ⟨?_, ?_, ?_, ?_, ?_, ?_⟩⟩
  · exact fun w => fold_any x w (by omega)
  · intro w; have := rfold_any x w (by omega); rwa [fold_eq] at this
  · exact fun w => match_any x y w (by omega) (by omega)
  · intro w; have := rmatch_any x y w (by omega) (by omega); rwa [rfoldS_eq, rfoldS_eq] at this
  · intro w
    have := fold_any (foldS x) w hF
    rwa [show strOfNums (foldL (bytesOf (foldS x))) = foldS x from foldS_foldS x] at this
  · intro w
    have := match_any x (foldS x) w (by omega) hF
    rwa [foldS_foldS, decide_eq_true rfl] at this
theorem valid_facts (k : Int) (x : ByteArray) (hx : x.size ≤ 1000) : ∃ b, Ans 10 #[.int .i64 k, .string x] (.bool b) ∧ Ans 11 #[.int .i64 k, .string x] (.bool b) := by
  refine ⟨validB k x, fun w => valid_any k x w (by omega), fun w => ?_⟩
  refine (rvalid_any k x w (by omega)).mono fun e w' h => ?_
  obtain ⟨rfl, rfl⟩ := h
  rw [valid_eq]
  exact ⟨rfl, Below.refl _ _⟩
theorem awake_ans : Ans 8 #[] (.bool true) := fun w => awake_any w
end Go.Proofs.Ytoccblnjalpcdaa
