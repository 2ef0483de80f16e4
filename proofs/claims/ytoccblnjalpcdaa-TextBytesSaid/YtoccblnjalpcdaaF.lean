/- Contracts of the reference's functions on text: Alnum, Among, plain, nibble, Unhex, Hex. -/
import Derived.Test.YtoccblnjalpcdaaE
namespace Go.Proofs.Ytoccblnjalpcdaa
open Go.RowKit Go.Proofs.YtoccblnjalpcdaaW.PrintWords
set_option linter.unusedVariables false
set_option linter.unusedSimpArgs false

theorem alnum_any (c : Int) (w : World) :
    Calls Try.prog 28 #[.int .u8 c] w fun e w' => e = .returned (.bool (letterB c)) ∧ w = w' := by
  by_cases h1 : 97 ≤ c <;> by_cases h2 : c ≤ 122 <;> by_cases h3 : 65 ≤ c <;> by_cases h4 : c ≤ 90 <;> by_cases h5 : 48 ≤ c <;> by_cases h6 : c ≤ 57 <;> first | (exfalso; omega) | skip
  all_goals
    go_enter Try.func28, Try.ntmps28
    go_wp2
    go_ret
    exact ⟨ret_bool (by unfold letterB; first | (symm; rw [decide_eq_true_iff]; omega) | (symm; rw [decide_eq_false_iff_not]; omega) | (simp; omega)), rfl⟩

def amongB (c : Int) (l : List Int) : Bool := l.any fun x => x == c
theorem among_step (c : Int) (s : ByteArray) (k : Nat) (h : k < s.size) : amongB c ((bytesOf s).drop k) = (bt s k == c || amongB c ((bytesOf s).drop (k + 1))) := by
  rw [bytes_drop s k h]; rfl

set_option maxHeartbeats 1000000 in
theorem among_any (c : Int) (s : ByteArray) (w : World) (hs : s.size ≤ 1000000) :
    Calls Try.prog 29 #[.int .u8 c, .string s] w fun e w' => e = .returned (.bool (amongB c (bytesOf s))) ∧ w = w' := by
  generalize hR : amongB c (bytesOf s) = R
  have HR := Lib.hid hR
  clear hR
  go_enter Try.func29, Try.ntmps29
  go_wp2
  go_loop [5] (fun i => ∃ k : Nat, k ≤ s.size ∧ i = .int .i64 k ∧ Hid (amongB c ((bytesOf s).drop k) = R)) (fun i => s.size - (intOf i).toNat)
  case atStart => exact ⟨0, Nat.zero_le _, rfl, HR.out⟩
  case round =>
    obtain ⟨k, hk, rfl, HA⟩ := hrel
    by_cases hlt : k < s.size
    · have hx0 : ((s[k]'hlt).toNat : Int) = bt s k := bt_at s k hlt
      have HS := Lib.hid ((among_step c s k hlt).symm.trans HA.out)
      generalize bt s k = d at *
      by_cases hd : d = c
      · subst hd
        go_wp2
        go_ret
        exact ⟨ret_bool (by rw [← HS.out]; simp), rfl⟩
      · have hd' : (d == c) = false := beq_eq_false_iff_ne.2 hd
        have HS2 : Hid (amongB c ((bytesOf s).drop (k + 1)) = R) := by show _ = _; rw [← HS.out, hd']; rfl
        clear hd
        go_wp2
        go_round
        case rel => exact ⟨k + 1, by omega, by go_num, HS2⟩
        case measure => simp [intOf]; omega
    · have HE : Hid (false = R) := by show _ = _; rw [← HA.out, bytes_drop_end s k (by omega)]; rfl
      go_wp2
      go_ret
      exact ⟨ret_bool HE.out, rfl⟩

def rplainB (c : Int) : Bool := letterB c || amongB c [32, 39, 40, 41, 45, 46, 47, 58, 63, 64, 95]
theorem rplain_any (c : Int) (w : World) :
    Calls Try.prog 32 #[.int .u8 c] w fun e w' => e = .returned (.bool (rplainB c)) ∧ w = w' := by
  unfold rplainB
  generalize hb : letterB c = b
  have Hb := Lib.hid hb
  clear hb
  cases b
  all_goals
    go_enter Try.func32, Try.ntmps32
    go_wp2_with (first | (go_at_call 28; refine (alnum_any _ _).mono ?_; rintro e w' ⟨rfl, rfl⟩; rw [Hb.out]) | (go_at_call 29; refine (among_any _ _ _ (by decide)).mono ?_; rintro e w' ⟨rfl, rfl⟩))
    go_ret
    exact ⟨ret_bool (by first | rfl | (simp [bytesOf]; done)), rfl⟩

def nibL (c : Int) : Int := if 48 ≤ c ∧ c ≤ 57 then c - 48 else if 97 ≤ c ∧ c ≤ 102 then c - 87 else -1
theorem nibble_any (c : Int) (w : World) (h0 : 0 ≤ c) (h1 : c ≤ 255) :
    Calls Try.prog 36 #[.int .u8 c] w fun e w' => e = .returned (.int .i64 (nibL c)) ∧ w = w' := by
  have ri : ∀ {a b : Int}, a = b → Ending.returned (.int .i64 a) = .returned (.int .i64 b) := fun h => by rw [h]
  by_cases h1 : 48 ≤ c <;> by_cases h2 : c ≤ 57 <;> by_cases h3 : 97 ≤ c <;> by_cases h4 : c ≤ 102 <;> first | (exfalso; omega) | skip
  all_goals
    go_enter Try.func36, Try.ntmps36
    go_wp2
    go_ret
    exact ⟨ri (by unfold nibL; first | (rw [if_pos (by omega)]; done) | (rw [if_neg (by omega), if_pos (by omega)]; omega) | (rw [if_neg (by omega), if_neg (by omega)]; done)), rfl⟩
theorem nibL_range (c : Int) : -1 ≤ nibL c ∧ nibL c ≤ 15 := by unfold nibL; split; omega; split <;> omega

end Go.Proofs.Ytoccblnjalpcdaa
