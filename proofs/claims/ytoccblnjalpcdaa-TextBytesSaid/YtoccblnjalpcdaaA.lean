/- Contracts of the small functions of package text. -/
import Derived.Test.YtoccblnjalpcdaaProg
import Derived.Test.YtoccblnjalpcdaaShelf
import Derived.WalkKit
import Derived.KernelRfl
import Derived.RowKit3
import Derived.Deep.LoopGhost
import Derived.Deep.QuietTactic
import Derived.BigQuiet
import Derived.Lib.Hide
namespace Go.Proofs.Ytoccblnjalpcdaa
open Go.RowKit
set_option linter.unusedVariables false
set_option linter.unusedSimpArgs false

theorem ret_bool {a b : Bool} (h : a = b) : Ending.returned (.bool a) = .returned (.bool b) := by rw [h]

def letterB (c : Int) : Bool := decide ((97 ≤ c ∧ c ≤ 122) ∨ (65 ≤ c ∧ c ≤ 90) ∨ (48 ≤ c ∧ c ≤ 57))

theorem letter_any (c : Int) (w : World) :
    Calls Try.prog 24 #[.int .u8 c] w fun e w' => e = .returned (.bool (letterB c)) ∧ w = w' := by
  by_cases h1 : 97 ≤ c <;> by_cases h2 : c ≤ 122 <;> by_cases h3 : 65 ≤ c <;> by_cases h4 : c ≤ 90 <;> by_cases h5 : 48 ≤ c <;> by_cases h6 : c ≤ 57 <;> first | (exfalso; omega) | skip
  all_goals
    go_enter Try.func24, Try.ntmps24
    go_wp2
    go_ret
    exact ⟨ret_bool (by unfold letterB; first | (symm; rw [decide_eq_true_iff]; omega) | (symm; rw [decide_eq_false_iff_not]; omega) | (simp; omega)), rfl⟩

def plainB (c : Int) : Bool := letterB c || decide (0 ≤ Lib.indexByte [32, 39, 40, 41, 45, 46, 47, 58, 63, 64, 95] c.toNat.toUInt8)
def printB (c : Int) : Bool := letterB c || decide (0 ≤ Lib.indexByte [32, 39, 40, 41, 43, 44, 45, 46, 47, 58, 61, 63] c.toNat.toUInt8)

theorem plain_any (c : Int) (w : World) :
    Calls Try.prog 30 #[.int .u8 c] w fun e w' => e = .returned (.bool (plainB c)) ∧ w = w' := by
  unfold plainB
  generalize hb : letterB c = b
  have Hb := Lib.hid hb
  clear hb
  cases b
  all_goals
    go_enter Try.func30, Try.ntmps30
    go_wp2_with (first | (go_at_call 24; refine (letter_any _ _).mono ?_; rintro e w' ⟨rfl, rfl⟩; rw [Hb.out]) | (go_at_call 25; refine (Try.strings_IndexByte _ _ _).mono ?_; rintro e w' ⟨rfl, rfl⟩))
    go_ret
    exact ⟨ret_bool (by simp), rfl⟩

theorem print_any (c : Int) (w : World) :
    Calls Try.prog 23 #[.int .u8 c] w fun e w' => e = .returned (.bool (printB c)) ∧ w = w' := by
  unfold printB
  generalize hb : letterB c = b
  have Hb := Lib.hid hb
  clear hb
  cases b
  all_goals
    go_enter Try.func23, Try.ntmps23
    go_wp2_with (first | (go_at_call 24; refine (letter_any _ _).mono ?_; rintro e w' ⟨rfl, rfl⟩; rw [Hb.out]) | (go_at_call 25; refine (Try.strings_IndexByte _ _ _).mono ?_; rintro e w' ⟨rfl, rfl⟩))
    go_ret
    exact ⟨ret_bool (by simp), rfl⟩

def ia5B (c : Int) : Bool := decide (32 ≤ c ∧ c ≤ 126)
theorem ia5_any (c : Int) (w : World) :
    Calls Try.prog 26 #[.int .u8 c] w fun e w' => e = .returned (.bool (ia5B c)) ∧ w = w' := by
  by_cases h1 : 32 ≤ c
  all_goals
    go_enter Try.func26, Try.ntmps26
    go_wp2
    go_ret
    exact ⟨ret_bool (by unfold ia5B; simp; try omega), rfl⟩

end Go.Proofs.Ytoccblnjalpcdaa
