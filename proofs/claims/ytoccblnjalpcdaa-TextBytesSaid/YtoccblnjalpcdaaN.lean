/- The contract of the law's own sanity check: it returns true. -/
import Derived.Test.YtoccblnjalpcdaaM
namespace Go.Proofs.Ytoccblnjalpcdaa
open Go.RowKit Go.Proofs.YtoccblnjalpcdaaW.PrintWords
set_option linter.unusedVariables false
set_option linter.unusedSimpArgs false

theorem fold_ex (w : World) : Calls Try.prog 13 #[.string ⟨#[32, 32, 69, 120, 97, 109, 112, 108, 101, 32, 32, 32, 67, 111, 114, 112, 32]⟩] w fun e w' => e = .returned (.string ⟨#[101, 120, 97, 109, 112, 108, 101, 32, 99, 111, 114, 112]⟩) ∧ Below w.heap.size w w' :=
  (fold_any _ w (by decide)).mono fun e w' h => ⟨h.1.trans (ret_str (by decide +kernel)), h.2⟩
theorem esc_ex (w : World) : Calls Try.prog 17 #[.string ⟨#[97, 44, 98]⟩] w fun e w' => e = .returned (.string ⟨#[97, 92, 50, 99, 98]⟩) ∧ Below w.heap.size w w' :=
  (escape_any _ w (by decide)).mono fun e w' h => ⟨h.1.trans (ret_str (by decide +kernel)), h.2⟩
theorem val_ex1 (w : World) : Calls Try.prog 10 #[.int .i64 12, .string ⟨#[103, 114, 195, 182, 195, 159, 101]⟩] w fun e w' => e = .returned (.bool true) ∧ Below w.heap.size w w' :=
  (valid_any _ _ w (by decide)).mono fun e w' h => ⟨h.1.trans (ret_bool (by decide +kernel)), h.2⟩
theorem val_ex2 (w : World) : Calls Try.prog 10 #[.int .i64 22, .string ⟨#[103, 114, 195, 182, 195, 159, 101]⟩] w fun e w' => e = .returned (.bool false) ∧ Below w.heap.size w w' :=
  (valid_any _ _ w (by decide)).mono fun e w' h => ⟨h.1.trans (ret_bool (by decide +kernel)), h.2⟩

set_option maxHeartbeats 1000000 in
theorem awake_any (w : World) : Calls Try.prog 8 #[] w fun e w' => e = .returned (.bool true) ∧ Below w.heap.size w w' := by
  go_enter Try.func8, Try.ntmps8
  go_wp2_with fail
  refine (fold_ex _).mono ?_
  rintro e w1 ⟨rfl, hb1⟩
  go_wp2_with fail
  refine (esc_ex _).mono ?_
  rintro e w2 ⟨rfl, hb2⟩
  go_wp2_with fail
  refine (val_ex1 _).mono ?_
  rintro e w3 ⟨rfl, hb3⟩
  go_wp2_with fail
  refine (val_ex2 _).mono ?_
  rintro e w4 ⟨rfl, hb4⟩
  go_wp2_with fail
  go_ret
  have s1 := hb1.size
  have s2 := hb2.size
  have s3 := hb3.size
  exact ⟨rfl, hb1.trans ((hb2.mono s1).trans ((hb3.mono (by omega)).trans (hb4.mono (by omega))))⟩
end Go.Proofs.Ytoccblnjalpcdaa
