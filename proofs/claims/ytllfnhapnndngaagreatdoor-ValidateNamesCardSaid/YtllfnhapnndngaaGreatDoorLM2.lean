/- ValidateNames gives true at every input. -/
import Derived.Test.YtllfnhapnndngaaGreatDoorLM1a
import Derived.Test.YtllfnhapnndngaaGreatDoorLM1b
import Derived.Test.YtllfnhapnndngaaGreatDoorLM1c
import Derived.Test.YtllfnhapnndngaaGreatDoorLM1d
import Derived.Test.YtllfnhapnndngaaGreatDoorLM1e
import Derived.Test.YtllfnhapnndngaaGreatDoorLM1f
import Derived.Test.YtllfnhapnndngaaGreatDoorLM1g
import Derived.Test.YtllfnhapnndngaaGreatDoorLM1h
namespace Go.Proofs.YtllfnhapnndngaaGreatDoor.E
open Go Go.Proofs
set_option maxRecDepth 1000000
theorem jnM_0_0 (x0 : Int) (x1 : Int) (b2 : Bool) (b3 : Bool) : outM (cvM restM (((srM0 x0 x1 b2 b3).set 12 (.int .i64 0)).set 13 (.int .i64 0)) (shM0 x0 x1 b2 b3)) = true := by
  cases b2 <;> cases b3
  · exact csM_0_0_f_f x0 x1
  · exact csM_0_0_f_t x0 x1
  · exact csM_0_0_t_f x0 x1
  · exact csM_0_0_t_t x0 x1
theorem jnM_0_1 (x0 : Int) (x1 : Int) (b2 : Bool) (b3 : Bool) : outM (cvM restM (((srM0 x0 x1 b2 b3).set 12 (.int .i64 0)).set 13 (.int .i64 1)) (shM0 x0 x1 b2 b3)) = true := by
  cases b2 <;> cases b3
  · exact csM_0_1_f_f x0 x1
  · exact csM_0_1_f_t x0 x1
  · exact csM_0_1_t_f x0 x1
  · exact csM_0_1_t_t x0 x1
theorem jnM_0_2 (x0 : Int) (x1 : Int) (b2 : Bool) (b3 : Bool) : outM (cvM restM (((srM0 x0 x1 b2 b3).set 12 (.int .i64 0)).set 13 (.int .i64 2)) (shM0 x0 x1 b2 b3)) = true := by
  cases b2 <;> cases b3
  · exact csM_0_2_f_f x0 x1
  · exact csM_0_2_f_t x0 x1
  · exact csM_0_2_t_f x0 x1
  · exact csM_0_2_t_t x0 x1
theorem jnM_0_3 (x0 : Int) (x1 : Int) (b2 : Bool) (b3 : Bool) : outM (cvM restM (((srM0 x0 x1 b2 b3).set 12 (.int .i64 0)).set 13 (.int .i64 3)) (shM0 x0 x1 b2 b3)) = true := by
  cases b2 <;> cases b3
  · exact csM_0_3_f_f x0 x1
  · exact csM_0_3_f_t x0 x1
  · exact csM_0_3_t_f x0 x1
  · exact csM_0_3_t_t x0 x1
theorem jnM_0_4 (x0 : Int) (x1 : Int) (b2 : Bool) (b3 : Bool) : outM (cvM restM (((srM0 x0 x1 b2 b3).set 12 (.int .i64 0)).set 13 (.int .i64 4)) (shM0 x0 x1 b2 b3)) = true := by
  cases b2 <;> cases b3
  · exact csM_0_4_f_f x0 x1
  · exact csM_0_4_f_t x0 x1
  · exact csM_0_4_t_f x0 x1
  · exact csM_0_4_t_t x0 x1
theorem jnM_1_0 (x0 : Int) (x1 : Int) (b2 : Bool) (b3 : Bool) : outM (cvM restM (((srM0 x0 x1 b2 b3).set 12 (.int .i64 1)).set 13 (.int .i64 0)) (shM0 x0 x1 b2 b3)) = true := by
  cases b2 <;> cases b3
  · exact csM_1_0_f_f x0 x1
  · exact csM_1_0_f_t x0 x1
  · exact csM_1_0_t_f x0 x1
  · exact csM_1_0_t_t x0 x1
theorem jnM_1_1 (x0 : Int) (x1 : Int) (b2 : Bool) (b3 : Bool) : outM (cvM restM (((srM0 x0 x1 b2 b3).set 12 (.int .i64 1)).set 13 (.int .i64 1)) (shM0 x0 x1 b2 b3)) = true := by
  cases b2 <;> cases b3
  · exact csM_1_1_f_f x0 x1
  · exact csM_1_1_f_t x0 x1
  · exact csM_1_1_t_f x0 x1
  · exact csM_1_1_t_t x0 x1
theorem jnM_1_2 (x0 : Int) (x1 : Int) (b2 : Bool) (b3 : Bool) : outM (cvM restM (((srM0 x0 x1 b2 b3).set 12 (.int .i64 1)).set 13 (.int .i64 2)) (shM0 x0 x1 b2 b3)) = true := by
  cases b2 <;> cases b3
  · exact csM_1_2_f_f x0 x1
  · exact csM_1_2_f_t x0 x1
  · exact csM_1_2_t_f x0 x1
  · exact csM_1_2_t_t x0 x1
theorem jnM_1_3 (x0 : Int) (x1 : Int) (b2 : Bool) (b3 : Bool) : outM (cvM restM (((srM0 x0 x1 b2 b3).set 12 (.int .i64 1)).set 13 (.int .i64 3)) (shM0 x0 x1 b2 b3)) = true := by
  cases b2 <;> cases b3
  · exact csM_1_3_f_f x0 x1
  · exact csM_1_3_f_t x0 x1
  · exact csM_1_3_t_f x0 x1
  · exact csM_1_3_t_t x0 x1
theorem jnM_1_4 (x0 : Int) (x1 : Int) (b2 : Bool) (b3 : Bool) : outM (cvM restM (((srM0 x0 x1 b2 b3).set 12 (.int .i64 1)).set 13 (.int .i64 4)) (shM0 x0 x1 b2 b3)) = true := by
  cases b2 <;> cases b3
  · exact csM_1_4_f_f x0 x1
  · exact csM_1_4_f_t x0 x1
  · exact csM_1_4_t_f x0 x1
  · exact csM_1_4_t_t x0 x1
theorem jnM_2_0 (x0 : Int) (x1 : Int) (b2 : Bool) (b3 : Bool) : outM (cvM restM (((srM0 x0 x1 b2 b3).set 12 (.int .i64 2)).set 13 (.int .i64 0)) (shM0 x0 x1 b2 b3)) = true := by
  cases b2 <;> cases b3
  · exact csM_2_0_f_f x0 x1
  · exact csM_2_0_f_t x0 x1
  · exact csM_2_0_t_f x0 x1
  · exact csM_2_0_t_t x0 x1
theorem jnM_2_1 (x0 : Int) (x1 : Int) (b2 : Bool) (b3 : Bool) : outM (cvM restM (((srM0 x0 x1 b2 b3).set 12 (.int .i64 2)).set 13 (.int .i64 1)) (shM0 x0 x1 b2 b3)) = true := by
  cases b2 <;> cases b3
  · exact csM_2_1_f_f x0 x1
  · exact csM_2_1_f_t x0 x1
  · exact csM_2_1_t_f x0 x1
  · exact csM_2_1_t_t x0 x1
theorem jnM_2_2 (x0 : Int) (x1 : Int) (b2 : Bool) (b3 : Bool) : outM (cvM restM (((srM0 x0 x1 b2 b3).set 12 (.int .i64 2)).set 13 (.int .i64 2)) (shM0 x0 x1 b2 b3)) = true := by
  cases b2 <;> cases b3
  · exact csM_2_2_f_f x0 x1
  · exact csM_2_2_f_t x0 x1
  · exact csM_2_2_t_f x0 x1
  · exact csM_2_2_t_t x0 x1
theorem jnM_2_3 (x0 : Int) (x1 : Int) (b2 : Bool) (b3 : Bool) : outM (cvM restM (((srM0 x0 x1 b2 b3).set 12 (.int .i64 2)).set 13 (.int .i64 3)) (shM0 x0 x1 b2 b3)) = true := by
  cases b2 <;> cases b3
  · exact csM_2_3_f_f x0 x1
  · exact csM_2_3_f_t x0 x1
  · exact csM_2_3_t_f x0 x1
  · exact csM_2_3_t_t x0 x1
theorem jnM_2_4 (x0 : Int) (x1 : Int) (b2 : Bool) (b3 : Bool) : outM (cvM restM (((srM0 x0 x1 b2 b3).set 12 (.int .i64 2)).set 13 (.int .i64 4)) (shM0 x0 x1 b2 b3)) = true := by
  cases b2 <;> cases b3
  · exact csM_2_4_f_f x0 x1
  · exact csM_2_4_f_t x0 x1
  · exact csM_2_4_t_f x0 x1
  · exact csM_2_4_t_t x0 x1
theorem jnM_3_0 (x0 : Int) (x1 : Int) (b2 : Bool) (b3 : Bool) : outM (cvM restM (((srM0 x0 x1 b2 b3).set 12 (.int .i64 3)).set 13 (.int .i64 0)) (shM0 x0 x1 b2 b3)) = true := by
  cases b2 <;> cases b3
  · exact csM_3_0_f_f x0 x1
  · exact csM_3_0_f_t x0 x1
  · exact csM_3_0_t_f x0 x1
  · exact csM_3_0_t_t x0 x1
theorem jnM_3_1 (x0 : Int) (x1 : Int) (b2 : Bool) (b3 : Bool) : outM (cvM restM (((srM0 x0 x1 b2 b3).set 12 (.int .i64 3)).set 13 (.int .i64 1)) (shM0 x0 x1 b2 b3)) = true := by
  cases b2 <;> cases b3
  · exact csM_3_1_f_f x0 x1
  · exact csM_3_1_f_t x0 x1
  · exact csM_3_1_t_f x0 x1
  · exact csM_3_1_t_t x0 x1
theorem jnM_3_2 (x0 : Int) (x1 : Int) (b2 : Bool) (b3 : Bool) : outM (cvM restM (((srM0 x0 x1 b2 b3).set 12 (.int .i64 3)).set 13 (.int .i64 2)) (shM0 x0 x1 b2 b3)) = true := by
  cases b2 <;> cases b3
  · exact csM_3_2_f_f x0 x1
  · exact csM_3_2_f_t x0 x1
  · exact csM_3_2_t_f x0 x1
  · exact csM_3_2_t_t x0 x1
theorem jnM_3_3 (x0 : Int) (x1 : Int) (b2 : Bool) (b3 : Bool) : outM (cvM restM (((srM0 x0 x1 b2 b3).set 12 (.int .i64 3)).set 13 (.int .i64 3)) (shM0 x0 x1 b2 b3)) = true := by
  cases b2 <;> cases b3
  · exact csM_3_3_f_f x0 x1
  · exact csM_3_3_f_t x0 x1
  · exact csM_3_3_t_f x0 x1
  · exact csM_3_3_t_t x0 x1
theorem jnM_3_4 (x0 : Int) (x1 : Int) (b2 : Bool) (b3 : Bool) : outM (cvM restM (((srM0 x0 x1 b2 b3).set 12 (.int .i64 3)).set 13 (.int .i64 4)) (shM0 x0 x1 b2 b3)) = true := by
  cases b2 <;> cases b3
  · exact csM_3_4_f_f x0 x1
  · exact csM_3_4_f_t x0 x1
  · exact csM_3_4_t_f x0 x1
  · exact csM_3_4_t_t x0 x1
theorem jnM_4_0 (x0 : Int) (x1 : Int) (b2 : Bool) (b3 : Bool) : outM (cvM restM (((srM0 x0 x1 b2 b3).set 12 (.int .i64 4)).set 13 (.int .i64 0)) (shM0 x0 x1 b2 b3)) = true := by
  cases b2 <;> cases b3
  · exact csM_4_0_f_f x0 x1
  · exact csM_4_0_f_t x0 x1
  · exact csM_4_0_t_f x0 x1
  · exact csM_4_0_t_t x0 x1
theorem jnM_4_1 (x0 : Int) (x1 : Int) (b2 : Bool) (b3 : Bool) : outM (cvM restM (((srM0 x0 x1 b2 b3).set 12 (.int .i64 4)).set 13 (.int .i64 1)) (shM0 x0 x1 b2 b3)) = true := by
  cases b2 <;> cases b3
  · exact csM_4_1_f_f x0 x1
  · exact csM_4_1_f_t x0 x1
  · exact csM_4_1_t_f x0 x1
  · exact csM_4_1_t_t x0 x1
theorem jnM_4_2 (x0 : Int) (x1 : Int) (b2 : Bool) (b3 : Bool) : outM (cvM restM (((srM0 x0 x1 b2 b3).set 12 (.int .i64 4)).set 13 (.int .i64 2)) (shM0 x0 x1 b2 b3)) = true := by
  cases b2 <;> cases b3
  · exact csM_4_2_f_f x0 x1
  · exact csM_4_2_f_t x0 x1
  · exact csM_4_2_t_f x0 x1
  · exact csM_4_2_t_t x0 x1
theorem jnM_4_3 (x0 : Int) (x1 : Int) (b2 : Bool) (b3 : Bool) : outM (cvM restM (((srM0 x0 x1 b2 b3).set 12 (.int .i64 4)).set 13 (.int .i64 3)) (shM0 x0 x1 b2 b3)) = true := by
  cases b2 <;> cases b3
  · exact csM_4_3_f_f x0 x1
  · exact csM_4_3_f_t x0 x1
  · exact csM_4_3_t_f x0 x1
  · exact csM_4_3_t_t x0 x1
theorem jnM_4_4 (x0 : Int) (x1 : Int) (b2 : Bool) (b3 : Bool) : outM (cvM restM (((srM0 x0 x1 b2 b3).set 12 (.int .i64 4)).set 13 (.int .i64 4)) (shM0 x0 x1 b2 b3)) = true := by
  cases b2 <;> cases b3
  · exact csM_4_4_f_f x0 x1
  · exact csM_4_4_f_t x0 x1
  · exact csM_4_4_t_f x0 x1
  · exact csM_4_4_t_t x0 x1
theorem upM0 (x0 : Int) (x1 : Int) (b2 : Bool) (b3 : Bool) : outM (cvM (seqsC psM0 (restM)) (Tr.leaf.puts 0 [.int .i64 x0, .int .i64 x1, .bool b2, .bool b3]) AH.none) = true := by
  rw [runsC_ok cvM_seq]
  rw [show runsC cvM psM0 (Tr.leaf.puts 0 [.int .i64 x0, .int .i64 x1, .bool b2, .bool b3]) AH.none = stM0 x0 x1 b2 b3 from rfl, stM0_eq, thenW_normal]
  have h0 := zMa_rg x0 x1 b2 b3
  rcases (by omega : zMa x0 x1 b2 b3 = 0 ∨ zMa x0 x1 b2 b3 = 1 ∨ zMa x0 x1 b2 b3 = 2 ∨ zMa x0 x1 b2 b3 = 3 ∨ zMa x0 x1 b2 b3 = 4) with e0 | e0 | e0 | e0 | e0
  · rw [e0]
    have h1 := zMb_rg x0 x1 b2 b3
    rcases (by omega : zMb x0 x1 b2 b3 = 0 ∨ zMb x0 x1 b2 b3 = 1 ∨ zMb x0 x1 b2 b3 = 2 ∨ zMb x0 x1 b2 b3 = 3 ∨ zMb x0 x1 b2 b3 = 4) with e1 | e1 | e1 | e1 | e1
    · rw [e1]
      exact jnM_0_0 x0 x1 b2 b3
    · rw [e1]
      exact jnM_0_1 x0 x1 b2 b3
    · rw [e1]
      exact jnM_0_2 x0 x1 b2 b3
    · rw [e1]
      exact jnM_0_3 x0 x1 b2 b3
    · rw [e1]
      exact jnM_0_4 x0 x1 b2 b3
  · rw [e0]
    have h1 := zMb_rg x0 x1 b2 b3
    rcases (by omega : zMb x0 x1 b2 b3 = 0 ∨ zMb x0 x1 b2 b3 = 1 ∨ zMb x0 x1 b2 b3 = 2 ∨ zMb x0 x1 b2 b3 = 3 ∨ zMb x0 x1 b2 b3 = 4) with e1 | e1 | e1 | e1 | e1
    · rw [e1]
      exact jnM_1_0 x0 x1 b2 b3
    · rw [e1]
      exact jnM_1_1 x0 x1 b2 b3
    · rw [e1]
      exact jnM_1_2 x0 x1 b2 b3
    · rw [e1]
      exact jnM_1_3 x0 x1 b2 b3
    · rw [e1]
      exact jnM_1_4 x0 x1 b2 b3
  · rw [e0]
    have h1 := zMb_rg x0 x1 b2 b3
    rcases (by omega : zMb x0 x1 b2 b3 = 0 ∨ zMb x0 x1 b2 b3 = 1 ∨ zMb x0 x1 b2 b3 = 2 ∨ zMb x0 x1 b2 b3 = 3 ∨ zMb x0 x1 b2 b3 = 4) with e1 | e1 | e1 | e1 | e1
    · rw [e1]
      exact jnM_2_0 x0 x1 b2 b3
    · rw [e1]
      exact jnM_2_1 x0 x1 b2 b3
    · rw [e1]
      exact jnM_2_2 x0 x1 b2 b3
    · rw [e1]
      exact jnM_2_3 x0 x1 b2 b3
    · rw [e1]
      exact jnM_2_4 x0 x1 b2 b3
  · rw [e0]
    have h1 := zMb_rg x0 x1 b2 b3
    rcases (by omega : zMb x0 x1 b2 b3 = 0 ∨ zMb x0 x1 b2 b3 = 1 ∨ zMb x0 x1 b2 b3 = 2 ∨ zMb x0 x1 b2 b3 = 3 ∨ zMb x0 x1 b2 b3 = 4) with e1 | e1 | e1 | e1 | e1
    · rw [e1]
      exact jnM_3_0 x0 x1 b2 b3
    · rw [e1]
      exact jnM_3_1 x0 x1 b2 b3
    · rw [e1]
      exact jnM_3_2 x0 x1 b2 b3
    · rw [e1]
      exact jnM_3_3 x0 x1 b2 b3
    · rw [e1]
      exact jnM_3_4 x0 x1 b2 b3
  · rw [e0]
    have h1 := zMb_rg x0 x1 b2 b3
    rcases (by omega : zMb x0 x1 b2 b3 = 0 ∨ zMb x0 x1 b2 b3 = 1 ∨ zMb x0 x1 b2 b3 = 2 ∨ zMb x0 x1 b2 b3 = 3 ∨ zMb x0 x1 b2 b3 = 4) with e1 | e1 | e1 | e1 | e1
    · rw [e1]
      exact jnM_4_0 x0 x1 b2 b3
    · rw [e1]
      exact jnM_4_1 x0 x1 b2 b3
    · rw [e1]
      exact jnM_4_2 x0 x1 b2 b3
    · rw [e1]
      exact jnM_4_3 x0 x1 b2 b3
    · rw [e1]
      exact jnM_4_4 x0 x1 b2 b3
theorem wholeM (x0 : Int) (x1 : Int) (b2 : Bool) (b3 : Bool) : outM (cvM fdM.code (Tr.leaf.puts 0 [.int .i64 x0, .int .i64 x1, .bool b2, .bool b3]) AH.none) = true := by rw [codeM_eq]; exact upM0 x0 x1 b2 b3
theorem runM (x0 : Int) (x1 : Int) (b2 : Bool) (b3 : Bool) : ∃ H', runF hooksM 60 5 [.int .i64 x0, .int .i64 x1, .bool b2, .bool b3] AH.none = some (.bool true, H') := by
  have hp := wholeM x0 x1 b2 b3
  rw [runF_succ, hooksM_none, fdM_eq]
  show ∃ H', callE env (runF hooksM 59) (fun nt => drawE env (runF hooksM 59) nt) 100000 fdM [.int .i64 x0, .int .i64 x1, .bool b2, .bool b3] AH.none = some (.bool true, H')
  have e : callE env (runF hooksM 59) (fun nt => drawE env (runF hooksM 59) nt) 100000 fdM [.int .i64 x0, .int .i64 x1, .bool b2, .bool b3] AH.none = bif Nat.ble 4 fdM.nt then
      (cvM fdM.code (Tr.leaf.puts 0 [.int .i64 x0, .int .i64 x1, .bool b2, .bool b3]) AH.none).bind fun p => match p.1 with
        | .exit _ => none
        | _ => (resL env.T p.2.2 p.2.1 fdM.res).bind fun l => some (resV l, p.2.2)
      else none := rfl
  rw [e, ntM_ok]
  simp only [cond_true]
  unfold outM at hp
  split at hp
  · rename_i ex r H hx
    rw [hx]
    simp only [Option.bind_some]
    cases ex with
    | exit id => cases hp
    | normal =>
      dsimp only at hp ⊢
      split at hp
      · rename_i hr; rw [hr]; exact ⟨H, rfl⟩
      · cases hp
    | ret =>
      dsimp only at hp ⊢
      split at hp
      · rename_i hr; rw [hr]; exact ⟨H, rfl⟩
      · cases hp
  · cases hp
theorem walkM (x0 : Int) (x1 : Int) (b2 : Bool) (b3 : Bool) (w : World) :
    Calls Tryz.prog 5 #[.int .i64 x0, .int .i64 x1, .bool b2, .bool b3] w fun e w' => e = .returned (.bool true) ∧ w.keptBut w' (fun _ => False) := by
  obtain ⟨H', h⟩ := runM x0 x1 b2 b3
  exact walk_of hooksM_ok hooksM_log h w (.cons _ _ _ _ (.int _ _) (.cons _ _ _ _ (.int _ _) (.cons _ _ _ _ (.bool _) (.cons _ _ _ _ (.bool _) .nil))))
end Go.Proofs.YtllfnhapnndngaaGreatDoor.E
