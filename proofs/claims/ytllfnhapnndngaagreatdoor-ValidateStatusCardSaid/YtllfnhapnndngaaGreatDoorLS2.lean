/- ValidateStatus gives true at every input. -/
import Derived.Test.YtllfnhapnndngaaGreatDoorLS1a
import Derived.Test.YtllfnhapnndngaaGreatDoorLS1b
import Derived.Test.YtllfnhapnndngaaGreatDoorLS1c
import Derived.Test.YtllfnhapnndngaaGreatDoorLS1d
import Derived.Test.YtllfnhapnndngaaGreatDoorLS1e
import Derived.Test.YtllfnhapnndngaaGreatDoorLS1f
import Derived.Test.YtllfnhapnndngaaGreatDoorLS1g
import Derived.Test.YtllfnhapnndngaaGreatDoorLS1h
import Derived.Test.YtllfnhapnndngaaGreatDoorLS1i
import Derived.Test.YtllfnhapnndngaaGreatDoorLS1j
namespace Go.Proofs.YtllfnhapnndngaaGreatDoor.E
open Go Go.Proofs
set_option maxRecDepth 1000000
theorem jnS_0_0 (x0 : Int) (x1 : Int) (b2 : Bool) : outS (cvS restS (((srS0 x0 x1 b2).set 7 (.int .i64 0)).set 8 (.int .i64 0)) (shS0 x0 x1 b2)) = true := by
  cases b2
  · exact csS_0_0_f x0 x1
  · exact csS_0_0_t x0 x1
theorem jnS_0_1 (x0 : Int) (x1 : Int) (b2 : Bool) : outS (cvS restS (((srS0 x0 x1 b2).set 7 (.int .i64 0)).set 8 (.int .i64 1)) (shS0 x0 x1 b2)) = true := by
  cases b2
  · exact csS_0_1_f x0 x1
  · exact csS_0_1_t x0 x1
theorem jnS_0_2 (x0 : Int) (x1 : Int) (b2 : Bool) : outS (cvS restS (((srS0 x0 x1 b2).set 7 (.int .i64 0)).set 8 (.int .i64 2)) (shS0 x0 x1 b2)) = true := by
  cases b2
  · exact csS_0_2_f x0 x1
  · exact csS_0_2_t x0 x1
theorem jnS_0_3 (x0 : Int) (x1 : Int) (b2 : Bool) : outS (cvS restS (((srS0 x0 x1 b2).set 7 (.int .i64 0)).set 8 (.int .i64 3)) (shS0 x0 x1 b2)) = true := by
  cases b2
  · exact csS_0_3_f x0 x1
  · exact csS_0_3_t x0 x1
theorem jnS_1_0 (x0 : Int) (x1 : Int) (b2 : Bool) : outS (cvS restS (((srS0 x0 x1 b2).set 7 (.int .i64 1)).set 8 (.int .i64 0)) (shS0 x0 x1 b2)) = true := by
  cases b2
  · exact csS_1_0_f x0 x1
  · exact csS_1_0_t x0 x1
theorem jnS_1_1 (x0 : Int) (x1 : Int) (b2 : Bool) : outS (cvS restS (((srS0 x0 x1 b2).set 7 (.int .i64 1)).set 8 (.int .i64 1)) (shS0 x0 x1 b2)) = true := by
  cases b2
  · exact csS_1_1_f x0 x1
  · exact csS_1_1_t x0 x1
theorem jnS_1_2 (x0 : Int) (x1 : Int) (b2 : Bool) : outS (cvS restS (((srS0 x0 x1 b2).set 7 (.int .i64 1)).set 8 (.int .i64 2)) (shS0 x0 x1 b2)) = true := by
  cases b2
  · exact csS_1_2_f x0 x1
  · exact csS_1_2_t x0 x1
theorem jnS_1_3 (x0 : Int) (x1 : Int) (b2 : Bool) : outS (cvS restS (((srS0 x0 x1 b2).set 7 (.int .i64 1)).set 8 (.int .i64 3)) (shS0 x0 x1 b2)) = true := by
  cases b2
  · exact csS_1_3_f x0 x1
  · exact csS_1_3_t x0 x1
theorem jnS_2_0 (x0 : Int) (x1 : Int) (b2 : Bool) : outS (cvS restS (((srS0 x0 x1 b2).set 7 (.int .i64 2)).set 8 (.int .i64 0)) (shS0 x0 x1 b2)) = true := by
  cases b2
  · exact csS_2_0_f x0 x1
  · exact csS_2_0_t x0 x1
theorem jnS_2_1 (x0 : Int) (x1 : Int) (b2 : Bool) : outS (cvS restS (((srS0 x0 x1 b2).set 7 (.int .i64 2)).set 8 (.int .i64 1)) (shS0 x0 x1 b2)) = true := by
  cases b2
  · exact csS_2_1_f x0 x1
  · exact csS_2_1_t x0 x1
theorem jnS_2_2 (x0 : Int) (x1 : Int) (b2 : Bool) : outS (cvS restS (((srS0 x0 x1 b2).set 7 (.int .i64 2)).set 8 (.int .i64 2)) (shS0 x0 x1 b2)) = true := by
  cases b2
  · exact csS_2_2_f x0 x1
  · exact csS_2_2_t x0 x1
theorem jnS_2_3 (x0 : Int) (x1 : Int) (b2 : Bool) : outS (cvS restS (((srS0 x0 x1 b2).set 7 (.int .i64 2)).set 8 (.int .i64 3)) (shS0 x0 x1 b2)) = true := by
  cases b2
  · exact csS_2_3_f x0 x1
  · exact csS_2_3_t x0 x1
theorem jnS_3_0 (x0 : Int) (x1 : Int) (b2 : Bool) : outS (cvS restS (((srS0 x0 x1 b2).set 7 (.int .i64 3)).set 8 (.int .i64 0)) (shS0 x0 x1 b2)) = true := by
  cases b2
  · exact csS_3_0_f x0 x1
  · exact csS_3_0_t x0 x1
theorem jnS_3_1 (x0 : Int) (x1 : Int) (b2 : Bool) : outS (cvS restS (((srS0 x0 x1 b2).set 7 (.int .i64 3)).set 8 (.int .i64 1)) (shS0 x0 x1 b2)) = true := by
  cases b2
  · exact csS_3_1_f x0 x1
  · exact csS_3_1_t x0 x1
theorem jnS_3_2 (x0 : Int) (x1 : Int) (b2 : Bool) : outS (cvS restS (((srS0 x0 x1 b2).set 7 (.int .i64 3)).set 8 (.int .i64 2)) (shS0 x0 x1 b2)) = true := by
  cases b2
  · exact csS_3_2_f x0 x1
  · exact csS_3_2_t x0 x1
theorem jnS_3_3 (x0 : Int) (x1 : Int) (b2 : Bool) : outS (cvS restS (((srS0 x0 x1 b2).set 7 (.int .i64 3)).set 8 (.int .i64 3)) (shS0 x0 x1 b2)) = true := by
  cases b2
  · exact csS_3_3_f x0 x1
  · exact csS_3_3_t x0 x1
theorem upS0 (x0 : Int) (x1 : Int) (b2 : Bool) : outS (cvS (seqsC psS0 (restS)) (Tr.leaf.puts 0 [.int .i64 x0, .int .i64 x1, .bool b2]) AH.none) = true := by
  rw [runsC_ok cvS_seq]
  rw [show runsC cvS psS0 (Tr.leaf.puts 0 [.int .i64 x0, .int .i64 x1, .bool b2]) AH.none = stS0 x0 x1 b2 from rfl, stS0_eq, thenW_normal]
  have h0 := zSa_rg x0 x1 b2
  rcases (by omega : zSa x0 x1 b2 = 0 ∨ zSa x0 x1 b2 = 1 ∨ zSa x0 x1 b2 = 2 ∨ zSa x0 x1 b2 = 3) with e0 | e0 | e0 | e0
  · rw [e0]
    have h1 := zSb_rg x0 x1 b2
    rcases (by omega : zSb x0 x1 b2 = 0 ∨ zSb x0 x1 b2 = 1 ∨ zSb x0 x1 b2 = 2 ∨ zSb x0 x1 b2 = 3) with e1 | e1 | e1 | e1
    · rw [e1]
      exact jnS_0_0 x0 x1 b2
    · rw [e1]
      exact jnS_0_1 x0 x1 b2
    · rw [e1]
      exact jnS_0_2 x0 x1 b2
    · rw [e1]
      exact jnS_0_3 x0 x1 b2
  · rw [e0]
    have h1 := zSb_rg x0 x1 b2
    rcases (by omega : zSb x0 x1 b2 = 0 ∨ zSb x0 x1 b2 = 1 ∨ zSb x0 x1 b2 = 2 ∨ zSb x0 x1 b2 = 3) with e1 | e1 | e1 | e1
    · rw [e1]
      exact jnS_1_0 x0 x1 b2
    · rw [e1]
      exact jnS_1_1 x0 x1 b2
    · rw [e1]
      exact jnS_1_2 x0 x1 b2
    · rw [e1]
      exact jnS_1_3 x0 x1 b2
  · rw [e0]
    have h1 := zSb_rg x0 x1 b2
    rcases (by omega : zSb x0 x1 b2 = 0 ∨ zSb x0 x1 b2 = 1 ∨ zSb x0 x1 b2 = 2 ∨ zSb x0 x1 b2 = 3) with e1 | e1 | e1 | e1
    · rw [e1]
      exact jnS_2_0 x0 x1 b2
    · rw [e1]
      exact jnS_2_1 x0 x1 b2
    · rw [e1]
      exact jnS_2_2 x0 x1 b2
    · rw [e1]
      exact jnS_2_3 x0 x1 b2
  · rw [e0]
    have h1 := zSb_rg x0 x1 b2
    rcases (by omega : zSb x0 x1 b2 = 0 ∨ zSb x0 x1 b2 = 1 ∨ zSb x0 x1 b2 = 2 ∨ zSb x0 x1 b2 = 3) with e1 | e1 | e1 | e1
    · rw [e1]
      exact jnS_3_0 x0 x1 b2
    · rw [e1]
      exact jnS_3_1 x0 x1 b2
    · rw [e1]
      exact jnS_3_2 x0 x1 b2
    · rw [e1]
      exact jnS_3_3 x0 x1 b2
theorem wholeS (x0 : Int) (x1 : Int) (b2 : Bool) : outS (cvS fdS.code (Tr.leaf.puts 0 [.int .i64 x0, .int .i64 x1, .bool b2]) AH.none) = true := by rw [codeS_eq]; exact upS0 x0 x1 b2
theorem runS (x0 : Int) (x1 : Int) (b2 : Bool) : ∃ H', runF hooksS 60 4 [.int .i64 x0, .int .i64 x1, .bool b2] AH.none = some (.bool true, H') := by
  have hp := wholeS x0 x1 b2
  rw [runF_succ, hooksS_none, fdS_eq]
  show ∃ H', callE env (runF hooksS 59) (fun nt => drawE env (runF hooksS 59) nt) 100000 fdS [.int .i64 x0, .int .i64 x1, .bool b2] AH.none = some (.bool true, H')
  have e : callE env (runF hooksS 59) (fun nt => drawE env (runF hooksS 59) nt) 100000 fdS [.int .i64 x0, .int .i64 x1, .bool b2] AH.none = bif Nat.ble 3 fdS.nt then
      (cvS fdS.code (Tr.leaf.puts 0 [.int .i64 x0, .int .i64 x1, .bool b2]) AH.none).bind fun p => match p.1 with
        | .exit _ => none
        | _ => (resL env.T p.2.2 p.2.1 fdS.res).bind fun l => some (resV l, p.2.2)
      else none := rfl
  rw [e, ntS_ok]
  simp only [cond_true]
  unfold outS at hp
  split at hp
  · rename_i ex r H hx
    rw [hx]
    simp only [Option.bind_some]
    cases ex with
    | exit id => cases hp
    | normal =>
      dsimp only at hp ⊢
      split at hp
      · rename_i hr; rw [hr]; exact ⟨H, rfl⟩
      · cases hp
    | ret =>
      dsimp only at hp ⊢
      split at hp
      · rename_i hr; rw [hr]; exact ⟨H, rfl⟩
      · cases hp
  · cases hp
theorem walkS (x0 : Int) (x1 : Int) (b2 : Bool) (w : World) :
    Calls Tryz.prog 4 #[.int .i64 x0, .int .i64 x1, .bool b2] w fun e w' => e = .returned (.bool true) ∧ w.keptBut w' (fun _ => False) := by
  obtain ⟨H', h⟩ := runS x0 x1 b2
  exact walk_of hooksS_ok hooksS_log h w (.cons _ _ _ _ (.int _ _) (.cons _ _ _ _ (.int _ _) (.cons _ _ _ _ (.bool _) .nil)))
end Go.Proofs.YtllfnhapnndngaaGreatDoor.E
