/- ValidateLongest gives true at every input. -/
import Derived.Test.YtllfnhapnndngaaGreatDoorLL1a
import Derived.Test.YtllfnhapnndngaaGreatDoorLL1b
import Derived.Test.YtllfnhapnndngaaGreatDoorLL1c
import Derived.Test.YtllfnhapnndngaaGreatDoorLL1d
import Derived.Test.YtllfnhapnndngaaGreatDoorLL1e
import Derived.Test.YtllfnhapnndngaaGreatDoorLL1f
namespace Go.Proofs.YtllfnhapnndngaaGreatDoor.E
open Go Go.Proofs
set_option maxRecDepth 1000000
theorem jnL_2_0_0 (x0 : Int) (x1 : Int) (x2 : Int) : outL (cvL restL ((srL2 2 0 x0 x1 x2).set 7 (.int .i64 0)) (shL2 2 0 x0 x1 x2)) = true := by
  exact csL_2_0_0 x0 x1 x2
theorem jnL_2_0_1 (x0 : Int) (x1 : Int) (x2 : Int) : outL (cvL restL ((srL2 2 0 x0 x1 x2).set 7 (.int .i64 1)) (shL2 2 0 x0 x1 x2)) = true := by
  exact csL_2_0_1 x0 x1 x2
theorem jnL_2_0_2 (x0 : Int) (x1 : Int) (x2 : Int) : outL (cvL restL ((srL2 2 0 x0 x1 x2).set 7 (.int .i64 2)) (shL2 2 0 x0 x1 x2)) = true := by
  exact csL_2_0_2 x0 x1 x2
theorem jnL_2_0_3 (x0 : Int) (x1 : Int) (x2 : Int) : outL (cvL restL ((srL2 2 0 x0 x1 x2).set 7 (.int .i64 3)) (shL2 2 0 x0 x1 x2)) = true := by
  exact csL_2_0_3 x0 x1 x2
theorem jnL_2_0_4 (x0 : Int) (x1 : Int) (x2 : Int) : outL (cvL restL ((srL2 2 0 x0 x1 x2).set 7 (.int .i64 4)) (shL2 2 0 x0 x1 x2)) = true := by
  exact csL_2_0_4 x0 x1 x2
theorem jnL_3_0_0 (x0 : Int) (x1 : Int) (x2 : Int) : outL (cvL restL ((srL2 3 0 x0 x1 x2).set 7 (.int .i64 0)) (shL2 3 0 x0 x1 x2)) = true := by
  exact csL_3_0_0 x0 x1 x2
theorem jnL_3_0_1 (x0 : Int) (x1 : Int) (x2 : Int) : outL (cvL restL ((srL2 3 0 x0 x1 x2).set 7 (.int .i64 1)) (shL2 3 0 x0 x1 x2)) = true := by
  exact csL_3_0_1 x0 x1 x2
theorem jnL_3_0_2 (x0 : Int) (x1 : Int) (x2 : Int) : outL (cvL restL ((srL2 3 0 x0 x1 x2).set 7 (.int .i64 2)) (shL2 3 0 x0 x1 x2)) = true := by
  exact csL_3_0_2 x0 x1 x2
theorem jnL_3_0_3 (x0 : Int) (x1 : Int) (x2 : Int) : outL (cvL restL ((srL2 3 0 x0 x1 x2).set 7 (.int .i64 3)) (shL2 3 0 x0 x1 x2)) = true := by
  exact csL_3_0_3 x0 x1 x2
theorem jnL_3_0_4 (x0 : Int) (x1 : Int) (x2 : Int) : outL (cvL restL ((srL2 3 0 x0 x1 x2).set 7 (.int .i64 4)) (shL2 3 0 x0 x1 x2)) = true := by
  exact csL_3_0_4 x0 x1 x2
theorem jnL_3_1_0 (x0 : Int) (x1 : Int) (x2 : Int) : outL (cvL restL ((srL2 3 1 x0 x1 x2).set 7 (.int .i64 0)) (shL2 3 1 x0 x1 x2)) = true := by
  exact csL_3_1_0 x0 x1 x2
theorem jnL_3_1_1 (x0 : Int) (x1 : Int) (x2 : Int) : outL (cvL restL ((srL2 3 1 x0 x1 x2).set 7 (.int .i64 1)) (shL2 3 1 x0 x1 x2)) = true := by
  exact csL_3_1_1 x0 x1 x2
theorem jnL_3_1_2 (x0 : Int) (x1 : Int) (x2 : Int) : outL (cvL restL ((srL2 3 1 x0 x1 x2).set 7 (.int .i64 2)) (shL2 3 1 x0 x1 x2)) = true := by
  exact csL_3_1_2 x0 x1 x2
theorem jnL_3_1_3 (x0 : Int) (x1 : Int) (x2 : Int) : outL (cvL restL ((srL2 3 1 x0 x1 x2).set 7 (.int .i64 3)) (shL2 3 1 x0 x1 x2)) = true := by
  exact csL_3_1_3 x0 x1 x2
theorem jnL_3_1_4 (x0 : Int) (x1 : Int) (x2 : Int) : outL (cvL restL ((srL2 3 1 x0 x1 x2).set 7 (.int .i64 4)) (shL2 3 1 x0 x1 x2)) = true := by
  exact csL_3_1_4 x0 x1 x2
theorem jnL_4_0_0 (x0 : Int) (x1 : Int) (x2 : Int) : outL (cvL restL ((srL2 4 0 x0 x1 x2).set 7 (.int .i64 0)) (shL2 4 0 x0 x1 x2)) = true := by
  exact csL_4_0_0 x0 x1 x2
theorem jnL_4_0_1 (x0 : Int) (x1 : Int) (x2 : Int) : outL (cvL restL ((srL2 4 0 x0 x1 x2).set 7 (.int .i64 1)) (shL2 4 0 x0 x1 x2)) = true := by
  exact csL_4_0_1 x0 x1 x2
theorem jnL_4_0_2 (x0 : Int) (x1 : Int) (x2 : Int) : outL (cvL restL ((srL2 4 0 x0 x1 x2).set 7 (.int .i64 2)) (shL2 4 0 x0 x1 x2)) = true := by
  exact csL_4_0_2 x0 x1 x2
theorem jnL_4_0_3 (x0 : Int) (x1 : Int) (x2 : Int) : outL (cvL restL ((srL2 4 0 x0 x1 x2).set 7 (.int .i64 3)) (shL2 4 0 x0 x1 x2)) = true := by
  exact csL_4_0_3 x0 x1 x2
theorem jnL_4_0_4 (x0 : Int) (x1 : Int) (x2 : Int) : outL (cvL restL ((srL2 4 0 x0 x1 x2).set 7 (.int .i64 4)) (shL2 4 0 x0 x1 x2)) = true := by
  exact csL_4_0_4 x0 x1 x2
theorem jnL_4_1_0 (x0 : Int) (x1 : Int) (x2 : Int) : outL (cvL restL ((srL2 4 1 x0 x1 x2).set 7 (.int .i64 0)) (shL2 4 1 x0 x1 x2)) = true := by
  exact csL_4_1_0 x0 x1 x2
theorem jnL_4_1_1 (x0 : Int) (x1 : Int) (x2 : Int) : outL (cvL restL ((srL2 4 1 x0 x1 x2).set 7 (.int .i64 1)) (shL2 4 1 x0 x1 x2)) = true := by
  exact csL_4_1_1 x0 x1 x2
theorem jnL_4_1_2 (x0 : Int) (x1 : Int) (x2 : Int) : outL (cvL restL ((srL2 4 1 x0 x1 x2).set 7 (.int .i64 2)) (shL2 4 1 x0 x1 x2)) = true := by
  exact csL_4_1_2 x0 x1 x2
theorem jnL_4_1_3 (x0 : Int) (x1 : Int) (x2 : Int) : outL (cvL restL ((srL2 4 1 x0 x1 x2).set 7 (.int .i64 3)) (shL2 4 1 x0 x1 x2)) = true := by
  exact csL_4_1_3 x0 x1 x2
theorem jnL_4_1_4 (x0 : Int) (x1 : Int) (x2 : Int) : outL (cvL restL ((srL2 4 1 x0 x1 x2).set 7 (.int .i64 4)) (shL2 4 1 x0 x1 x2)) = true := by
  exact csL_4_1_4 x0 x1 x2
theorem jnL_4_2_0 (x0 : Int) (x1 : Int) (x2 : Int) : outL (cvL restL ((srL2 4 2 x0 x1 x2).set 7 (.int .i64 0)) (shL2 4 2 x0 x1 x2)) = true := by
  exact csL_4_2_0 x0 x1 x2
theorem jnL_4_2_1 (x0 : Int) (x1 : Int) (x2 : Int) : outL (cvL restL ((srL2 4 2 x0 x1 x2).set 7 (.int .i64 1)) (shL2 4 2 x0 x1 x2)) = true := by
  exact csL_4_2_1 x0 x1 x2
theorem jnL_4_2_2 (x0 : Int) (x1 : Int) (x2 : Int) : outL (cvL restL ((srL2 4 2 x0 x1 x2).set 7 (.int .i64 2)) (shL2 4 2 x0 x1 x2)) = true := by
  exact csL_4_2_2 x0 x1 x2
theorem jnL_4_2_3 (x0 : Int) (x1 : Int) (x2 : Int) : outL (cvL restL ((srL2 4 2 x0 x1 x2).set 7 (.int .i64 3)) (shL2 4 2 x0 x1 x2)) = true := by
  exact csL_4_2_3 x0 x1 x2
theorem jnL_4_2_4 (x0 : Int) (x1 : Int) (x2 : Int) : outL (cvL restL ((srL2 4 2 x0 x1 x2).set 7 (.int .i64 4)) (shL2 4 2 x0 x1 x2)) = true := by
  exact csL_4_2_4 x0 x1 x2
theorem jnL_5_0_0 (x0 : Int) (x1 : Int) (x2 : Int) : outL (cvL restL ((srL2 5 0 x0 x1 x2).set 7 (.int .i64 0)) (shL2 5 0 x0 x1 x2)) = true := by
  exact csL_5_0_0 x0 x1 x2
theorem jnL_5_0_1 (x0 : Int) (x1 : Int) (x2 : Int) : outL (cvL restL ((srL2 5 0 x0 x1 x2).set 7 (.int .i64 1)) (shL2 5 0 x0 x1 x2)) = true := by
  exact csL_5_0_1 x0 x1 x2
theorem jnL_5_0_2 (x0 : Int) (x1 : Int) (x2 : Int) : outL (cvL restL ((srL2 5 0 x0 x1 x2).set 7 (.int .i64 2)) (shL2 5 0 x0 x1 x2)) = true := by
  exact csL_5_0_2 x0 x1 x2
theorem jnL_5_0_3 (x0 : Int) (x1 : Int) (x2 : Int) : outL (cvL restL ((srL2 5 0 x0 x1 x2).set 7 (.int .i64 3)) (shL2 5 0 x0 x1 x2)) = true := by
  exact csL_5_0_3 x0 x1 x2
theorem jnL_5_0_4 (x0 : Int) (x1 : Int) (x2 : Int) : outL (cvL restL ((srL2 5 0 x0 x1 x2).set 7 (.int .i64 4)) (shL2 5 0 x0 x1 x2)) = true := by
  exact csL_5_0_4 x0 x1 x2
theorem jnL_5_1_0 (x0 : Int) (x1 : Int) (x2 : Int) : outL (cvL restL ((srL2 5 1 x0 x1 x2).set 7 (.int .i64 0)) (shL2 5 1 x0 x1 x2)) = true := by
  exact csL_5_1_0 x0 x1 x2
theorem jnL_5_1_1 (x0 : Int) (x1 : Int) (x2 : Int) : outL (cvL restL ((srL2 5 1 x0 x1 x2).set 7 (.int .i64 1)) (shL2 5 1 x0 x1 x2)) = true := by
  exact csL_5_1_1 x0 x1 x2
theorem jnL_5_1_2 (x0 : Int) (x1 : Int) (x2 : Int) : outL (cvL restL ((srL2 5 1 x0 x1 x2).set 7 (.int .i64 2)) (shL2 5 1 x0 x1 x2)) = true := by
  exact csL_5_1_2 x0 x1 x2
theorem jnL_5_1_3 (x0 : Int) (x1 : Int) (x2 : Int) : outL (cvL restL ((srL2 5 1 x0 x1 x2).set 7 (.int .i64 3)) (shL2 5 1 x0 x1 x2)) = true := by
  exact csL_5_1_3 x0 x1 x2
theorem jnL_5_1_4 (x0 : Int) (x1 : Int) (x2 : Int) : outL (cvL restL ((srL2 5 1 x0 x1 x2).set 7 (.int .i64 4)) (shL2 5 1 x0 x1 x2)) = true := by
  exact csL_5_1_4 x0 x1 x2
theorem jnL_5_2_0 (x0 : Int) (x1 : Int) (x2 : Int) : outL (cvL restL ((srL2 5 2 x0 x1 x2).set 7 (.int .i64 0)) (shL2 5 2 x0 x1 x2)) = true := by
  exact csL_5_2_0 x0 x1 x2
theorem jnL_5_2_1 (x0 : Int) (x1 : Int) (x2 : Int) : outL (cvL restL ((srL2 5 2 x0 x1 x2).set 7 (.int .i64 1)) (shL2 5 2 x0 x1 x2)) = true := by
  exact csL_5_2_1 x0 x1 x2
theorem jnL_5_2_2 (x0 : Int) (x1 : Int) (x2 : Int) : outL (cvL restL ((srL2 5 2 x0 x1 x2).set 7 (.int .i64 2)) (shL2 5 2 x0 x1 x2)) = true := by
  exact csL_5_2_2 x0 x1 x2
theorem jnL_5_2_3 (x0 : Int) (x1 : Int) (x2 : Int) : outL (cvL restL ((srL2 5 2 x0 x1 x2).set 7 (.int .i64 3)) (shL2 5 2 x0 x1 x2)) = true := by
  exact csL_5_2_3 x0 x1 x2
theorem jnL_5_2_4 (x0 : Int) (x1 : Int) (x2 : Int) : outL (cvL restL ((srL2 5 2 x0 x1 x2).set 7 (.int .i64 4)) (shL2 5 2 x0 x1 x2)) = true := by
  exact csL_5_2_4 x0 x1 x2
theorem jnL_5_3_0 (x0 : Int) (x1 : Int) (x2 : Int) : outL (cvL restL ((srL2 5 3 x0 x1 x2).set 7 (.int .i64 0)) (shL2 5 3 x0 x1 x2)) = true := by
  exact csL_5_3_0 x0 x1 x2
theorem jnL_5_3_1 (x0 : Int) (x1 : Int) (x2 : Int) : outL (cvL restL ((srL2 5 3 x0 x1 x2).set 7 (.int .i64 1)) (shL2 5 3 x0 x1 x2)) = true := by
  exact csL_5_3_1 x0 x1 x2
theorem jnL_5_3_2 (x0 : Int) (x1 : Int) (x2 : Int) : outL (cvL restL ((srL2 5 3 x0 x1 x2).set 7 (.int .i64 2)) (shL2 5 3 x0 x1 x2)) = true := by
  exact csL_5_3_2 x0 x1 x2
theorem jnL_5_3_3 (x0 : Int) (x1 : Int) (x2 : Int) : outL (cvL restL ((srL2 5 3 x0 x1 x2).set 7 (.int .i64 3)) (shL2 5 3 x0 x1 x2)) = true := by
  exact csL_5_3_3 x0 x1 x2
theorem jnL_5_3_4 (x0 : Int) (x1 : Int) (x2 : Int) : outL (cvL restL ((srL2 5 3 x0 x1 x2).set 7 (.int .i64 4)) (shL2 5 3 x0 x1 x2)) = true := by
  exact csL_5_3_4 x0 x1 x2
theorem upL2_2_0 (x0 : Int) (x1 : Int) (x2 : Int) : outL (cvL (seqsC psL2 (restL)) ((srL1 2 x0 x1 x2).set 1 (.int .i64 0)) (shL1 2 x0 x1 x2)) = true := by
  rw [runsC_ok cvL_seq]
  rw [show runsC cvL psL2 ((srL1 2 x0 x1 x2).set 1 (.int .i64 0)) (shL1 2 x0 x1 x2) = stL2 2 0 x0 x1 x2 from rfl, stL2_eq_2_0, thenW_normal]
  have h0 := zLl_rg_2_0 x0 x1 x2
  rcases (by omega : zLl 2 0 x0 x1 x2 = 0 ∨ zLl 2 0 x0 x1 x2 = 1 ∨ zLl 2 0 x0 x1 x2 = 2 ∨ zLl 2 0 x0 x1 x2 = 3 ∨ zLl 2 0 x0 x1 x2 = 4) with e0 | e0 | e0 | e0 | e0
  · rw [e0]
    exact jnL_2_0_0 x0 x1 x2
  · rw [e0]
    exact jnL_2_0_1 x0 x1 x2
  · rw [e0]
    exact jnL_2_0_2 x0 x1 x2
  · rw [e0]
    exact jnL_2_0_3 x0 x1 x2
  · rw [e0]
    exact jnL_2_0_4 x0 x1 x2
theorem upL1_2 (x0 : Int) (x1 : Int) (x2 : Int) : outL (cvL (seqsC psL1 (seqsC psL2 (restL))) ((srL0 x0 x1 x2).set 0 (.int .i64 2)) (shL0 x0 x1 x2)) = true := by
  rw [runsC_ok cvL_seq]
  rw [show runsC cvL psL1 ((srL0 x0 x1 x2).set 0 (.int .i64 2)) (shL0 x0 x1 x2) = stL1 2 x0 x1 x2 from rfl, stL1_eq_2, thenW_normal]
  have h0 := zLk_rg_2 x0 x1 x2
  have e0 : zLk 2 x0 x1 x2 = 0 := by omega
  rw [e0]
  exact upL2_2_0 x0 x1 x2
theorem upL2_3_0 (x0 : Int) (x1 : Int) (x2 : Int) : outL (cvL (seqsC psL2 (restL)) ((srL1 3 x0 x1 x2).set 1 (.int .i64 0)) (shL1 3 x0 x1 x2)) = true := by
  rw [runsC_ok cvL_seq]
  rw [show runsC cvL psL2 ((srL1 3 x0 x1 x2).set 1 (.int .i64 0)) (shL1 3 x0 x1 x2) = stL2 3 0 x0 x1 x2 from rfl, stL2_eq_3_0, thenW_normal]
  have h0 := zLl_rg_3_0 x0 x1 x2
  rcases (by omega : zLl 3 0 x0 x1 x2 = 0 ∨ zLl 3 0 x0 x1 x2 = 1 ∨ zLl 3 0 x0 x1 x2 = 2 ∨ zLl 3 0 x0 x1 x2 = 3 ∨ zLl 3 0 x0 x1 x2 = 4) with e0 | e0 | e0 | e0 | e0
  · rw [e0]
    exact jnL_3_0_0 x0 x1 x2
  · rw [e0]
    exact jnL_3_0_1 x0 x1 x2
  · rw [e0]
    exact jnL_3_0_2 x0 x1 x2
  · rw [e0]
    exact jnL_3_0_3 x0 x1 x2
  · rw [e0]
    exact jnL_3_0_4 x0 x1 x2
theorem upL2_3_1 (x0 : Int) (x1 : Int) (x2 : Int) : outL (cvL (seqsC psL2 (restL)) ((srL1 3 x0 x1 x2).set 1 (.int .i64 1)) (shL1 3 x0 x1 x2)) = true := by
  rw [runsC_ok cvL_seq]
  rw [show runsC cvL psL2 ((srL1 3 x0 x1 x2).set 1 (.int .i64 1)) (shL1 3 x0 x1 x2) = stL2 3 1 x0 x1 x2 from rfl, stL2_eq_3_1, thenW_normal]
  have h0 := zLl_rg_3_1 x0 x1 x2
  rcases (by omega : zLl 3 1 x0 x1 x2 = 0 ∨ zLl 3 1 x0 x1 x2 = 1 ∨ zLl 3 1 x0 x1 x2 = 2 ∨ zLl 3 1 x0 x1 x2 = 3 ∨ zLl 3 1 x0 x1 x2 = 4) with e0 | e0 | e0 | e0 | e0
  · rw [e0]
    exact jnL_3_1_0 x0 x1 x2
  · rw [e0]
    exact jnL_3_1_1 x0 x1 x2
  · rw [e0]
    exact jnL_3_1_2 x0 x1 x2
  · rw [e0]
    exact jnL_3_1_3 x0 x1 x2
  · rw [e0]
    exact jnL_3_1_4 x0 x1 x2
theorem upL1_3 (x0 : Int) (x1 : Int) (x2 : Int) : outL (cvL (seqsC psL1 (seqsC psL2 (restL))) ((srL0 x0 x1 x2).set 0 (.int .i64 3)) (shL0 x0 x1 x2)) = true := by
  rw [runsC_ok cvL_seq]
  rw [show runsC cvL psL1 ((srL0 x0 x1 x2).set 0 (.int .i64 3)) (shL0 x0 x1 x2) = stL1 3 x0 x1 x2 from rfl, stL1_eq_3, thenW_normal]
  have h0 := zLk_rg_3 x0 x1 x2
  rcases (by omega : zLk 3 x0 x1 x2 = 0 ∨ zLk 3 x0 x1 x2 = 1) with e0 | e0
  · rw [e0]
    exact upL2_3_0 x0 x1 x2
  · rw [e0]
    exact upL2_3_1 x0 x1 x2
theorem upL2_4_0 (x0 : Int) (x1 : Int) (x2 : Int) : outL (cvL (seqsC psL2 (restL)) ((srL1 4 x0 x1 x2).set 1 (.int .i64 0)) (shL1 4 x0 x1 x2)) = true := by
  rw [runsC_ok cvL_seq]
  rw [show runsC cvL psL2 ((srL1 4 x0 x1 x2).set 1 (.int .i64 0)) (shL1 4 x0 x1 x2) = stL2 4 0 x0 x1 x2 from rfl, stL2_eq_4_0, thenW_normal]
  have h0 := zLl_rg_4_0 x0 x1 x2
  rcases (by omega : zLl 4 0 x0 x1 x2 = 0 ∨ zLl 4 0 x0 x1 x2 = 1 ∨ zLl 4 0 x0 x1 x2 = 2 ∨ zLl 4 0 x0 x1 x2 = 3 ∨ zLl 4 0 x0 x1 x2 = 4) with e0 | e0 | e0 | e0 | e0
  · rw [e0]
    exact jnL_4_0_0 x0 x1 x2
  · rw [e0]
    exact jnL_4_0_1 x0 x1 x2
  · rw [e0]
    exact jnL_4_0_2 x0 x1 x2
  · rw [e0]
    exact jnL_4_0_3 x0 x1 x2
  · rw [e0]
    exact jnL_4_0_4 x0 x1 x2
theorem upL2_4_1 (x0 : Int) (x1 : Int) (x2 : Int) : outL (cvL (seqsC psL2 (restL)) ((srL1 4 x0 x1 x2).set 1 (.int .i64 1)) (shL1 4 x0 x1 x2)) = true := by
  rw [runsC_ok cvL_seq]
  rw [show runsC cvL psL2 ((srL1 4 x0 x1 x2).set 1 (.int .i64 1)) (shL1 4 x0 x1 x2) = stL2 4 1 x0 x1 x2 from rfl, stL2_eq_4_1, thenW_normal]
  have h0 := zLl_rg_4_1 x0 x1 x2
  rcases (by omega : zLl 4 1 x0 x1 x2 = 0 ∨ zLl 4 1 x0 x1 x2 = 1 ∨ zLl 4 1 x0 x1 x2 = 2 ∨ zLl 4 1 x0 x1 x2 = 3 ∨ zLl 4 1 x0 x1 x2 = 4) with e0 | e0 | e0 | e0 | e0
  · rw [e0]
    exact jnL_4_1_0 x0 x1 x2
  · rw [e0]
    exact jnL_4_1_1 x0 x1 x2
  · rw [e0]
    exact jnL_4_1_2 x0 x1 x2
  · rw [e0]
    exact jnL_4_1_3 x0 x1 x2
  · rw [e0]
    exact jnL_4_1_4 x0 x1 x2
theorem upL2_4_2 (x0 : Int) (x1 : Int) (x2 : Int) : outL (cvL (seqsC psL2 (restL)) ((srL1 4 x0 x1 x2).set 1 (.int .i64 2)) (shL1 4 x0 x1 x2)) = true := by
  rw [runsC_ok cvL_seq]
  rw [show runsC cvL psL2 ((srL1 4 x0 x1 x2).set 1 (.int .i64 2)) (shL1 4 x0 x1 x2) = stL2 4 2 x0 x1 x2 from rfl, stL2_eq_4_2, thenW_normal]
  have h0 := zLl_rg_4_2 x0 x1 x2
  rcases (by omega : zLl 4 2 x0 x1 x2 = 0 ∨ zLl 4 2 x0 x1 x2 = 1 ∨ zLl 4 2 x0 x1 x2 = 2 ∨ zLl 4 2 x0 x1 x2 = 3 ∨ zLl 4 2 x0 x1 x2 = 4) with e0 | e0 | e0 | e0 | e0
  · rw [e0]
    exact jnL_4_2_0 x0 x1 x2
  · rw [e0]
    exact jnL_4_2_1 x0 x1 x2
  · rw [e0]
    exact jnL_4_2_2 x0 x1 x2
  · rw [e0]
    exact jnL_4_2_3 x0 x1 x2
  · rw [e0]
    exact jnL_4_2_4 x0 x1 x2
theorem upL1_4 (x0 : Int) (x1 : Int) (x2 : Int) : outL (cvL (seqsC psL1 (seqsC psL2 (restL))) ((srL0 x0 x1 x2).set 0 (.int .i64 4)) (shL0 x0 x1 x2)) = true := by
  rw [runsC_ok cvL_seq]
  rw [show runsC cvL psL1 ((srL0 x0 x1 x2).set 0 (.int .i64 4)) (shL0 x0 x1 x2) = stL1 4 x0 x1 x2 from rfl, stL1_eq_4, thenW_normal]
  have h0 := zLk_rg_4 x0 x1 x2
  rcases (by omega : zLk 4 x0 x1 x2 = 0 ∨ zLk 4 x0 x1 x2 = 1 ∨ zLk 4 x0 x1 x2 = 2) with e0 | e0 | e0
  · rw [e0]
    exact upL2_4_0 x0 x1 x2
  · rw [e0]
    exact upL2_4_1 x0 x1 x2
  · rw [e0]
    exact upL2_4_2 x0 x1 x2
theorem upL2_5_0 (x0 : Int) (x1 : Int) (x2 : Int) : outL (cvL (seqsC psL2 (restL)) ((srL1 5 x0 x1 x2).set 1 (.int .i64 0)) (shL1 5 x0 x1 x2)) = true := by
  rw [runsC_ok cvL_seq]
  rw [show runsC cvL psL2 ((srL1 5 x0 x1 x2).set 1 (.int .i64 0)) (shL1 5 x0 x1 x2) = stL2 5 0 x0 x1 x2 from rfl, stL2_eq_5_0, thenW_normal]
  have h0 := zLl_rg_5_0 x0 x1 x2
  rcases (by omega : zLl 5 0 x0 x1 x2 = 0 ∨ zLl 5 0 x0 x1 x2 = 1 ∨ zLl 5 0 x0 x1 x2 = 2 ∨ zLl 5 0 x0 x1 x2 = 3 ∨ zLl 5 0 x0 x1 x2 = 4) with e0 | e0 | e0 | e0 | e0
  · rw [e0]
    exact jnL_5_0_0 x0 x1 x2
  · rw [e0]
    exact jnL_5_0_1 x0 x1 x2
  · rw [e0]
    exact jnL_5_0_2 x0 x1 x2
  · rw [e0]
    exact jnL_5_0_3 x0 x1 x2
  · rw [e0]
    exact jnL_5_0_4 x0 x1 x2
theorem upL2_5_1 (x0 : Int) (x1 : Int) (x2 : Int) : outL (cvL (seqsC psL2 (restL)) ((srL1 5 x0 x1 x2).set 1 (.int .i64 1)) (shL1 5 x0 x1 x2)) = true := by
  rw [runsC_ok cvL_seq]
  rw [show runsC cvL psL2 ((srL1 5 x0 x1 x2).set 1 (.int .i64 1)) (shL1 5 x0 x1 x2) = stL2 5 1 x0 x1 x2 from rfl, stL2_eq_5_1, thenW_normal]
  have h0 := zLl_rg_5_1 x0 x1 x2
  rcases (by omega : zLl 5 1 x0 x1 x2 = 0 ∨ zLl 5 1 x0 x1 x2 = 1 ∨ zLl 5 1 x0 x1 x2 = 2 ∨ zLl 5 1 x0 x1 x2 = 3 ∨ zLl 5 1 x0 x1 x2 = 4) with e0 | e0 | e0 | e0 | e0
  · rw [e0]
    exact jnL_5_1_0 x0 x1 x2
  · rw [e0]
    exact jnL_5_1_1 x0 x1 x2
  · rw [e0]
    exact jnL_5_1_2 x0 x1 x2
  · rw [e0]
    exact jnL_5_1_3 x0 x1 x2
  · rw [e0]
    exact jnL_5_1_4 x0 x1 x2
theorem upL2_5_2 (x0 : Int) (x1 : Int) (x2 : Int) : outL (cvL (seqsC psL2 (restL)) ((srL1 5 x0 x1 x2).set 1 (.int .i64 2)) (shL1 5 x0 x1 x2)) = true := by
  rw [runsC_ok cvL_seq]
  rw [show runsC cvL psL2 ((srL1 5 x0 x1 x2).set 1 (.int .i64 2)) (shL1 5 x0 x1 x2) = stL2 5 2 x0 x1 x2 from rfl, stL2_eq_5_2, thenW_normal]
  have h0 := zLl_rg_5_2 x0 x1 x2
  rcases (by omega : zLl 5 2 x0 x1 x2 = 0 ∨ zLl 5 2 x0 x1 x2 = 1 ∨ zLl 5 2 x0 x1 x2 = 2 ∨ zLl 5 2 x0 x1 x2 = 3 ∨ zLl 5 2 x0 x1 x2 = 4) with e0 | e0 | e0 | e0 | e0
  · rw [e0]
    exact jnL_5_2_0 x0 x1 x2
  · rw [e0]
    exact jnL_5_2_1 x0 x1 x2
  · rw [e0]
    exact jnL_5_2_2 x0 x1 x2
  · rw [e0]
    exact jnL_5_2_3 x0 x1 x2
  · rw [e0]
    exact jnL_5_2_4 x0 x1 x2
theorem upL2_5_3 (x0 : Int) (x1 : Int) (x2 : Int) : outL (cvL (seqsC psL2 (restL)) ((srL1 5 x0 x1 x2).set 1 (.int .i64 3)) (shL1 5 x0 x1 x2)) = true := by
  rw [runsC_ok cvL_seq]
  rw [show runsC cvL psL2 ((srL1 5 x0 x1 x2).set 1 (.int .i64 3)) (shL1 5 x0 x1 x2) = stL2 5 3 x0 x1 x2 from rfl, stL2_eq_5_3, thenW_normal]
  have h0 := zLl_rg_5_3 x0 x1 x2
  rcases (by omega : zLl 5 3 x0 x1 x2 = 0 ∨ zLl 5 3 x0 x1 x2 = 1 ∨ zLl 5 3 x0 x1 x2 = 2 ∨ zLl 5 3 x0 x1 x2 = 3 ∨ zLl 5 3 x0 x1 x2 = 4) with e0 | e0 | e0 | e0 | e0
  · rw [e0]
    exact jnL_5_3_0 x0 x1 x2
  · rw [e0]
    exact jnL_5_3_1 x0 x1 x2
  · rw [e0]
    exact jnL_5_3_2 x0 x1 x2
  · rw [e0]
    exact jnL_5_3_3 x0 x1 x2
  · rw [e0]
    exact jnL_5_3_4 x0 x1 x2
theorem upL1_5 (x0 : Int) (x1 : Int) (x2 : Int) : outL (cvL (seqsC psL1 (seqsC psL2 (restL))) ((srL0 x0 x1 x2).set 0 (.int .i64 5)) (shL0 x0 x1 x2)) = true := by
  rw [runsC_ok cvL_seq]
  rw [show runsC cvL psL1 ((srL0 x0 x1 x2).set 0 (.int .i64 5)) (shL0 x0 x1 x2) = stL1 5 x0 x1 x2 from rfl, stL1_eq_5, thenW_normal]
  have h0 := zLk_rg_5 x0 x1 x2
  rcases (by omega : zLk 5 x0 x1 x2 = 0 ∨ zLk 5 x0 x1 x2 = 1 ∨ zLk 5 x0 x1 x2 = 2 ∨ zLk 5 x0 x1 x2 = 3) with e0 | e0 | e0 | e0
  · rw [e0]
    exact upL2_5_0 x0 x1 x2
  · rw [e0]
    exact upL2_5_1 x0 x1 x2
  · rw [e0]
    exact upL2_5_2 x0 x1 x2
  · rw [e0]
    exact upL2_5_3 x0 x1 x2
theorem upL0 (x0 : Int) (x1 : Int) (x2 : Int) : outL (cvL (seqsC psL0 (seqsC psL1 (seqsC psL2 (restL)))) (Tr.leaf.puts 0 [.int .i64 x0, .int .i64 x1, .int .i64 x2]) AH.none) = true := by
  rw [runsC_ok cvL_seq]
  rw [show runsC cvL psL0 (Tr.leaf.puts 0 [.int .i64 x0, .int .i64 x1, .int .i64 x2]) AH.none = stL0 x0 x1 x2 from rfl, stL0_eq, thenW_normal]
  have h0 := zLn_rg x0 x1 x2
  rcases (by omega : zLn x0 x1 x2 = 2 ∨ zLn x0 x1 x2 = 3 ∨ zLn x0 x1 x2 = 4 ∨ zLn x0 x1 x2 = 5) with e0 | e0 | e0 | e0
  · rw [e0]
    exact upL1_2 x0 x1 x2
  · rw [e0]
    exact upL1_3 x0 x1 x2
  · rw [e0]
    exact upL1_4 x0 x1 x2
  · rw [e0]
    exact upL1_5 x0 x1 x2
theorem wholeL (x0 : Int) (x1 : Int) (x2 : Int) : outL (cvL fdL.code (Tr.leaf.puts 0 [.int .i64 x0, .int .i64 x1, .int .i64 x2]) AH.none) = true := by rw [codeL_eq]; exact upL0 x0 x1 x2
theorem runL (x0 : Int) (x1 : Int) (x2 : Int) : ∃ H', runF hooksL 60 3 [.int .i64 x0, .int .i64 x1, .int .i64 x2] AH.none = some (.bool true, H') := by
  have hp := wholeL x0 x1 x2
  rw [runF_succ, hooksL_none, fdL_eq]
  show ∃ H', callE env (runF hooksL 59) (fun nt => drawE env (runF hooksL 59) nt) 100000 fdL [.int .i64 x0, .int .i64 x1, .int .i64 x2] AH.none = some (.bool true, H')
  have e : callE env (runF hooksL 59) (fun nt => drawE env (runF hooksL 59) nt) 100000 fdL [.int .i64 x0, .int .i64 x1, .int .i64 x2] AH.none = bif Nat.ble 3 fdL.nt then
      (cvL fdL.code (Tr.leaf.puts 0 [.int .i64 x0, .int .i64 x1, .int .i64 x2]) AH.none).bind fun p => match p.1 with
        | .exit _ => none
        | _ => (resL env.T p.2.2 p.2.1 fdL.res).bind fun l => some (resV l, p.2.2)
      else none := rfl
  rw [e, ntL_ok]
  simp only [cond_true]
  unfold outL at hp
  split at hp
  · rename_i ex r H hx
    rw [hx]
    simp only [Option.bind_some]
    cases ex with
    | exit id => cases hp
    | normal =>
      dsimp only at hp ⊢
      split at hp
      · rename_i hr; rw [hr]; exact ⟨H, rfl⟩
      · cases hp
    | ret =>
      dsimp only at hp ⊢
      split at hp
      · rename_i hr; rw [hr]; exact ⟨H, rfl⟩
      · cases hp
  · cases hp
theorem walkL (x0 : Int) (x1 : Int) (x2 : Int) (w : World) :
    Calls Tryz.prog 3 #[.int .i64 x0, .int .i64 x1, .int .i64 x2] w fun e w' => e = .returned (.bool true) ∧ w.keptBut w' (fun _ => False) := by
  obtain ⟨H', h⟩ := runL x0 x1 x2
  exact walk_of hooksL_ok hooksL_log h w (.cons _ _ _ _ (.int _ _) (.cons _ _ _ _ (.int _ _) (.cons _ _ _ _ (.int _ _) .nil)))
end Go.Proofs.YtllfnhapnndngaaGreatDoor.E
