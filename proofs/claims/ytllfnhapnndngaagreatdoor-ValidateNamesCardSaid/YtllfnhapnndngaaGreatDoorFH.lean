/- The reference's chains from their beginning, on unknown bytes. -/
import Derived.Test.YtllfnhapnndngaaGreatDoorFG
namespace Go.Proofs.YtllfnhapnndngaaGreatDoor.E
open Go Go.Proofs
set_option linter.unusedVariables false
set_option maxRecDepth 100000
theorem walkA_0_0 (x y : Nat → Nat) (leaf c : Int) : strOf (runF shaI 8 110 [.str ((List.range 16).map x), .int .i64 leaf, .int .i64 c, .int .i64 0, .int .i64 0, .str ((List.range 16).map y)] AH.none) = some (chainI ((List.range 16).map x) leaf c 0 0 ((List.range 16).map y)) := by kernel_rfl
theorem walkA_0_1 (x y : Nat → Nat) (leaf c : Int) : strOf (runF shaI 8 110 [.str ((List.range 16).map x), .int .i64 leaf, .int .i64 c, .int .i64 0, .int .i64 1, .str ((List.range 16).map y)] AH.none) = some (chainI ((List.range 16).map x) leaf c 1 0 ((List.range 16).map y)) := by kernel_rfl
theorem walkA_0_2 (x y : Nat → Nat) (leaf c : Int) : strOf (runF shaI 8 110 [.str ((List.range 16).map x), .int .i64 leaf, .int .i64 c, .int .i64 0, .int .i64 2, .str ((List.range 16).map y)] AH.none) = some (chainI ((List.range 16).map x) leaf c 2 0 ((List.range 16).map y)) := by kernel_rfl
theorem walkA_0_3 (x y : Nat → Nat) (leaf c : Int) : strOf (runF shaI 8 110 [.str ((List.range 16).map x), .int .i64 leaf, .int .i64 c, .int .i64 0, .int .i64 3, .str ((List.range 16).map y)] AH.none) = some (chainI ((List.range 16).map x) leaf c 3 0 ((List.range 16).map y)) := by kernel_rfl
theorem walkA_0_4 (x y : Nat → Nat) (leaf c : Int) : strOf (runF shaI 8 110 [.str ((List.range 16).map x), .int .i64 leaf, .int .i64 c, .int .i64 0, .int .i64 4, .str ((List.range 16).map y)] AH.none) = some (chainI ((List.range 16).map x) leaf c 4 0 ((List.range 16).map y)) := by kernel_rfl
theorem walkA_0_5 (x y : Nat → Nat) (leaf c : Int) : strOf (runF shaI 8 110 [.str ((List.range 16).map x), .int .i64 leaf, .int .i64 c, .int .i64 0, .int .i64 5, .str ((List.range 16).map y)] AH.none) = some (chainI ((List.range 16).map x) leaf c 5 0 ((List.range 16).map y)) := by kernel_rfl
theorem walkA_0_6 (x y : Nat → Nat) (leaf c : Int) : strOf (runF shaI 8 110 [.str ((List.range 16).map x), .int .i64 leaf, .int .i64 c, .int .i64 0, .int .i64 6, .str ((List.range 16).map y)] AH.none) = some (chainI ((List.range 16).map x) leaf c 6 0 ((List.range 16).map y)) := by kernel_rfl
theorem walkA_0_7 (x y : Nat → Nat) (leaf c : Int) : strOf (runF shaI 8 110 [.str ((List.range 16).map x), .int .i64 leaf, .int .i64 c, .int .i64 0, .int .i64 7, .str ((List.range 16).map y)] AH.none) = some (chainI ((List.range 16).map x) leaf c 7 0 ((List.range 16).map y)) := by kernel_rfl
theorem walkA_0_8 (x y : Nat → Nat) (leaf c : Int) : strOf (runF shaI 8 110 [.str ((List.range 16).map x), .int .i64 leaf, .int .i64 c, .int .i64 0, .int .i64 8, .str ((List.range 16).map y)] AH.none) = some (chainI ((List.range 16).map x) leaf c 8 0 ((List.range 16).map y)) := by kernel_rfl
theorem walkA_0_9 (x y : Nat → Nat) (leaf c : Int) : strOf (runF shaI 8 110 [.str ((List.range 16).map x), .int .i64 leaf, .int .i64 c, .int .i64 0, .int .i64 9, .str ((List.range 16).map y)] AH.none) = some (chainI ((List.range 16).map x) leaf c 9 0 ((List.range 16).map y)) := by kernel_rfl
theorem walkA_0_10 (x y : Nat → Nat) (leaf c : Int) : strOf (runF shaI 8 110 [.str ((List.range 16).map x), .int .i64 leaf, .int .i64 c, .int .i64 0, .int .i64 10, .str ((List.range 16).map y)] AH.none) = some (chainI ((List.range 16).map x) leaf c 10 0 ((List.range 16).map y)) := by kernel_rfl
theorem walkA_0_11 (x y : Nat → Nat) (leaf c : Int) : strOf (runF shaI 8 110 [.str ((List.range 16).map x), .int .i64 leaf, .int .i64 c, .int .i64 0, .int .i64 11, .str ((List.range 16).map y)] AH.none) = some (chainI ((List.range 16).map x) leaf c 11 0 ((List.range 16).map y)) := by kernel_rfl
theorem walkA_0_12 (x y : Nat → Nat) (leaf c : Int) : strOf (runF shaI 8 110 [.str ((List.range 16).map x), .int .i64 leaf, .int .i64 c, .int .i64 0, .int .i64 12, .str ((List.range 16).map y)] AH.none) = some (chainI ((List.range 16).map x) leaf c 12 0 ((List.range 16).map y)) := by kernel_rfl
theorem walkA_0_13 (x y : Nat → Nat) (leaf c : Int) : strOf (runF shaI 8 110 [.str ((List.range 16).map x), .int .i64 leaf, .int .i64 c, .int .i64 0, .int .i64 13, .str ((List.range 16).map y)] AH.none) = some (chainI ((List.range 16).map x) leaf c 13 0 ((List.range 16).map y)) := by kernel_rfl
theorem walkA_0_14 (x y : Nat → Nat) (leaf c : Int) : strOf (runF shaI 8 110 [.str ((List.range 16).map x), .int .i64 leaf, .int .i64 c, .int .i64 0, .int .i64 14, .str ((List.range 16).map y)] AH.none) = some (chainI ((List.range 16).map x) leaf c 14 0 ((List.range 16).map y)) := by kernel_rfl
theorem walkA_0_15 (x y : Nat → Nat) (leaf c : Int) : strOf (runF shaI 8 110 [.str ((List.range 16).map x), .int .i64 leaf, .int .i64 c, .int .i64 0, .int .i64 15, .str ((List.range 16).map y)] AH.none) = some (chainI ((List.range 16).map x) leaf c 15 0 ((List.range 16).map y)) := by kernel_rfl
theorem walkA_run (x y : Nat → Nat) (leaf c : Int) (d : Nat) (h : d < 16) : strOf (runF shaI 8 110 [.str ((List.range 16).map x), .int .i64 leaf, .int .i64 c, .int .i64 0, .int .i64 (Int.ofNat d), .str ((List.range 16).map y)] AH.none) = some (chainI ((List.range 16).map x) leaf c d 0 ((List.range 16).map y)) := by
  match d, h with
  | 0, _ => exact walkA_0_0 x y leaf c
  | 1, _ => exact walkA_0_1 x y leaf c
  | 2, _ => exact walkA_0_2 x y leaf c
  | 3, _ => exact walkA_0_3 x y leaf c
  | 4, _ => exact walkA_0_4 x y leaf c
  | 5, _ => exact walkA_0_5 x y leaf c
  | 6, _ => exact walkA_0_6 x y leaf c
  | 7, _ => exact walkA_0_7 x y leaf c
  | 8, _ => exact walkA_0_8 x y leaf c
  | 9, _ => exact walkA_0_9 x y leaf c
  | 10, _ => exact walkA_0_10 x y leaf c
  | 11, _ => exact walkA_0_11 x y leaf c
  | 12, _ => exact walkA_0_12 x y leaf c
  | 13, _ => exact walkA_0_13 x y leaf c
  | 14, _ => exact walkA_0_14 x y leaf c
  | 15, _ => exact walkA_0_15 x y leaf c
  | n + 16, h => exact absurd h (by omega)
end Go.Proofs.YtllfnhapnndngaaGreatDoor.E
