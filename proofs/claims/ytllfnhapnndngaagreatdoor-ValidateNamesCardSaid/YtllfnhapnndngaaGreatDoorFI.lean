/- The program's chains to their end, on unknown bytes. -/
import Derived.Test.YtllfnhapnndngaaGreatDoorFG
namespace Go.Proofs.YtllfnhapnndngaaGreatDoor.E
open Go Go.Proofs
set_option linter.unusedVariables false
set_option maxRecDepth 100000
theorem walkB_0_15 (x y : Nat → Nat) (leaf c : Int) : strOf (runF shaI 9 339 [.str ((List.range 16).map x), .int .i64 leaf, .int .i64 c, .int .i64 0, .int .i64 15, .str ((List.range 16).map y)] AH.none) = some (chainB ((List.range 16).map x) leaf c 15 0 ((List.range 16).map y)) := by kernel_rfl
theorem walkB_1_15 (x y : Nat → Nat) (leaf c : Int) : strOf (runF shaI 9 339 [.str ((List.range 16).map x), .int .i64 leaf, .int .i64 c, .int .i64 1, .int .i64 15, .str ((List.range 16).map y)] AH.none) = some (chainB ((List.range 16).map x) leaf c 14 1 ((List.range 16).map y)) := by kernel_rfl
theorem walkB_2_15 (x y : Nat → Nat) (leaf c : Int) : strOf (runF shaI 9 339 [.str ((List.range 16).map x), .int .i64 leaf, .int .i64 c, .int .i64 2, .int .i64 15, .str ((List.range 16).map y)] AH.none) = some (chainB ((List.range 16).map x) leaf c 13 2 ((List.range 16).map y)) := by kernel_rfl
theorem walkB_3_15 (x y : Nat → Nat) (leaf c : Int) : strOf (runF shaI 9 339 [.str ((List.range 16).map x), .int .i64 leaf, .int .i64 c, .int .i64 3, .int .i64 15, .str ((List.range 16).map y)] AH.none) = some (chainB ((List.range 16).map x) leaf c 12 3 ((List.range 16).map y)) := by kernel_rfl
theorem walkB_4_15 (x y : Nat → Nat) (leaf c : Int) : strOf (runF shaI 9 339 [.str ((List.range 16).map x), .int .i64 leaf, .int .i64 c, .int .i64 4, .int .i64 15, .str ((List.range 16).map y)] AH.none) = some (chainB ((List.range 16).map x) leaf c 11 4 ((List.range 16).map y)) := by kernel_rfl
theorem walkB_5_15 (x y : Nat → Nat) (leaf c : Int) : strOf (runF shaI 9 339 [.str ((List.range 16).map x), .int .i64 leaf, .int .i64 c, .int .i64 5, .int .i64 15, .str ((List.range 16).map y)] AH.none) = some (chainB ((List.range 16).map x) leaf c 10 5 ((List.range 16).map y)) := by kernel_rfl
theorem walkB_6_15 (x y : Nat → Nat) (leaf c : Int) : strOf (runF shaI 9 339 [.str ((List.range 16).map x), .int .i64 leaf, .int .i64 c, .int .i64 6, .int .i64 15, .str ((List.range 16).map y)] AH.none) = some (chainB ((List.range 16).map x) leaf c 9 6 ((List.range 16).map y)) := by kernel_rfl
theorem walkB_7_15 (x y : Nat → Nat) (leaf c : Int) : strOf (runF shaI 9 339 [.str ((List.range 16).map x), .int .i64 leaf, .int .i64 c, .int .i64 7, .int .i64 15, .str ((List.range 16).map y)] AH.none) = some (chainB ((List.range 16).map x) leaf c 8 7 ((List.range 16).map y)) := by kernel_rfl
theorem walkB_8_15 (x y : Nat → Nat) (leaf c : Int) : strOf (runF shaI 9 339 [.str ((List.range 16).map x), .int .i64 leaf, .int .i64 c, .int .i64 8, .int .i64 15, .str ((List.range 16).map y)] AH.none) = some (chainB ((List.range 16).map x) leaf c 7 8 ((List.range 16).map y)) := by kernel_rfl
theorem walkB_9_15 (x y : Nat → Nat) (leaf c : Int) : strOf (runF shaI 9 339 [.str ((List.range 16).map x), .int .i64 leaf, .int .i64 c, .int .i64 9, .int .i64 15, .str ((List.range 16).map y)] AH.none) = some (chainB ((List.range 16).map x) leaf c 6 9 ((List.range 16).map y)) := by kernel_rfl
theorem walkB_10_15 (x y : Nat → Nat) (leaf c : Int) : strOf (runF shaI 9 339 [.str ((List.range 16).map x), .int .i64 leaf, .int .i64 c, .int .i64 10, .int .i64 15, .str ((List.range 16).map y)] AH.none) = some (chainB ((List.range 16).map x) leaf c 5 10 ((List.range 16).map y)) := by kernel_rfl
theorem walkB_11_15 (x y : Nat → Nat) (leaf c : Int) : strOf (runF shaI 9 339 [.str ((List.range 16).map x), .int .i64 leaf, .int .i64 c, .int .i64 11, .int .i64 15, .str ((List.range 16).map y)] AH.none) = some (chainB ((List.range 16).map x) leaf c 4 11 ((List.range 16).map y)) := by kernel_rfl
theorem walkB_12_15 (x y : Nat → Nat) (leaf c : Int) : strOf (runF shaI 9 339 [.str ((List.range 16).map x), .int .i64 leaf, .int .i64 c, .int .i64 12, .int .i64 15, .str ((List.range 16).map y)] AH.none) = some (chainB ((List.range 16).map x) leaf c 3 12 ((List.range 16).map y)) := by kernel_rfl
theorem walkB_13_15 (x y : Nat → Nat) (leaf c : Int) : strOf (runF shaI 9 339 [.str ((List.range 16).map x), .int .i64 leaf, .int .i64 c, .int .i64 13, .int .i64 15, .str ((List.range 16).map y)] AH.none) = some (chainB ((List.range 16).map x) leaf c 2 13 ((List.range 16).map y)) := by kernel_rfl
theorem walkB_14_15 (x y : Nat → Nat) (leaf c : Int) : strOf (runF shaI 9 339 [.str ((List.range 16).map x), .int .i64 leaf, .int .i64 c, .int .i64 14, .int .i64 15, .str ((List.range 16).map y)] AH.none) = some (chainB ((List.range 16).map x) leaf c 1 14 ((List.range 16).map y)) := by kernel_rfl
theorem walkB_15_15 (x y : Nat → Nat) (leaf c : Int) : strOf (runF shaI 9 339 [.str ((List.range 16).map x), .int .i64 leaf, .int .i64 c, .int .i64 15, .int .i64 15, .str ((List.range 16).map y)] AH.none) = some (chainB ((List.range 16).map x) leaf c 0 15 ((List.range 16).map y)) := by kernel_rfl
theorem walkB_run (x y : Nat → Nat) (leaf c : Int) (d : Nat) (h : d < 16) : strOf (runF shaI 9 339 [.str ((List.range 16).map x), .int .i64 leaf, .int .i64 c, .int .i64 (Int.ofNat d), .int .i64 15, .str ((List.range 16).map y)] AH.none) = some (chainB ((List.range 16).map x) leaf c (15 - d) d ((List.range 16).map y)) := by
  match d, h with
  | 0, _ => exact walkB_0_15 x y leaf c
  | 1, _ => exact walkB_1_15 x y leaf c
  | 2, _ => exact walkB_2_15 x y leaf c
  | 3, _ => exact walkB_3_15 x y leaf c
  | 4, _ => exact walkB_4_15 x y leaf c
  | 5, _ => exact walkB_5_15 x y leaf c
  | 6, _ => exact walkB_6_15 x y leaf c
  | 7, _ => exact walkB_7_15 x y leaf c
  | 8, _ => exact walkB_8_15 x y leaf c
  | 9, _ => exact walkB_9_15 x y leaf c
  | 10, _ => exact walkB_10_15 x y leaf c
  | 11, _ => exact walkB_11_15 x y leaf c
  | 12, _ => exact walkB_12_15 x y leaf c
  | 13, _ => exact walkB_13_15 x y leaf c
  | 14, _ => exact walkB_14_15 x y leaf c
  | 15, _ => exact walkB_15_15 x y leaf c
  | n + 16, h => exact absurd h (by omega)
end Go.Proofs.YtllfnhapnndngaaGreatDoor.E
