/- Short digests of short messages, and chains of them, in words. -/
import Derived.Test.YtllfnhapnndngaaGreatDoorFE
namespace Go.Proofs.YtllfnhapnndngaaGreatDoor.E
open Go Go.Proofs
set_option linter.unusedVariables false
set_option maxRecDepth 100000
noncomputable def strOf (x : Option (AV × AH)) : Option (List Nat) := match x with | some (.str l, _) => some l | _ => none
noncomputable def byteI (z : Int) : Nat := Nat.mod (IntKind.u8.wrap z).toNat 256
noncomputable def initI : List Int := [0x6a09e667, 0xbb67ae85, 0x3c6ef372, 0xa54ff53a, 0x510e527f, 0x9b05688c, 0x1f83d9ab, 0x5be0cd19]
noncomputable def appL {α : Type} (l m : List α) : List α := List.rec (motive := fun _ => List α) m (fun x _ ih => x :: ih) l
noncomputable def pad39 : List Nat := [128, 0, 0, 0, 0, 0, 0, 0, 0, 0, 0, 0, 0, 0, 0, 0, 0, 0, 0, 0, 0, 0, 0, 1, 56]
noncomputable def wordB (z : Int) (k : List Nat) : List Nat := byteI (uShr z 24) :: byteI (uShr z 16) :: byteI (uShr z 8) :: byteI z :: k
noncomputable def short4 (w : List Int) : List Nat := wordB (nthI w 0) (wordB (nthI w 1) (wordB (nthI w 2) (wordB (nthI w 3) [])))
noncomputable def mapI (l : List Nat) : List Int := List.rec (motive := fun _ => List Int) [] (fun x _ ih => Int.ofNat x :: ih) l
noncomputable def short39 (m : List Nat) : List Nat := short4 (roundI initI (mapI (appL m pad39)))
noncomputable def shrI (a : Int) (n : Int) : Int := a.fdiv (2 ^ (min n.toNat IntKind.i64.bits))
noncomputable def b4I (n : Int) (k : List Nat) : List Nat := byteI (shrI n 24) :: byteI (shrI n 16) :: byteI (shrI n 8) :: byteI n :: k
noncomputable def stepI (id : List Nat) (leaf c : Int) (p : Nat) (v : List Nat) : List Nat := short39 (67 :: appL id (b4I leaf (byteI c :: byteI (Int.ofNat p) :: v)))
noncomputable def chainI (id : List Nat) (leaf c : Int) (n : Nat) : Nat → List Nat → List Nat :=
  Nat.rec (motive := fun _ => Nat → List Nat → List Nat) (fun _ v => v) (fun _ ih p v => ih (Nat.succ p) (stepI id leaf c p v)) n
noncomputable def short39B (m : List Nat) : List Nat := short4 (blockI initI (mapI (appL m pad39)))
noncomputable def stepB (id : List Nat) (leaf c : Int) (p : Nat) (v : List Nat) : List Nat := short39B (67 :: appL id (b4I leaf (byteI c :: byteI (Int.ofNat p) :: v)))
noncomputable def chainB (id : List Nat) (leaf c : Int) (n : Nat) : Nat → List Nat → List Nat :=
  Nat.rec (motive := fun _ => Nat → List Nat → List Nat) (fun _ v => v) (fun _ ih p v => ih (Nat.succ p) (stepB id leaf c p v)) n
noncomputable def padS : List Nat := [128, 0, 0, 0, 0, 0, 0, 0, 0, 0, 0, 0, 0, 0, 0, 0, 0, 0, 0, 0, 0, 0, 0, 0, 1, 48]
noncomputable def secretI (seed : List Nat) (leaf c : Int) : List Nat := short4 (roundI initI (mapI (appL (83 :: appL seed (b4I leaf (byteI c :: []))) padS)))
theorem secret_run (x : Nat → Nat) (leaf c : Int) : strOf (runF shaI 8 111 [.str ((List.range 32).map x), .int .i64 leaf, .int .i64 c] AH.none) = some (secretI ((List.range 32).map x) leaf c) := by kernel_rfl
end Go.Proofs.YtllfnhapnndngaaGreatDoor.E
