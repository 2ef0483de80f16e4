/- One block of SHA-256, as the reference and the program compute it: run on words that are unknown. -/
import Derived.Test.YtllfnhapnndngaaGreatDoorFB
import Derived.Test.YtllfnhapnndngaaGreatDoorEX
import Derived.KernelRfl
namespace Go.Proofs.YtllfnhapnndngaaGreatDoor.E
open Go Go.Proofs
set_option linter.unusedVariables false
set_option maxRecDepth 100000
noncomputable def uAdd (a b : Int) : Int := IntKind.u32.wrap (a + b)
noncomputable def uAnd (a b : Int) : Int := IntKind.u32.wrap (BitVec.ofInt IntKind.u32.bits a &&& BitVec.ofInt IntKind.u32.bits b).toNat
noncomputable def uOr (a b : Int) : Int := IntKind.u32.wrap (BitVec.ofInt IntKind.u32.bits a ||| BitVec.ofInt IntKind.u32.bits b).toNat
noncomputable def uXor (a b : Int) : Int := IntKind.u32.wrap (BitVec.ofInt IntKind.u32.bits a ^^^ BitVec.ofInt IntKind.u32.bits b).toNat
noncomputable def uNot (a : Int) : Int := IntKind.u32.wrap (BitVec.ofInt IntKind.u32.bits (bif IntKind.u32.signed then -1 else IntKind.u32.max) ^^^ BitVec.ofInt IntKind.u32.bits a).toNat
noncomputable def uShl (a b : Int) : Int := IntKind.u32.wrap (a * 2 ^ (min b.toNat IntKind.u32.bits))
noncomputable def uShr (a b : Int) : Int := a.fdiv (2 ^ (min b.toNat IntKind.u32.bits))
noncomputable def uByte (b : Int) : Int := IntKind.u32.wrap b
noncomputable def rot (x : Int) (n m : Int) : Int := uOr (uShr x n) (uShl x m)
noncomputable def wordOf (a b c d : Int) : Int := uOr (uOr (uOr (uShl (uByte a) 24) (uShl (uByte b) 16)) (uShl (uByte c) 8)) (uByte d)
noncomputable def wordsOf (n : Nat) : List Int → List Int :=
  Nat.rec (motive := fun _ => List Int → List Int) (fun _ => []) (fun _ ih l => match l with | a :: b :: c :: d :: l => wordOf a b c d :: ih l | _ => []) n
noncomputable def nthI (l : List Int) (i : Nat) : Int := (nth l i).getD 0
noncomputable def schedOne (w : List Int) : Int :=
  uAdd (uAdd (uAdd (nthI w 15) (uXor (uXor (rot (nthI w 14) 7 25) (rot (nthI w 14) 18 14)) (uShr (nthI w 14) 3))) (nthI w 6)) (uXor (uXor (rot (nthI w 1) 17 15) (rot (nthI w 1) 19 13)) (uShr (nthI w 1) 10))
noncomputable def sched (n : Nat) : List Int → List Int := Nat.rec (motive := fun _ => List Int → List Int) (fun w => w) (fun _ ih w => ih (schedOne w :: w)) n
structure St8 where
  a : Int
  b : Int
  c : Int
  d : Int
  e : Int
  f : Int
  g : Int
  h : Int
noncomputable def rnd (s : St8) (k w : Int) : St8 :=
  ⟨uAdd (uAdd (uAdd (uAdd (uAdd s.h (uXor (uXor (rot s.e 6 26) (rot s.e 11 21)) (rot s.e 25 7))) (uXor (uAnd s.e s.f) (uAnd (uNot s.e) s.g))) k) w)
     (uAdd (uXor (uXor (rot s.a 2 30) (rot s.a 13 19)) (rot s.a 22 10)) (uXor (uXor (uAnd s.a s.b) (uAnd s.a s.c)) (uAnd s.b s.c))),
   s.a, s.b, s.c,
   uAdd s.d (uAdd (uAdd (uAdd (uAdd s.h (uXor (uXor (rot s.e 6 26) (rot s.e 11 21)) (rot s.e 25 7))) (uXor (uAnd s.e s.f) (uAnd (uNot s.e) s.g))) k) w),
   s.e, s.f, s.g⟩
noncomputable def rnds (ks : List Int) : List Int → St8 → St8 :=
  List.rec (motive := fun _ => List Int → St8 → St8) (fun _ s => s) (fun k _ ih w s => match w with | [] => s | x :: w => ih w (rnd s k x)) ks
noncomputable def kTab : List Int := [0x428a2f98, 0x71374491, 0xb5c0fbcf, 0xe9b5dba5, 0x3956c25b, 0x59f111f1, 0x923f82a4, 0xab1c5ed5,
    0xd807aa98, 0x12835b01, 0x243185be, 0x550c7dc3, 0x72be5d74, 0x80deb1fe, 0x9bdc06a7, 0xc19bf174,
    0xe49b69c1, 0xefbe4786, 0x0fc19dc6, 0x240ca1cc, 0x2de92c6f, 0x4a7484aa, 0x5cb0a9dc, 0x76f988da,
    0x983e5152, 0xa831c66d, 0xb00327c8, 0xbf597fc7, 0xc6e00bf3, 0xd5a79147, 0x06ca6351, 0x14292967,
    0x27b70a85, 0x2e1b2138, 0x4d2c6dfc, 0x53380d13, 0x650a7354, 0x766a0abb, 0x81c2c92e, 0x92722c85,
    0xa2bfe8a1, 0xa81a664b, 0xc24b8b70, 0xc76c51a3, 0xd192e819, 0xd6990624, 0xf40e3585, 0x106aa070,
    0x19a4c116, 0x1e376c08, 0x2748774c, 0x34b0bcb5, 0x391c0cb3, 0x4ed8aa4a, 0x5b9cca4f, 0x682e6ff3,
    0x748f82ee, 0x78a5636f, 0x84c87814, 0x8cc70208, 0x90befffa, 0xa4506ceb, 0xbef9a3f7, 0xc67178f2]
noncomputable def revI (l : List Int) : List Int → List Int := List.rec (motive := fun _ => List Int → List Int) (fun k => k) (fun x _ ih k => ih (x :: k)) l
noncomputable def blockS (h : St8) (b : List Int) : St8 := rnds kTab (revI (sched 48 (revI (wordsOf 16 b) [])) []) h
noncomputable def addS (h s : St8) : List Int := [uAdd h.a s.a, uAdd h.b s.b, uAdd h.c s.c, uAdd h.d s.d, uAdd h.e s.e, uAdd h.f s.f, uAdd h.g s.g, uAdd h.h s.h]
noncomputable def st8 (l : List Int) : St8 := ⟨nthI l 0, nthI l 1, nthI l 2, nthI l 3, nthI l 4, nthI l 5, nthI l 6, nthI l 7⟩
noncomputable def rndB (s : St8) (k w : Int) : St8 :=
  ⟨uAdd (uAdd (uAdd (uAdd (uAdd (uAdd s.h (uXor (uXor (rot s.e 6 26) (rot s.e 11 21)) (rot s.e 25 7))) (uXor (uAnd s.e s.f) (uAnd (uNot s.e) s.g))) k) w) (uXor (uXor (rot s.a 2 30) (rot s.a 13 19)) (rot s.a 22 10))) (uXor (uXor (uAnd s.a s.b) (uAnd s.a s.c)) (uAnd s.b s.c)),
   s.a, s.b, s.c, uAdd s.d (uAdd (uAdd (uAdd (uAdd s.h (uXor (uXor (rot s.e 6 26) (rot s.e 11 21)) (rot s.e 25 7))) (uXor (uAnd s.e s.f) (uAnd (uNot s.e) s.g))) k) w), s.e, s.f, s.g⟩
noncomputable def rndsB (ks : List Int) : List Int → St8 → St8 :=
  List.rec (motive := fun _ => List Int → St8 → St8) (fun _ s => s) (fun k _ ih w s => match w with | [] => s | x :: w => ih w (rndB s k x)) ks
noncomputable def blockB (h : St8) (b : List Int) : St8 := rndsB kTab (revI (sched 48 (revI (wordsOf 16 b) [])) []) h
noncomputable def addB (h s : St8) : List Int := [uAdd s.a h.a, uAdd s.b h.b, uAdd s.c h.c, uAdd s.d h.d, uAdd s.e h.e, uAdd s.f h.f, uAdd s.g h.g, uAdd s.h h.h]
noncomputable def roundI (h b : List Int) : List Int := addS (st8 h) (blockS (st8 h) b)
noncomputable def blockI (h b : List Int) : List Int := addB (st8 h) (blockB (st8 h) b)
/-- What a call answers, when it answers with a new row. -/
noncomputable def rowAns (n : Nat) (x : Option (AV × AH)) : Option (Nat × Nat × Nat × List AV × List Nat) := match x with
  | some (.sl f v o len 1 c, H) => bif Nat.beq len n then (rowE H f v o n).bind fun l => some (f, v, o, l, H.wr) else none
  | _ => none
theorem round_run (x : Nat → Nat) (y : Nat → Int) : (rowAns 8 (runF noHooks 5 165 [.sl 0 0 0 8 1 none, .str ((List.range 64).map x)] (AH.row ((List.range 8).map fun i => .int .u32 (y i))))).map (fun p => (p.2.2.2.1, memN 0 p.2.2.2.2, Nat.beq p.1 0)) =
   some ((roundI ((List.range 8).map y) ((List.range 64).map fun i => Int.ofNat (x i))).map (AV.int .u32), false, false) := by kernel_rfl
theorem block_run (x : Nat → Int) (y : Nat → Int) : (runF noHooks 5 380 [.agg ((List.range 8).map fun i => .int .u32 (y i)), .sl 0 0 0 64 1 none] (AH.row ((List.range 64).map fun i => .int .u8 (x i)))).map (fun p => (p.1, memN 0 p.2.wr)) =
   some (.agg ((blockI ((List.range 8).map y) ((List.range 64).map x)).map (AV.int .u32)), false) := by kernel_rfl
end Go.Proofs.YtllfnhapnndngaaGreatDoor.E
