/- DERIVED: THE SHELF's CONTRACTS AT THIS DUMP, IN PLAIN WORDS (tools/lay-plain.mjs out of 'YtllfnhapnndngaaGreatDoorTS.lean', which tools/lay-shelf.mjs wrote): THE SAME DECLARATIONS UNDER THE SAME NAMES: 'import', 'namespace', 'open', 'def', 'theorem' AND NOTHING ELSE: no command of the shelf's: FOR A HAND-IN. Each laying: the table of numbers ('.._ren') and one theorem, a field a fact of the dump's own or the kernel's comparison; each contract: ONE APPLICATION. The shelf's contracts on slices.Sorted at string keys, laid at this program. A hook for slices.Sorted at the keys of a map with one entry or none, and at the values of a nil slice. -/
import Derived.Shelf.SlGeneric
import Derived.Shelf.SlIter.Nil
import Derived.Shelf.SortM.Plain
import Derived.Shelf.SortM.SortNone
import Derived.Ground.GgzProg
import Derived.Ground.SlgmProg
import Derived.Test.YtllfnhapnndngaaGreatDoorProg
import Derived.Test.YtllfnhapnndngaaGreatDoorFE
namespace Go.Proofs
open Go.Shelf
def Tryz.sortedS_ren : Go.Shelf.Ren := ⟨fun | 6 => 417 | 8 => 441 | 9 => 442 | 11 => 457 | 13 => 459 | 12 => 458 | 23 => 475 | 24 => 476 | 14 => 466 | 15 => 467 | 16 => 468 | 17 => 469 | 18 => 470 | 19 => 471 | 20 => 472 | 21 => 473 | 22 => 474 | 25 => 487 | 26 => 488 | 27 => 489 | 28 => 490 | 29 => 491 | 30 => 492 | 31 => 498 | n => n, fun | 26 => 9 | 28 => 467 | 24 => 32 | 0 => 0 | 3 => 3 | 37 => 217 | 48 => 275 | 50 => 273 | 4 => 4 | 40 => 509 | 39 => 508 | 45 => 391 | 5 => 5 | 9 => 9 | 51 => 521 | 55 => 303 | 57 => 529 | 58 => 85 | 33 => 115 | n => n, fun | n => n⟩
theorem Tryz.sortedS : Go.Proofs.SlLaysZ.n6 Tryz.prog Tryz.sortedS_ren := {
  mixed := by kernel_rfl
  f6 := ⟨Tryz.f417.name, by decide, Tryz.func417.trans (congrArg some (by kernel_rfl))⟩
  f8 := ⟨Tryz.f441.name, by decide, Tryz.func441.trans (congrArg some (by kernel_rfl))⟩
  f11 := ⟨Tryz.f457.name, by decide, Tryz.func457.trans (congrArg some (by kernel_rfl))⟩
  t0 := Tryz.underlying0
  a0 := Tryz.isAgg0
  z0 := Tryz.sizeOf0
  v0 := Tryz.zeroValue0
  t24 := Tryz.underlying32
  a24 := Tryz.isAgg32
  z24 := Tryz.sizeOf32
  v24 := Tryz.zeroValue32
  t26 := Tryz.underlying9
  a26 := Tryz.isAgg9
  z26 := Tryz.sizeOf9
  v26 := Tryz.zeroValue9
  t28 := Tryz.underlying467
  a28 := Tryz.isAgg467
  z28 := Tryz.sizeOf467
  v28 := Tryz.zeroValue467
  i26 := by kernel_rfl }
def Tryz.sortS_ren : Go.Shelf.Ren := ⟨fun | 6 => 442 | 8 => 459 | 9 => 458 | 19 => 475 | 20 => 476 | 21 => 466 | 22 => 467 | 23 => 468 | 24 => 469 | 25 => 470 | 26 => 471 | 27 => 472 | 28 => 473 | 29 => 474 | 36 => 487 | 31 => 488 | 32 => 489 | 37 => 490 | 38 => 491 | 39 => 492 | 41 => 498 | n => n, fun | 27 => 32 | 29 => 9 | 3 => 3 | 32 => 217 | 26 => 32 | 0 => 0 | 44 => 275 | 46 => 273 | 4 => 4 | 36 => 509 | 35 => 508 | 41 => 391 | 5 => 5 | 9 => 9 | 53 => 521 | 57 => 303 | 63 => 529 | 64 => 85 | n => n, fun | n => n⟩
theorem Tryz.sortS : Go.Proofs.SlLaysM.n6 Tryz.prog Tryz.sortS_ren := {
  mixed := by kernel_rfl
  f6 := ⟨Tryz.f442.name, by decide, Tryz.func442.trans (congrArg some (by kernel_rfl))⟩
  f8 := Tryz.func459.trans (congrArg some (by kernel_rfl))
  f9 := ⟨Tryz.f458.name, by decide, Tryz.func458.trans (congrArg some (by kernel_rfl))⟩
  f19 := Tryz.func475.trans (congrArg some (by kernel_rfl))
  f20 := Tryz.func476.trans (congrArg some (by kernel_rfl))
  f21 := ⟨Tryz.f466.name, by decide, Tryz.func466.trans (congrArg some (by kernel_rfl))⟩
  f22 := ⟨Tryz.f467.name, by decide, Tryz.func467.trans (congrArg some (by kernel_rfl))⟩
  f23 := ⟨Tryz.f468.name, by decide, Tryz.func468.trans (congrArg some (by kernel_rfl))⟩
  f24 := ⟨Tryz.f469.name, by decide, Tryz.func469.trans (congrArg some (by kernel_rfl))⟩
  f25 := ⟨Tryz.f470.name, by decide, Tryz.func470.trans (congrArg some (by kernel_rfl))⟩
  f26 := ⟨Tryz.f471.name, by decide, Tryz.func471.trans (congrArg some (by kernel_rfl))⟩
  f27 := ⟨Tryz.f472.name, by decide, Tryz.func472.trans (congrArg some (by kernel_rfl))⟩
  f28 := ⟨Tryz.f473.name, by decide, Tryz.func473.trans (congrArg some (by kernel_rfl))⟩
  f29 := ⟨Tryz.f474.name, by decide, Tryz.func474.trans (congrArg some (by kernel_rfl))⟩
  f31 := Tryz.func488.trans (congrArg some (by kernel_rfl))
  f32 := Tryz.func489.trans (congrArg some (by kernel_rfl))
  f36 := ⟨Tryz.f487.name, by decide, Tryz.func487.trans (congrArg some (by kernel_rfl))⟩
  f37 := ⟨Tryz.f490.name, by decide, Tryz.func490.trans (congrArg some (by kernel_rfl))⟩
  f38 := ⟨Tryz.f491.name, by decide, Tryz.func491.trans (congrArg some (by kernel_rfl))⟩
  f39 := ⟨Tryz.f492.name, by decide, Tryz.func492.trans (congrArg some (by kernel_rfl))⟩
  f41 := ⟨Tryz.f498.name, by decide, Tryz.func498.trans (congrArg some (by kernel_rfl))⟩
  t0 := Tryz.underlying0
  a0 := Tryz.isAgg0
  z0 := Tryz.sizeOf0
  v0 := Tryz.zeroValue0
  t3 := Tryz.underlying3
  a3 := Tryz.isAgg3
  z3 := Tryz.sizeOf3
  v3 := Tryz.zeroValue3
  t4 := Tryz.underlying4
  a4 := Tryz.isAgg4
  z4 := Tryz.sizeOf4
  v4 := Tryz.zeroValue4
  t5 := Tryz.underlying5
  a5 := Tryz.isAgg5
  z5 := Tryz.sizeOf5
  v5 := Tryz.zeroValue5
  t9 := Tryz.underlying9
  a9 := Tryz.isAgg9
  z9 := Tryz.sizeOf9
  v9 := Tryz.zeroValue9
  t26 := Tryz.underlying32
  a26 := Tryz.isAgg32
  z26 := Tryz.sizeOf32
  v26 := Tryz.zeroValue32
  t27 := Tryz.underlying32
  a27 := Tryz.isAgg32
  z27 := Tryz.sizeOf32
  v27 := Tryz.zeroValue32
  t29 := Tryz.underlying9
  a29 := Tryz.isAgg9
  z29 := Tryz.sizeOf9
  v29 := Tryz.zeroValue9
  t32 := Tryz.underlying217
  a32 := Tryz.isAgg217
  z32 := Tryz.sizeOf217
  v32 := Tryz.zeroValue217
  t35 := Tryz.underlying508
  a35 := Tryz.isAgg508
  z35 := Tryz.sizeOf508
  v35 := Tryz.zeroValue508
  t36 := Tryz.underlying509
  a36 := Tryz.isAgg509
  z36 := Tryz.sizeOf509
  v36 := Tryz.zeroValue509
  t41 := Tryz.underlying391
  a41 := Tryz.isAgg391
  z41 := Tryz.sizeOf391
  v41 := Tryz.zeroValue391
  t44 := Tryz.underlying275
  a44 := Tryz.isAgg275
  z44 := Tryz.sizeOf275
  v44 := Tryz.zeroValue275
  t46 := Tryz.underlying273
  a46 := Tryz.isAgg273
  z46 := Tryz.sizeOf273
  v46 := Tryz.zeroValue273
  t53 := Tryz.underlying521
  a53 := Tryz.isAgg521
  z53 := Tryz.sizeOf521
  v53 := Tryz.zeroValue521
  t57 := Tryz.underlying303
  a57 := Tryz.isAgg303
  z57 := Tryz.sizeOf303
  v57 := Tryz.zeroValue303
  t63 := Tryz.underlying529
  a63 := Tryz.isAgg529
  z63 := Tryz.sizeOf529
  v63 := Tryz.zeroValue529
  t64 := Tryz.underlying85
  a64 := Tryz.isAgg85
  z64 := Tryz.sizeOf85
  v64 := Tryz.zeroValue85 }
def Tryz.keysS0_ren : Go.Shelf.Ren := ⟨fun | 7 => 418 | 10 => 443 | n => n, fun | 23 => 458 | 26 => 9 | 3 => 32 | 28 => 467 | 0 => 0 | 27 => 466 | 33 => 115 | 4 => 4 | n => n, fun | n => n⟩
theorem Tryz.keysS0 : Go.Proofs.SlLaysZ.n7 Tryz.prog Tryz.keysS0_ren := {
  mixed := by kernel_rfl
  f7 := ⟨Tryz.f418.name, by decide, Tryz.func418.trans (congrArg some (by kernel_rfl))⟩
  f10 := ⟨Tryz.f443.name, by decide, Tryz.func443.trans (congrArg some (by kernel_rfl))⟩
  t0 := Tryz.underlying0
  a0 := Tryz.isAgg0
  z0 := Tryz.sizeOf0
  v0 := Tryz.zeroValue0
  t4 := Tryz.underlying4
  a4 := Tryz.isAgg4
  z4 := Tryz.sizeOf4
  v4 := Tryz.zeroValue4
  t23 := Tryz.underlying458
  a23 := Tryz.isAgg458
  z23 := Tryz.sizeOf458
  v23 := Tryz.zeroValue458
  t26 := Tryz.underlying9
  a26 := Tryz.isAgg9
  z26 := Tryz.sizeOf9
  v26 := Tryz.zeroValue9
  t27 := Tryz.underlying466
  a27 := Tryz.isAgg466
  z27 := Tryz.sizeOf466
  v27 := Tryz.zeroValue466
  t28 := Tryz.underlying467
  a28 := Tryz.isAgg467
  z28 := Tryz.sizeOf467
  v28 := Tryz.zeroValue467
  t33 := Tryz.underlying115
  a33 := Tryz.isAgg115
  z33 := Tryz.sizeOf115
  v33 := Tryz.zeroValue115 }
def Tryz.keysS1_ren : Go.Shelf.Ren := ⟨fun | 7 => 424 | 10 => 447 | n => n, fun | 23 => 185 | 26 => 9 | 3 => 4 | 28 => 467 | 0 => 0 | 27 => 466 | 33 => 115 | 4 => 4 | n => n, fun | n => n⟩
theorem Tryz.keysS1 : Go.Proofs.SlLaysZ.n7 Tryz.prog Tryz.keysS1_ren := {
  mixed := by kernel_rfl
  f7 := ⟨Tryz.f424.name, by decide, Tryz.func424.trans (congrArg some (by kernel_rfl))⟩
  f10 := ⟨Tryz.f447.name, by decide, Tryz.func447.trans (congrArg some (by kernel_rfl))⟩
  t0 := Tryz.underlying0
  a0 := Tryz.isAgg0
  z0 := Tryz.sizeOf0
  v0 := Tryz.zeroValue0
  t4 := Tryz.underlying4
  a4 := Tryz.isAgg4
  z4 := Tryz.sizeOf4
  v4 := Tryz.zeroValue4
  t23 := Tryz.underlying185
  a23 := Tryz.isAgg185
  z23 := Tryz.sizeOf185
  v23 := Tryz.zeroValue185
  t26 := Tryz.underlying9
  a26 := Tryz.isAgg9
  z26 := Tryz.sizeOf9
  v26 := Tryz.zeroValue9
  t27 := Tryz.underlying466
  a27 := Tryz.isAgg466
  z27 := Tryz.sizeOf466
  v27 := Tryz.zeroValue466
  t28 := Tryz.underlying467
  a28 := Tryz.isAgg467
  z28 := Tryz.sizeOf467
  v28 := Tryz.zeroValue467
  t33 := Tryz.underlying115
  a33 := Tryz.isAgg115
  z33 := Tryz.sizeOf115
  v33 := Tryz.zeroValue115 }
def Tryz.keysS2_ren : Go.Shelf.Ren := ⟨fun | 7 => 445 | 10 => 462 | n => n, fun | 23 => 470 | 26 => 9 | 3 => 24 | 28 => 467 | 0 => 0 | 27 => 466 | 33 => 115 | 4 => 4 | n => n, fun | n => n⟩
theorem Tryz.keysS2 : Go.Proofs.SlLaysZ.n7 Tryz.prog Tryz.keysS2_ren := {
  mixed := by kernel_rfl
  f7 := ⟨Tryz.f445.name, by decide, Tryz.func445.trans (congrArg some (by kernel_rfl))⟩
  f10 := ⟨Tryz.f462.name, by decide, Tryz.func462.trans (congrArg some (by kernel_rfl))⟩
  t0 := Tryz.underlying0
  a0 := Tryz.isAgg0
  z0 := Tryz.sizeOf0
  v0 := Tryz.zeroValue0
  t4 := Tryz.underlying4
  a4 := Tryz.isAgg4
  z4 := Tryz.sizeOf4
  v4 := Tryz.zeroValue4
  t23 := Tryz.underlying470
  a23 := Tryz.isAgg470
  z23 := Tryz.sizeOf470
  v23 := Tryz.zeroValue470
  t26 := Tryz.underlying9
  a26 := Tryz.isAgg9
  z26 := Tryz.sizeOf9
  v26 := Tryz.zeroValue9
  t27 := Tryz.underlying466
  a27 := Tryz.isAgg466
  z27 := Tryz.sizeOf466
  v27 := Tryz.zeroValue466
  t28 := Tryz.underlying467
  a28 := Tryz.isAgg467
  z28 := Tryz.sizeOf467
  v28 := Tryz.zeroValue467
  t33 := Tryz.underlying115
  a33 := Tryz.isAgg115
  z33 := Tryz.sizeOf115
  v33 := Tryz.zeroValue115 }
end Go.Proofs
namespace Go.Proofs
open Go.RowKit Go.Maps Go.Sort Go.Shelf
theorem Tryz.sortsS (m : Nat) : AnyZ.SortsIn Tryz.prog Tryz.sortedS_ren Fence.wide m :=
  ⟨fun blk off cap ss W hH hblk hsz => callsIn_wide.2 (AnyM.slices_Sort_string Tryz.sortS blk off cap ss W hH hblk hsz),
   fun p cap W => callsIn_wide.2 (AnyM.slices_Sort_string_none Tryz.sortS p cap W)⟩
set_option maxHeartbeats 1000000 in
theorem Tryz.sorted_of (g Bm : Nat) (eg : ∀ args w, (callFunc g args).run Tryz.prog w = .ok (.enter g args) w) (S : List (List UInt8) → Prop) (N : Nat) (hN : N ≤ 1000000) (w : World) (hseq : SeqGives Fence.wide 2 Tryz.prog g #[.pointer (some ⟨Bm, 0, none⟩)] encStr S N w) :
    Calls Tryz.prog 417 #[.func (.func g) #[] #[.pointer (some ⟨Bm, 0, none⟩)]] w fun e w' => ∃ (v : Value) (ss : List (List UInt8)), e = .returned v ∧ S ss ∧
      w'.ownsRow w.heap.size 9 1 v ss.length ((ss.mergeSort (fun x y => decide (x ≤ y))).map encStr) ∧ (v = .slice none 0 0 ↔ ss = []) ∧ Below w.heap.size w w' :=
  callsIn_wide.1 (AnyZ.sorted_in Tryz.sortedS Fence.wide 5 trivial trivial trivial trivial rfl (by omega) (Tryz.sortsS _) (enters_of Tryz.func442 (by kernel_rfl) rfl) g #[.pointer (some ⟨Bm, 0, none⟩)] trivial eg S N (by simp only [maxLen]; omega) (by omega) w hseq)
set_option maxHeartbeats 1000000 in
theorem Tryz.seqS0 {H : Type} (Bm b nn : Nat) (D0 : DataW H) (R : Value → Option (DataW H × List MemPlace)) (w : World) (hBm : Bm < w.heap.size) (hm : w.cell? ⟨Bm, 0, none⟩ = some (.map (some b))) (hown : w.ownsMap Tryz.prog 9 R b nn D0) :
    SeqGives Fence.wide 2 Tryz.prog 443 #[.pointer (some ⟨Bm, 0, none⟩)] encStr (fun ss => ss.Perm (strKeys D0)) (Maps.size D0) w :=
  AnyZ.keys_gives (ρ := Tryz.keysS0_ren) { Tryz.keysS0 with } Fence.wide _ trivial rfl (by omega) Bm b nn D0 w hBm hm hown
theorem Tryz.entersS0 (args : Array Value) (w : World) : (callFunc 443 args).run Tryz.prog w = .ok (.enter 443 args) w := enters_of Tryz.func443 (by kernel_rfl) rfl args w
theorem Tryz.sortedK0 {H : Type} (Bm b nn : Nat) (D0 : DataW H) (R : Value → Option (DataW H × List MemPlace)) (w : World) (hBm : Bm < w.heap.size) (hm : w.cell? ⟨Bm, 0, none⟩ = some (.map (some b))) (hown : w.ownsMap Tryz.prog 9 R b nn D0) (hs : Maps.size D0 ≤ 1000000) :
    Calls Tryz.prog 417 #[.func (.func 443) #[] #[.pointer (some ⟨Bm, 0, none⟩)]] w fun e w' => ∃ (v : Value) (ss : List (List UInt8)), e = .returned v ∧ ss.Perm (strKeys D0) ∧
      w'.ownsRow w.heap.size 9 1 v ss.length ((ss.mergeSort (fun x y => decide (x ≤ y))).map encStr) ∧ (v = .slice none 0 0 ↔ ss = []) ∧ Below w.heap.size w w' :=
  Tryz.sorted_of 443 Bm Tryz.entersS0 _ _ hs w (Tryz.seqS0 Bm b nn D0 R w hBm hm hown)
set_option maxHeartbeats 1000000 in
theorem Tryz.seqS1 {H : Type} (Bm b nn : Nat) (D0 : DataW H) (R : Value → Option (DataW H × List MemPlace)) (w : World) (hBm : Bm < w.heap.size) (hm : w.cell? ⟨Bm, 0, none⟩ = some (.map (some b))) (hown : w.ownsMap Tryz.prog 9 R b nn D0) :
    SeqGives Fence.wide 2 Tryz.prog 447 #[.pointer (some ⟨Bm, 0, none⟩)] encStr (fun ss => ss.Perm (strKeys D0)) (Maps.size D0) w :=
  AnyZ.keys_gives (ρ := Tryz.keysS1_ren) { Tryz.keysS1 with } Fence.wide _ trivial rfl (by omega) Bm b nn D0 w hBm hm hown
theorem Tryz.entersS1 (args : Array Value) (w : World) : (callFunc 447 args).run Tryz.prog w = .ok (.enter 447 args) w := enters_of Tryz.func447 (by kernel_rfl) rfl args w
theorem Tryz.sortedK1 {H : Type} (Bm b nn : Nat) (D0 : DataW H) (R : Value → Option (DataW H × List MemPlace)) (w : World) (hBm : Bm < w.heap.size) (hm : w.cell? ⟨Bm, 0, none⟩ = some (.map (some b))) (hown : w.ownsMap Tryz.prog 9 R b nn D0) (hs : Maps.size D0 ≤ 1000000) :
    Calls Tryz.prog 417 #[.func (.func 447) #[] #[.pointer (some ⟨Bm, 0, none⟩)]] w fun e w' => ∃ (v : Value) (ss : List (List UInt8)), e = .returned v ∧ ss.Perm (strKeys D0) ∧
      w'.ownsRow w.heap.size 9 1 v ss.length ((ss.mergeSort (fun x y => decide (x ≤ y))).map encStr) ∧ (v = .slice none 0 0 ↔ ss = []) ∧ Below w.heap.size w w' :=
  Tryz.sorted_of 447 Bm Tryz.entersS1 _ _ hs w (Tryz.seqS1 Bm b nn D0 R w hBm hm hown)
set_option maxHeartbeats 1000000 in
theorem Tryz.seqS2 {H : Type} (Bm b nn : Nat) (D0 : DataW H) (R : Value → Option (DataW H × List MemPlace)) (w : World) (hBm : Bm < w.heap.size) (hm : w.cell? ⟨Bm, 0, none⟩ = some (.map (some b))) (hown : w.ownsMap Tryz.prog 9 R b nn D0) :
    SeqGives Fence.wide 2 Tryz.prog 462 #[.pointer (some ⟨Bm, 0, none⟩)] encStr (fun ss => ss.Perm (strKeys D0)) (Maps.size D0) w :=
  AnyZ.keys_gives (ρ := Tryz.keysS2_ren) { Tryz.keysS2 with } Fence.wide _ trivial rfl (by omega) Bm b nn D0 w hBm hm hown
theorem Tryz.entersS2 (args : Array Value) (w : World) : (callFunc 462 args).run Tryz.prog w = .ok (.enter 462 args) w := enters_of Tryz.func462 (by kernel_rfl) rfl args w
theorem Tryz.sortedK2 {H : Type} (Bm b nn : Nat) (D0 : DataW H) (R : Value → Option (DataW H × List MemPlace)) (w : World) (hBm : Bm < w.heap.size) (hm : w.cell? ⟨Bm, 0, none⟩ = some (.map (some b))) (hown : w.ownsMap Tryz.prog 9 R b nn D0) (hs : Maps.size D0 ≤ 1000000) :
    Calls Tryz.prog 417 #[.func (.func 462) #[] #[.pointer (some ⟨Bm, 0, none⟩)]] w fun e w' => ∃ (v : Value) (ss : List (List UInt8)), e = .returned v ∧ ss.Perm (strKeys D0) ∧
      w'.ownsRow w.heap.size 9 1 v ss.length ((ss.mergeSort (fun x y => decide (x ≤ y))).map encStr) ∧ (v = .slice none 0 0 ↔ ss = []) ∧ Below w.heap.size w w' :=
  Tryz.sorted_of 462 Bm Tryz.entersS2 _ _ hs w (Tryz.seqS2 Bm b nn D0 R w hBm hm hown)
end Go.Proofs
namespace Go.Proofs.YtllfnhapnndngaaGreatDoor.E
open Go Go.Proofs
set_option linter.unusedVariables false
set_option linter.unusedSimpArgs false
set_option maxRecDepth 100000
/-- A row that lies in a new block, taken into memory. -/
theorem Rel.adopt0 {ρ : Rho} {H : AH} {w w' : World} (hr : Rel ρ H w) (hs : Same w w') {gb : Nat} {cs : Array Value} {el : TypeId} {fr : Nat × Nat} (hge : w.heap.size ≤ gb) (hgb : w'.heap[gb]? = some (.cells cs el fr)) (hfr : frozenOff fr cs.size)
    {l : List AV} (h1 : ∀ x ∈ l, x.one = true) {ys : List Value} (hl : RL ρ l ys) (hcs : ∀ (j : Nat) (y : Value), ys[j]? = some y → cs[j]? = some y) :
    ∃ ρ', Rel ρ' (H.new l) w' ∧ Stp ρ H w ρ' (H.new l) w' ∧ ρ' H.next 0 = some ⟨gb, 0, l.length, cs.size - l.length⟩ := by
  have hnone : ∀ v, ρ H.next v = none := fun v => by
    cases h : ρ H.next v with
    | none => rfl
    | some im => exact absurd (hr.fresh _ _ _ h) (by omega)
  have hle : ρ.le (ρ.add H.next 0 ⟨gb, 0, l.length, cs.size - l.length⟩) := Rho.le_add _ _ (hnone 0)
  have hadd : ∀ v im, (ρ.add H.next 0 ⟨gb, 0, l.length, cs.size - l.length⟩) H.next v = some im → v = 0 ∧ im = ⟨gb, 0, l.length, cs.size - l.length⟩ := by
    intro v im h
    by_cases hv : v = 0
    · subst hv; rw [Rho.add_same] at h; cases h; exact ⟨rfl, rfl⟩
    · rw [Rho.add_ne _ _ (by simp [hv]), hnone] at h; cases h
  have hlen : l.length ≤ cs.size := by
    rcases Nat.lt_or_ge cs.size l.length with h | h
    · have hlt : cs.size < ys.length := by rw [← hl.length]; exact h
      have := hcs cs.size _ (List.getElem?_eq_getElem hlt)
      simp at this
    · exact h
  have hgbl := (Array.getElem?_eq_some_iff.1 hgb).1
  have key := Rel.change (ρ' := ρ.add H.next 0 ⟨gb, 0, l.length, cs.size - l.length⟩) (f := H.next) (nx := H.next + 1) (b' := .cells 0 0 l.length (Tr.leaf.puts 0 l)) (w' := w') hr hle
    (fun g v hg => Rho.add_ne _ _ (by simp [hg])) (by omega) (by omega) (.inl (Nat.le_refl _)) (fun im h _ => by rw [(hadd 0 im h).2]) hs.size hs.os hs.tape hs.output ?_ (fun k hk _ => hs.heap k hk) ?_ ?_
  · exact ⟨_, key.1, key.2, Rho.add_same _ _ _ _⟩
  · refine ⟨fun v im h => ?_, fun v im _ h => ?_⟩
    · obtain ⟨rfl, rfl⟩ := hadd v im h; simp
    · obtain ⟨rfl, rfl⟩ := hadd v im h
      refine ⟨Img.le _, cs, el, fr, hgb, by simp only [Img.room]; omega, hfr, fun i x hi hx => ?_⟩
      have hx' := get_leaf_puts l i x hx
      obtain ⟨y, hy, hR⟩ := hl.get i x hx'
      exact ⟨h1 x (List.mem_of_getElem? hx'), y, by simpa using hcs i y hy, R.mono hle hR⟩
  · intro v im _ h
    obtain ⟨rfl, rfl⟩ := hadd v im h
    exact ⟨hgbl, fun h => by have h' : gb < w.heap.size := h; omega⟩
  · intro v u im jm _ _ h h' _
    obtain ⟨_, rfl⟩ := hadd v im h
    obtain ⟨_, rfl⟩ := hadd u jm h'
    rfl
/-- What a box of one cell holds. -/
noncomputable def boxE (H : AH) (p : Nat) : Option AV :=
  (H.t.get p).bind fun b => match b with
    | .cells 0 _ 1 c => c.get 0
    | _ => none
theorem box_ok {ρ : Rho} {H : AH} {w : World} (hr : Rel ρ H w) {p o : Nat} {x : AV} (h : boxE H p = some x) {y : Value} (hy : R ρ (.ptr p 0 o 1) y) :
    ∃ cb cs el fr z, y = .pointer (some ⟨cb, 0, none⟩) ∧ w.heap[cb]? = some (.cells cs el fr) ∧ cs[0]? = some z ∧ R ρ x z ∧ frozenOff fr cs.size := by
  simp only [boxE, Option.bind_eq_some_iff] at h
  obtain ⟨b, hb, h⟩ := h
  split at h
  · cases hy with
    | ptr _ _ _ _ im him hk =>
      obtain ⟨h1, h2⟩ := hr.blk p _ hb
      have hsz := (h1 0 im him).2
      obtain ⟨h0, cs, el, fr, e1, e2, e3, e4⟩ := h2 0 im (Nat.zero_le _) him
      have hs1 : im.sz = 1 := by omega
      have hbase := hr.root p im him hs1
      have ho : o = 0 := by omega
      subst ho
      obtain ⟨a, z, hz, hR⟩ := e4 0 x (by omega) h
      rw [hbase] at hz
      refine ⟨im.cb, cs, el, fr, z, by rw [hbase], e1, by simpa using hz, hR, e3⟩
  · cases h
def nilIt (g : Nat) : Bool := Nat.beq g 450
/-- The hook. -/
noncomputable def sortN (base : CF) : CF := fun f xs H =>
  bif Nat.beq f 417 then
    (match xs with
    | [.fn g [] [.ptr p 0 o 1]] => (boxE H p).bind fun m => match m with
      | .map q => bif memN g [443, 447, 462] then (entriesE H (.map q)).bind fun es => match es with
          | [] => some (.nils, H)
          | [(.str k, _)] => bif Nat.ble k.length 1000 then some (.sl H.next 0 0 1 1 none, H.new [.str k]) else none
          | _ => none
        else none
      | .nils => bif nilIt g then some (.nils, H) else none
      | _ => none
    | _ => none)
  else base f xs H
theorem sortN_log {base : CF} (hb : LogOk base) : LogOk (sortN base) := by
  intro f xs H v H' h
  unfold sortN at h
  rcases cond_two h with h | h
  · split at h
    · simp only [Option.bind_eq_some_iff] at h
      obtain ⟨m, hm, h⟩ := h
      split at h
      · replace h := cond_some h
        obtain ⟨_, h⟩ := h
        simp only [Option.bind_eq_some_iff] at h
        obtain ⟨es, hes, h⟩ := h
        split at h
        · cases h; exact Logged.refl _
        · replace h := cond_some h
          obtain ⟨_, h⟩ := h
          cases h; exact Logged.new _ _
        · cases h
      · replace h := cond_some h
        obtain ⟨_, h⟩ := h
        cases h; exact Logged.refl _
      · cases h
    · cases h
  · exact hb _ _ _ _ _ h
theorem below_same {w w' : World} (h : RowKit.Below w.heap.size w w') : Same w w' := ⟨h.os, h.tape, h.output, h.size, h.block⟩
theorem keyOf9 (s : ByteArray) (hs : s.size ≤ maxLen) : keyOf Tryz.prog 9 (.string s) = some (.string s.data.toList) := by
  simp [keyOf, mapKey, Tryz.underlying9, hs]
/-- The reading of a map's values: none is looked at. -/
def noVal : Value → Option (DataW Unit × List MemPlace) := fun _ => some (.nil, [])
theorem owns_small {w : World} {b : Nat} {es : Array MapEntry} {ck : Nat} (h : w.heap[b]? = some (.map es ck)) (hb : ∀ e ∈ es.toList, e.born < ck) {ks : List (List UInt8)} (hk : es.toList.map (·.key) = ks.map fun k => Value.string ⟨k.toArray⟩) (hks : ks.length ≤ 1) (hlen : ∀ k ∈ ks, k.length ≤ 1000) :
    ∃ D0 : DataW Unit, w.ownsMap Tryz.prog 9 noVal b 1 D0 ∧ strKeys D0 = ks ∧ Maps.size D0 ≤ 1 := by
  match ks, hks with
  | [], _ =>
    have he : es.toList = [] := by
      cases hc : es.toList with
      | nil => rfl
      | cons a l => rw [hc] at hk; simp at hk
    have he' : es = #[] := by cases es; simp_all
    subst he'
    exact ⟨.map [], ⟨#[], ck, h, ⟨by simp, MapKept.stamped_empty ck, by simp⟩, by simp, rfl⟩, rfl, by simp [Maps.size]⟩
  | [k], _ =>
    have he : ∃ e, es.toList = [e] ∧ e.key = .string ⟨k.toArray⟩ := by
      cases hc : es.toList with
      | nil => rw [hc] at hk; simp at hk
      | cons a l =>
        rw [hc] at hk
        cases l with
        | nil => simp at hk; exact ⟨a, rfl, hk⟩
        | cons a' l => simp at hk
    obtain ⟨e, he1, he2⟩ := he
    have hsz : (⟨k.toArray⟩ : ByteArray).size ≤ maxLen := by
      show k.toArray.size ≤ maxLen
      have := hlen k (by simp)
      simp [maxLen]; omega
    have hkey := keyOf9 ⟨k.toArray⟩ hsz
    have hrd : WideElems.rd Tryz.prog 9 noVal e = some (.string k, .nil) := by
      unfold WideElems.rd
      rw [he2, hkey]
      simp [noVal]
    have hsize : es.size = 1 := by rw [← Array.length_toList, he1]; rfl
    refine ⟨.map [(.string k, .nil)], ⟨es, ck, h, ⟨by rw [hsize]; simp [maxLen], ⟨hb, by rw [he1]; simp, by rw [he1]; simp⟩, ?_⟩, by omega, ?_⟩, rfl, by simp [Maps.size]⟩
    · intro x hx
      rw [he1] at hx
      simp at hx
      subst hx
      exact ⟨_, hrd⟩
    · rw [he1]
      simp [WideElems.rg_of hrd, DataW.insert]
theorem merge_one (ss : List (List UInt8)) (k : List UInt8) (h : ss.Perm [k]) : ss = [k] := by
  have hl := h.length_eq
  match ss, hl with
  | [a], _ => have := h.mem_iff (a := a); simp at this; rw [this]
/-! ### slices.Values of a nil slice gives nothing -/
noncomputable def body450 : Code := match fdOf Tryz.f450 with | some d => d.code | none => .skip
theorem body425_eq : Tryz.f450.body = some body450 := rfl
theorem run450 : (codeE env noHooks (fun _ _ _ => none) 10 16 body450 (Tr.leaf.set 1 (.ptr 0 0 0 1)) (AH.row [.nils])).map (fun p => (match p.1 with | .normal => true | _ => false, memN 0 p.2.2.wr)) = some (true, false) := by kernel_rfl
theorem rel_box {W : World} {Bm : Nat} {cs : Array Value} {el : TypeId} {fr : Nat × Nat} (hblk : W.heap[Bm]? = some (.cells cs el fr)) (hc : cs[0]? = some (.slice none 0 0)) (hfr : frozenOff fr cs.size) : Rel (rho1 ⟨Bm, 0, 1, cs.size - 1⟩) (AH.row [.nils]) W := by
  have hpos : 0 < cs.size := (Array.getElem?_eq_some_iff.1 hc).1
  have himg : ∀ g u jm, rho1 ⟨Bm, 0, 1, cs.size - 1⟩ g u = some jm → g = 0 ∧ u = 0 ∧ jm = ⟨Bm, 0, 1, cs.size - 1⟩ := by
    intro g u jm hu
    unfold rho1 at hu
    split at hu
    · rename_i hc; cases hu; exact ⟨hc.1, hc.2, rfl⟩
    · cases hu
  refine ⟨?_, ?_, ?_, ?_, ?_, ?_, ?_⟩
  · intro g b' hb'
    obtain ⟨rfl, rfl⟩ := row_get hb'
    refine ⟨fun u jm hu => ?_, fun u jm _ hu => ?_⟩
    · obtain ⟨_, rfl, rfl⟩ := himg 0 u jm hu; simp
    · obtain ⟨_, rfl, rfl⟩ := himg 0 u jm hu
      refine ⟨Img.le _, cs, el, fr, hblk, by simp only [Img.room]; omega, hfr, fun i x hi hx => ?_⟩
      have hi' : i < 1 := hi
      have hi0 : i = 0 := by omega
      subst hi0
      have hx' := get_leaf_puts [AV.nils] 0 x hx
      simp at hx'
      subst hx'
      exact ⟨rfl, _, by simpa using hc, .nils⟩
  · intro g v' k u im' jm' hne hl1 hl2
    obtain ⟨b1, hb1, _⟩ := hl1
    obtain ⟨b2, hb2, _⟩ := hl2
    exact absurd ((row_get hb1).1.trans (row_get hb2).1.symm) hne
  · intro g v' u im' jm' hl1 hl2 hi hj _
    obtain ⟨_, _, rfl⟩ := himg _ _ _ hi
    obtain ⟨_, _, rfl⟩ := himg _ _ _ hj
    rfl
  · intro g v' im' hi
    obtain ⟨rfl, _, _⟩ := himg _ _ _ hi
    exact Nat.zero_lt_one
  · intro g v' im' hl1 hi
    obtain ⟨_, _, rfl⟩ := himg _ _ _ hi
    exact (Array.getElem?_eq_some_iff.1 hblk).1
  · intro g b' hb'
    rw [(row_get hb').1]; exact Nat.zero_lt_one
  · intro g im' hi _
    obtain ⟨_, _, rfl⟩ := himg _ _ _ hi
    rfl
theorem getD_two (x y : Value) (k : Nat) : (#[x] ++ #[y] ++ Array.replicate k undef).getD 1 undef = y := by simp [Array.getElem?_append]
theorem size_two (x y : Value) (m n : Nat) (h : m = n) : (#[x] ++ #[y] ++ Array.replicate (m - (#[x] ++ #[y]).size) undef).size = n - 2 + 2 := by subst h; simp; omega
theorem nt450 : Tryz.f450.ntmps = 16 := by kernel_rfl
theorem seq_nilvalues {w : World} {Bm : Nat} {cs : Array Value} {el : TypeId} {fr : Nat × Nat} (hblk : w.heap[Bm]? = some (.cells cs el fr)) (hc : cs[0]? = some (.slice none 0 0)) (hfr : frozenOff fr cs.size) :
    SeqGives Fence.wide 2 Tryz.prog 450 #[.pointer (some ⟨Bm, 0, none⟩)] encStr (fun ss : List (List UInt8) => ss = []) 0 w := by
  intro l J W hW hJ hY h0
  have hBm := (Array.getElem?_eq_some_iff.1 hblk).1
  have hblk' : W.heap[Bm]? = some (.cells cs el fr) := by rw [hW.block Bm hBm]; exact hblk
  have hrel := rel_box hblk' hc hfr
  refine callsIn_wide.2 ?_
  refine calls_of_wp (fn := Tryz.f450) (c := body450) Tryz.func450 body425_eq ?_
  have hrun := run450
  cases hres : codeE env noHooks (fun _ _ _ => none) 10 16 body450 (Tr.leaf.set 1 (.ptr 0 0 0 1)) (AH.row [.nils]) with
  | none => rw [hres] at hrun; cases hrun
  | some p =>
    obtain ⟨e, r', H'⟩ := p
    rw [hres] at hrun
    simp only [Option.map_some, Option.some.injEq, Prod.mk.injEq] at hrun
    obtain ⟨q1, q2⟩ := hrun
    refine codeE_ok env_ok noHooks_ok (dr := fun _ _ _ => none) (by intro ops r H r' H' h; cases h) body450 _ _ _ _ _ hres (rho1 ⟨Bm, 0, 1, cs.size - 1⟩) _ W _ ?_ hrel ?_ fun ρ' a' w' g1 g2 g3 g4 g5 => ?_
    · intro i x hx
      rw [Tr.get_set] at hx
      by_cases hi : 1 = i
      · rw [if_pos hi] at hx
        cases hx
        subst hi
        have := R.ptr (ρ := rho1 ⟨Bm, 0, 1, cs.size - 1⟩) 0 0 0 1 ⟨Bm, 0, 1, cs.size - 1⟩ (by simp [rho1]) (Nat.le_refl 1)
        have this' : R (rho1 ⟨Bm, 0, 1, cs.size - 1⟩) (AV.ptr 0 0 0 1) (Value.pointer (some ⟨Bm, 0, none⟩)) := this
        refine Eq.mp (congrArg (R _ _) ?_) this'
        exact (getD_two _ _ _).symm
      · rw [if_neg hi] at hx; cases hx
    · exact size_two _ _ _ 16 nt450
    · have hsame : Same W w' := by
        refine ⟨g3.os, g3.tape, g3.output, g3.size, fun k hk => ?_⟩
        by_cases hh : Held (rho1 ⟨Bm, 0, 1, cs.size - 1⟩) (AH.row [.nils]) k
        · obtain ⟨g, u, im, hl, hi, rfl⟩ := hh
          obtain ⟨ws, a, b⟩ := g3.keep
          obtain ⟨bb, hb, _⟩ := id hl
          have hg : g ∉ ws := by
            rw [(row_get hb).1]
            have := memN_false q2
            rw [a] at this
            exact fun hm => this (List.mem_append_left _ hm)
          exact (b g hg).2 u im hl hi
        · exact g3.frame k hk hh
      have hJ' : J [] w' := hJ [] W w' none h0 ⟨hsame.os, hsame.tape, hsame.output, hsame.size, fun k hk _ => hsame.heap k hk⟩ (by intro r e; cases e)
      cases e with
      | normal => exact ⟨g5, .tuple #[], results_none rfl _ _ _, ⟨_, rfl⟩, [], rfl, hJ'⟩
      | exit id => cases q1
      | ret => cases q1
/-! ### The hook -/
theorem RM.keys {ρ : Rho} : ∀ {l : List (AV × AV)} {es : List MapEntry} {n : Nat}, RM ρ l es n → RL ρ (l.map Prod.fst) (es.map (·.key)) := by
  intro l
  induction l with
  | nil => intro es n h; cases h; exact .nil
  | cons p l ih => intro es n h; cases h with | cons k v e _ es n a b c => exact .cons _ _ _ _ a (ih c)
theorem str_val {s : ByteArray} : Value.string s = Value.string ⟨s.data.toList.toArray⟩ := by simp
theorem sortN_ok {base : CF} (hb : CallOk Tryz.prog base) : CallOk Tryz.prog (sortN base) := by
  intro f xs H v H' h ρ w args hr hx
  unfold sortN at h
  cases hf : Nat.beq f 417 with
  | false => rw [hf] at h; exact hb f xs H v H' h ρ w args hr hx
  | true =>
    rw [hf] at h
    simp only [cond_true] at h
    have := Nat.eq_of_beq_eq_true hf
    subst this
    have hent : (callFunc 417 args).run Tryz.prog w = .ok (.enter 417 args) w := enters_of Tryz.func417 (by kernel_rfl) rfl args w
    refine ⟨hent, ?_⟩
    split at h
    · rename_i g p o
      simp only [Option.bind_eq_some_iff] at h
      obtain ⟨m, hm, h⟩ := h
      obtain ⟨avs, hav⟩ : ∃ avs, args = avs.toArray := ⟨args.toList, by simp⟩
      subst hav
      have hx' : RL ρ [.fn g [] [.ptr p 0 o 1]] avs := by simpa using hx
      cases hx' with
      | cons _ fv _ ys hfv hnil =>
      cases hnil
      cases hfv with
      | fn _ _ _ fa ca hfa hca =>
      cases hfa
      cases hca with
      | cons _ bv _ ys hbv hnil =>
      cases hnil
      obtain ⟨cb, cs, el, fr, z, rfl, e1, e2, e3, e4⟩ := box_ok hr hm hbv
      have hcbl := (Array.getElem?_eq_some_iff.1 e1).1
      have hcell : w.cell? ⟨cb, 0, none⟩ = some z := by rw [cell_blk e1]; exact e2
      split at h
      · rename_i q
        replace h := cond_some h
        obtain ⟨hg, h⟩ := h
        simp only [Option.bind_eq_some_iff] at h
        obtain ⟨es, hes, h⟩ := h
        rcases entries_ok hr hes e3 with ⟨rfl, _⟩ | ⟨q', im, arr, ck, ck', e5, _, _, rfl, e6, e7, e8⟩
        · cases e3
        · have key : ∀ (ks : List (List UInt8)), arr.toList.map (·.key) = ks.map (fun k => Value.string ⟨k.toArray⟩) → ks.length ≤ 1 → (∀ k ∈ ks, k.length ≤ 1000) →
              Calls Tryz.prog 417 #[.func (.func g) #[] #[.pointer (some ⟨cb, 0, none⟩)]] w fun e w' => ∃ (v : Value), e = .returned v ∧ w'.ownsRow w.heap.size 9 1 v ks.length (ks.map encStr) ∧ (v = .slice none 0 0 ↔ ks = []) ∧ RowKit.Below w.heap.size w w' := by
            intro ks h1 h2 h3
            obtain ⟨D0, g1, g2, g3⟩ := owns_small e6 e8 h1 h2 h3
            have fin : ∀ (ss : List (List UInt8)), ss.Perm (strKeys D0) → ss = ks := by
              intro ss hp
              rw [g2] at hp
              match ks, h2 with
              | [], _ => exact hp.eq_nil
              | [k], _ => exact merge_one ss k hp
            have hms : ks.mergeSort (fun x y => decide (x ≤ y)) = ks := by
              match ks, h2 with
              | [], _ => simp
              | [k], _ => simp
            have hmem := memN_ok.1 hg
            have fin2 : ∀ (e : Ending) (w' : World), (∃ (v : Value) (ss : List (List UInt8)), e = .returned v ∧ ss.Perm (strKeys D0) ∧ w'.ownsRow w.heap.size 9 1 v ss.length ((ss.mergeSort (fun x y => decide (x ≤ y))).map encStr) ∧ (v = .slice none 0 0 ↔ ss = []) ∧ RowKit.Below w.heap.size w w') →
                ∃ (v : Value), e = .returned v ∧ w'.ownsRow w.heap.size 9 1 v ks.length (ks.map encStr) ∧ (v = .slice none 0 0 ↔ ks = []) ∧ RowKit.Below w.heap.size w w' := by
              rintro e w' ⟨v, ss, rfl, hp, ho, hn, hbw⟩
              have := fin ss hp
              subst this
              rw [hms] at ho
              exact ⟨v, rfl, ho, hn, hbw⟩
            simp only [List.mem_cons, List.mem_nil_iff, or_false] at hmem
            rcases hmem with rfl | rfl | rfl
            · exact (Tryz.sortedK0 cb im.cb 1 D0 noVal w hcbl hcell g1 (by omega)).mono fin2
            · exact (Tryz.sortedK1 cb im.cb 1 D0 noVal w hcbl hcell g1 (by omega)).mono fin2
            · exact (Tryz.sortedK2 cb im.cb 1 D0 noVal w hcbl hcell g1 (by omega)).mono fin2
          have hkeys := e7.keys
          split at h
          · cases h
            generalize hkk : arr.toList.map (·.key) = kk at hkeys
            cases hkeys
            refine (key [] (by rw [hkk]; rfl) (by simp) (by simp)).mono fun e w' hp => ?_
            obtain ⟨v, rfl, ho, hn, hbw⟩ := hp
            obtain ⟨a1, a2⟩ := hr.stay (below_same hbw)
            have hv := hn.2 rfl
            subst hv
            exact ⟨ρ, _, rfl, .nils, a1, a2⟩
          · rename_i k vv
            replace h := cond_some h
            obtain ⟨hlen, h⟩ := h
            rw [Nat.ble_eq] at hlen
            cases h
            generalize hkk : arr.toList.map (·.key) = kk at hkeys
            cases hkeys with
            | cons _ kv _ ys hkv hnil =>
            cases hnil
            cases hkv with
            | str s _ hs =>
            subst hs
            have hsl : s.data.toList.length ≤ 1000 := by
              have := bytesN_length s
              have h2 : s.data.toList.length = s.size := by simp
              omega
            refine (key [s.data.toList] (by rw [hkk]; simp) (by simp) (by simpa using hsl)).mono fun e w' hp => ?_
            obtain ⟨v, rfl, ho, hn, hbw⟩ := hp
            rcases ho.2 with ⟨rfl, h0⟩ | ⟨gb, cap, cur, rfl, hge, hgb, hc1, hc2, hc3, hc4⟩
            · simp at h0
            · have hsz : (cur.toList.take 1) = [encStr s.data.toList] := by simpa using hc4
              have hl : RL ρ [AV.str (bytesN s)] [encStr s.data.toList] := .cons _ _ _ _ (.str _ _ (by simp [encStr])) .nil
              obtain ⟨ρ', a1, a2, a3⟩ := hr.adopt0 (below_same hbw) hge hgb (by intro o h1 h2; simp at h2) (l := [.str (bytesN s)]) (by intro x hx; simp at hx; subst hx; rfl) hl (by
                intro j y hj
                cases j with
                | zero =>
                  simp at hj; subst hj
                  have : (cur.toList.take 1)[0]? = some (encStr s.data.toList) := by rw [hsz]; rfl
                  rw [List.getElem?_take] at this
                  simpa using this
                | succ j => simp at hj)
              refine ⟨ρ', _, rfl, ?_, a1, a2⟩
              have hcs : cur.size = cap := by simpa using hc3
              have := R.sl (ρ := ρ') H.next 0 0 1 1 none _ cap a3 (by simpa using hc1) (by simp) (by show 0 + cap * 1 ≤ 1 + (cur.size - 1); simp at hc1; omega) (by intro n hn; cases hn)
              simpa using this
          · cases h
      · replace h := cond_some h
        obtain ⟨hg, h⟩ := h
        cases h
        have := Nat.eq_of_beq_eq_true hg
        subst this
        cases e3
        refine (Tryz.sorted_of 450 cb (enters_of Tryz.func450 (by kernel_rfl) rfl) _ 0 (by omega) w (seq_nilvalues e1 e2 e4)).mono fun e w' hp => ?_
        obtain ⟨v, ss, rfl, hss, ho, hn, hbw⟩ := hp
        obtain ⟨a1, a2⟩ := hr.stay (below_same hbw)
        have hv := hn.2 hss
        subst hv
        exact ⟨ρ, _, rfl, .nils, a1, a2⟩
      · cases h
    · cases h
end Go.Proofs.YtllfnhapnndngaaGreatDoor.E
