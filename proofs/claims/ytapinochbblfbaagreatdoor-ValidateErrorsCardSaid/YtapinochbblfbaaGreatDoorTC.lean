/- The shelf's contracts on slices.Sorted at string keys, laid at this program. -/
import Derived.Test.YtapinochbblfbaaGreatDoorTS
namespace Go.Proofs
open Go.RowKit Go.Maps Go.Sort Go.Shelf
theorem Tryz.sortsS (m : Nat) : AnyZ.SortsIn Tryz.prog Tryz.sortedS_ren Fence.wide m :=
  ⟨fun blk off cap ss W hH hblk hsz => callsIn_wide.2 (AnyM.slices_Sort_string Tryz.sortS blk off cap ss W hH hblk hsz),
   fun p cap W => callsIn_wide.2 (AnyM.slices_Sort_string_none Tryz.sortS p cap W)⟩
set_option maxHeartbeats 1000000 in
theorem Tryz.sorted_of (g Bm : Nat) (eg : ∀ args w, (callFunc g args).run Tryz.prog w = .ok (.enter g args) w) (S : List (List UInt8) → Prop) (N : Nat) (hN : N ≤ 1000000) (w : World) (hseq : SeqGives Fence.wide 2 Tryz.prog g #[.pointer (some ⟨Bm, 0, none⟩)] encStr S N w) :
    Calls Tryz.prog 392 #[.func (.func g) #[] #[.pointer (some ⟨Bm, 0, none⟩)]] w fun e w' => ∃ (v : Value) (ss : List (List UInt8)), e = .returned v ∧ S ss ∧
      w'.ownsRow w.heap.size 9 1 v ss.length ((ss.mergeSort (fun x y => decide (x ≤ y))).map encStr) ∧ (v = .slice none 0 0 ↔ ss = []) ∧ Below w.heap.size w w' :=
  callsIn_wide.1 (AnyZ.sorted_in Tryz.sortedS Fence.wide 5 trivial trivial trivial trivial rfl (by omega) (Tryz.sortsS _) (enters_of Tryz.func417 (by kernel_rfl) rfl) g #[.pointer (some ⟨Bm, 0, none⟩)] trivial eg S N (by simp only [maxLen]; omega) (by omega) w hseq)
set_option maxHeartbeats 1000000 in
theorem Tryz.seqS0 {H : Type} (Bm b nn : Nat) (D0 : DataW H) (R : Value → Option (DataW H × List MemPlace)) (w : World) (hBm : Bm < w.heap.size) (hm : w.cell? ⟨Bm, 0, none⟩ = some (.map (some b))) (hown : w.ownsMap Tryz.prog 9 R b nn D0) :
    SeqGives Fence.wide 2 Tryz.prog 418 #[.pointer (some ⟨Bm, 0, none⟩)] encStr (fun ss => ss.Perm (strKeys D0)) (Maps.size D0) w :=
  AnyZ.keys_gives (ρ := Tryz.keysS0_ren) { Tryz.keysS0 with } Fence.wide _ trivial rfl (by omega) Bm b nn D0 w hBm hm hown
theorem Tryz.entersS0 (args : Array Value) (w : World) : (callFunc 418 args).run Tryz.prog w = .ok (.enter 418 args) w := enters_of Tryz.func418 (by kernel_rfl) rfl args w
theorem Tryz.sortedK0 {H : Type} (Bm b nn : Nat) (D0 : DataW H) (R : Value → Option (DataW H × List MemPlace)) (w : World) (hBm : Bm < w.heap.size) (hm : w.cell? ⟨Bm, 0, none⟩ = some (.map (some b))) (hown : w.ownsMap Tryz.prog 9 R b nn D0) (hs : Maps.size D0 ≤ 1000000) :
    Calls Tryz.prog 392 #[.func (.func 418) #[] #[.pointer (some ⟨Bm, 0, none⟩)]] w fun e w' => ∃ (v : Value) (ss : List (List UInt8)), e = .returned v ∧ ss.Perm (strKeys D0) ∧
      w'.ownsRow w.heap.size 9 1 v ss.length ((ss.mergeSort (fun x y => decide (x ≤ y))).map encStr) ∧ (v = .slice none 0 0 ↔ ss = []) ∧ Below w.heap.size w w' :=
  Tryz.sorted_of 418 Bm Tryz.entersS0 _ _ hs w (Tryz.seqS0 Bm b nn D0 R w hBm hm hown)
set_option maxHeartbeats 1000000 in
theorem Tryz.seqS1 {H : Type} (Bm b nn : Nat) (D0 : DataW H) (R : Value → Option (DataW H × List MemPlace)) (w : World) (hBm : Bm < w.heap.size) (hm : w.cell? ⟨Bm, 0, none⟩ = some (.map (some b))) (hown : w.ownsMap Tryz.prog 9 R b nn D0) :
    SeqGives Fence.wide 2 Tryz.prog 422 #[.pointer (some ⟨Bm, 0, none⟩)] encStr (fun ss => ss.Perm (strKeys D0)) (Maps.size D0) w :=
  AnyZ.keys_gives (ρ := Tryz.keysS1_ren) { Tryz.keysS1 with } Fence.wide _ trivial rfl (by omega) Bm b nn D0 w hBm hm hown
theorem Tryz.entersS1 (args : Array Value) (w : World) : (callFunc 422 args).run Tryz.prog w = .ok (.enter 422 args) w := enters_of Tryz.func422 (by kernel_rfl) rfl args w
theorem Tryz.sortedK1 {H : Type} (Bm b nn : Nat) (D0 : DataW H) (R : Value → Option (DataW H × List MemPlace)) (w : World) (hBm : Bm < w.heap.size) (hm : w.cell? ⟨Bm, 0, none⟩ = some (.map (some b))) (hown : w.ownsMap Tryz.prog 9 R b nn D0) (hs : Maps.size D0 ≤ 1000000) :
    Calls Tryz.prog 392 #[.func (.func 422) #[] #[.pointer (some ⟨Bm, 0, none⟩)]] w fun e w' => ∃ (v : Value) (ss : List (List UInt8)), e = .returned v ∧ ss.Perm (strKeys D0) ∧
      w'.ownsRow w.heap.size 9 1 v ss.length ((ss.mergeSort (fun x y => decide (x ≤ y))).map encStr) ∧ (v = .slice none 0 0 ↔ ss = []) ∧ Below w.heap.size w w' :=
  Tryz.sorted_of 422 Bm Tryz.entersS1 _ _ hs w (Tryz.seqS1 Bm b nn D0 R w hBm hm hown)
set_option maxHeartbeats 1000000 in
theorem Tryz.seqS2 {H : Type} (Bm b nn : Nat) (D0 : DataW H) (R : Value → Option (DataW H × List MemPlace)) (w : World) (hBm : Bm < w.heap.size) (hm : w.cell? ⟨Bm, 0, none⟩ = some (.map (some b))) (hown : w.ownsMap Tryz.prog 9 R b nn D0) :
    SeqGives Fence.wide 2 Tryz.prog 437 #[.pointer (some ⟨Bm, 0, none⟩)] encStr (fun ss => ss.Perm (strKeys D0)) (Maps.size D0) w :=
  AnyZ.keys_gives (ρ := Tryz.keysS2_ren) { Tryz.keysS2 with } Fence.wide _ trivial rfl (by omega) Bm b nn D0 w hBm hm hown
theorem Tryz.entersS2 (args : Array Value) (w : World) : (callFunc 437 args).run Tryz.prog w = .ok (.enter 437 args) w := enters_of Tryz.func437 (by kernel_rfl) rfl args w
theorem Tryz.sortedK2 {H : Type} (Bm b nn : Nat) (D0 : DataW H) (R : Value → Option (DataW H × List MemPlace)) (w : World) (hBm : Bm < w.heap.size) (hm : w.cell? ⟨Bm, 0, none⟩ = some (.map (some b))) (hown : w.ownsMap Tryz.prog 9 R b nn D0) (hs : Maps.size D0 ≤ 1000000) :
    Calls Tryz.prog 392 #[.func (.func 437) #[] #[.pointer (some ⟨Bm, 0, none⟩)]] w fun e w' => ∃ (v : Value) (ss : List (List UInt8)), e = .returned v ∧ ss.Perm (strKeys D0) ∧
      w'.ownsRow w.heap.size 9 1 v ss.length ((ss.mergeSort (fun x y => decide (x ≤ y))).map encStr) ∧ (v = .slice none 0 0 ↔ ss = []) ∧ Below w.heap.size w w' :=
  Tryz.sorted_of 437 Bm Tryz.entersS2 _ _ hs w (Tryz.seqS2 Bm b nn D0 R w hBm hm hown)
end Go.Proofs
