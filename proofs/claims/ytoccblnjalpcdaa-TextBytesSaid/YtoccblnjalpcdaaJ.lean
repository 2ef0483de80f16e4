/- Contracts of the reference's Lower, Fold and MatchText. -/
import Derived.Test.YtoccblnjalpcdaaI
namespace Go.Proofs.Ytoccblnjalpcdaa
open Go.RowKit Go.Proofs.YtoccblnjalpcdaaW.PrintWords
set_option linter.unusedVariables false
set_option linter.unusedSimpArgs false

/-- A row of bytes that a conversion made, its first cells known. -/
def RowM (w : World) (b : Nat) (xs : List Int) : Prop :=
  ∃ cs : Array Value, w.heap[b]? = some (.cells cs 5 (cs.size, cs.size + 1)) ∧ xs.length ≤ cs.size ∧ cs.toList.take xs.length = nums .u8 xs
theorem RowM.made (w : World) (s : ByteArray) : RowM (Lib.bytesWorld w 5 s) w.heap.size (bytesOf s) := by
  refine ⟨_, Lib.bytesWorld_at_new w 5 s, ?_, ?_⟩
  · rw [bytesOf_length]; simp [Lib.bytesCells]
  · rw [bytesOf_length]
    simp only [Lib.bytesCells, Array.toList_append, Array.toList_map, Array.toList_replicate]
    rw [List.take_append_of_le_length (by simp), List.take_of_length_le (by simp)]
    simp [nums, bytesOf]
theorem RowM.cell {w : World} {b : Nat} {xs : List Int} (h : RowM w b xs) (j : Nat) (hj : j < xs.length) : w.cell? ⟨b, j, none⟩ = some (.int .u8 (xs.getD j 0)) := by
  obtain ⟨cs, hb, hl, ht⟩ := h
  have h2 : (cs.toList.take xs.length)[j]? = (nums .u8 xs)[j]? := by rw [ht]
  rw [List.getElem?_take_of_lt hj] at h2
  simp only [World.cell?, hb]
  simp [nums, List.getD_eq_getElem?_getD, List.getElem?_eq_getElem hj] at h2 ⊢
  exact h2
theorem RowM.free {w : World} {b : Nat} {xs : List Int} (h : RowM w b xs) (j : Nat) (hj : j < xs.length) : w.frozen? ⟨b, j, none⟩ = false := by
  obtain ⟨cs, hb, hl, ht⟩ := h
  simp only [World.frozen?, hb]
  simp; omega
theorem RowM.store {w : World} {b : Nat} {xs : List Int} (h : RowM w b xs) (j : Nat) (x : Int) (hj : j < xs.length) : RowM (w.setCell ⟨b, j, none⟩ (.int .u8 x)) b (xs.set j x) := by
  obtain ⟨cs, hb, hl, ht⟩ := h
  have hlt : b < w.heap.size := (Array.getElem?_eq_some_iff.1 hb).1
  refine ⟨cs.setIfInBounds j (.int .u8 x), ?_, by simpa using hl, ?_⟩
  · simp only [World.setCell, Array.getElem?_modify, hb]
    simp
  · simp only [List.length_set, Array.toList_setIfInBounds]
    rw [List.take_set, ht]
    simp [nums, List.map_set]
theorem RowM.str {w : World} {b : Nat} {xs : List Int} (h : RowM w b xs) (cap : Nat) : (convert 22 9 (.slice (some ⟨b, 0, none⟩) xs.length cap)).run Try.prog w = .ok (.string (strOfNums xs)) w :=
  run_convert_bytes_arg w 22 5 Try.underlying22 Try.underlying5 b 0 xs.length cap xs rfl (fun i hi => by rw [Nat.zero_add]; exact h.cell i hi) 9 Try.underlying9

def lowC (c : Int) : Int := if 65 ≤ c ∧ c ≤ 90 then c + 32 else c
def lowL (l : List Int) : List Int := l.map lowC
/-- The first k of a list made small. -/
def lowTo (k : Nat) (l : List Int) : List Int := lowL (l.take k) ++ l.drop k
theorem lowTo_length (k : Nat) (l : List Int) : (lowTo k l).length = l.length := by simp [lowTo, lowL]; omega
theorem lowTo_at (k : Nat) (l : List Int) (h : k < l.length) : (lowTo k l).getD k 0 = l.getD k 0 := by
  simp only [lowTo, List.getD_eq_getElem?_getD]
  rw [List.getElem?_append_right (by simp [lowL]; omega)]
  simp [lowL, Nat.min_eq_left (Nat.le_of_lt h)]
theorem lowTo_set (k : Nat) (l : List Int) (h : k < l.length) : (lowTo k l).set k (lowC (l.getD k 0)) = lowTo (k + 1) l := by
  have e : (lowL (l.take k)).length = k := by simp [lowL]; omega
  unfold lowTo
  have e1 : l.drop k = l[k] :: l.drop (k + 1) := List.drop_eq_getElem_cons h
  have e2 : l.take (k + 1) = l.take k ++ [l[k]] := List.take_succ_eq_append_getElem h
  have e3 : l.getD k 0 = l[k] := by simp [List.getD_eq_getElem?_getD, List.getElem?_eq_getElem h]
  rw [List.set_append_right _ _ (by omega), e, Nat.sub_self, e1, e2, e3]
  simp only [lowL, List.map_append, List.set_cons_zero, List.append_assoc, List.map_cons, List.map_nil, List.cons_append, List.nil_append]
theorem lowTo_same (k : Nat) (l : List Int) (h : k < l.length) (hc : lowC (l.getD k 0) = l.getD k 0) : lowTo k l = lowTo (k + 1) l := by
  rw [← lowTo_set k l h, hc, ← lowTo_at k l h]
  have hk : k < (lowTo k l).length := by rw [lowTo_length]; exact h
  rw [List.getD_eq_getElem?_getD, List.getElem?_eq_getElem hk]
  simp

set_option maxHeartbeats 1000000 in
set_option maxRecDepth 100000 in
theorem lower_any (s : ByteArray) (w : World) (hs : s.size ≤ 1000000) :
    Calls Try.prog 12 #[.string s] w fun e w' => e = .returned (.string (strOfNums (lowL (bytesOf s)))) ∧ Below w.heap.size w w' := by
  have kb := fun W => print_bytes (P := Try.prog) 9 22 5 Try.underlying9 Try.underlying22 Try.underlying5 s W
  go_enter Try.func12, Try.ntmps12
  go_wp2
  have hM := RowM.made w s
  have hbel : Below w.heap.size w (Lib.bytesWorld w 5 s) := bytes_below (Below.refl _ _) (Nat.le_refl _) 5 s
  have hlt0 : w.heap.size < (Lib.bytesWorld w 5 s).heap.size := by rw [Lib.bytesWorld_size]; omega
  generalize Lib.bytesWorld w 5 s = wb at *
  clear kb
  go_loopw [4, 9] (fun _ i wr => ∃ (k : Nat), k ≤ s.size ∧ i = .int .i64 k ∧ Hid (RowM wr w.heap.size (lowTo k (bytesOf s))) ∧ Below w.heap.size w wr ∧ w.heap.size < wr.heap.size) (fun _ i _ => s.size - (intOf i).toNat)
  case atStart => exact ⟨0, by omega, rfl, by show RowM _ _ _; rw [show lowTo 0 (bytesOf s) = bytesOf s by simp [lowTo, lowL]]; exact hM, hbel, hlt0⟩
  case round =>
    clear hM hbel hlt0
    obtain ⟨k, hk, rfl, HM, HB, hlt1⟩ := hrel
    by_cases hlt : k < s.size
    · have hkl : k < (bytesOf s).length := by rw [bytesOf_length]; exact hlt
      have hkl2 : k < (lowTo k (bytesOf s)).length := by rw [lowTo_length]; exact hkl
      have hcell := HM.out.cell k hkl2
      have hfree := HM.out.free k hkl2
      rw [lowTo_at k _ hkl] at hcell
      have hset := fun x => HM.out.store k x hkl2
      have hs1 := lowTo_set k (bytesOf s) hkl
      have hs2 := lowTo_same k (bytesOf s) hkl
      have hbt : (bytesOf s).getD k 0 = bt s k := by have := rd_bytesOf s k; simpa [rd] using this
      rw [hbt] at hcell hs1 hs2
      have hr := bt_range s k
      clear hkl hkl2 hbt
      generalize bt s k = c at *
      by_cases h2 : 65 ≤ c ∧ c ≤ 90
      · have HN : Hid (RowM (wr.setCell ⟨w.heap.size, k, none⟩ (.int .u8 (c + 32))) w.heap.size (lowTo (k + 1) (bytesOf s))) := by
          have e : lowC c = c + 32 := by unfold lowC; rw [if_pos h2]
          have h := hset (c + 32)
          rw [e] at hs1
          rw [hs1] at h
          exact h
        obtain ⟨h2a, h2b⟩ := h2
        clear hset hs1 hs2
        go_wp2
        go_roundw
        case rel => exact ⟨k + 1, by omega, by go_num, HN, HB.setCell (Nat.le_refl _) _, by simpa using hlt1⟩
        case measure => simp [intOf]; omega
      · have HN : Hid (RowM wr w.heap.size (lowTo (k + 1) (bytesOf s))) := by
          have e : lowC c = c := by unfold lowC; rw [if_neg h2]
          have h := hs2 e
          show RowM _ _ _
          rw [← h]
          exact HM.out
        have h3 : c < 65 ∨ 90 < c := by omega
        clear hset hs1 hs2 h2
        rcases h3 with h3 | h3
        all_goals
          go_wp2
          go_roundw
          case rel => exact ⟨k + 1, by omega, by go_num, HN, HB, hlt1⟩
          case measure => simp [intOf]; omega
    · obtain rfl : k = s.size := by omega
      have hc := HM.out.str (grownCap w s.size 0 5)
      rw [lowTo_length, bytesOf_length] at hc
      have he : lowTo s.size (bytesOf s) = lowL (bytesOf s) := by
        unfold lowTo; rw [List.take_of_length_le (by rw [bytesOf_length]; exact Nat.le_refl _), List.drop_eq_nil_of_le (by rw [bytesOf_length]; exact Nat.le_refl _)]; simp
      rw [he] at hc
      clear he
      go_wp2
      go_ret
      exact ⟨rfl, HB⟩
end Go.Proofs.Ytoccblnjalpcdaa
