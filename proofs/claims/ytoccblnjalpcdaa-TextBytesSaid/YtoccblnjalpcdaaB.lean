/- Contracts of text.all, text.utf and text.Valid. -/
import Derived.Test.YtoccblnjalpcdaaA
namespace Go.Proofs.Ytoccblnjalpcdaa
open Go.RowKit
set_option linter.unusedVariables false
set_option linter.unusedSimpArgs false

def by8 (b : UInt8) : Int := (b.toNat : Int)
def allB (p : Int → Bool) (l : List UInt8) : Bool := l.all fun b => p (by8 b)
theorem take_snoc (s : ByteArray) (k : Nat) (h : k < s.size) : s.data.toList.take (k + 1) = s.data.toList.take k ++ [s[k]] := by
  rw [List.take_succ_eq_append_getElem (by simpa using h)]; rfl
theorem allB_snoc (p : Int → Bool) (s : ByteArray) (k : Nat) (h : k < s.size) : allB p (s.data.toList.take (k + 1)) = (allB p (s.data.toList.take k) && p (s[k].toNat : Int)) := by
  rw [take_snoc s k h]; simp [allB, by8]
theorem allB_false (p : Int → Bool) (s : ByteArray) (k : Nat) (h : k < s.size) (hp : p (s[k].toNat : Int) = false) : allB p s.data.toList = false := by
  unfold allB
  rw [List.all_eq_false]
  exact ⟨s[k], by show s.data[k] ∈ _; simp, by simp [by8, hp]⟩
theorem allB_full (p : Int → Bool) (s : ByteArray) : allB p (s.data.toList.take s.size) = allB p s.data.toList := by
  rw [List.take_of_length_le (by simp)]

set_option maxHeartbeats 1000000 in
theorem all_print (s : ByteArray) (w : World) (hs : s.size ≤ 9223372036854775807) :
    Calls Try.prog 22 #[.string s, .func (.func 23) #[] #[]] w fun e w' => e = .returned (.bool (allB printB s.data.toList)) ∧ w = w' := by
  go_enter Try.func22, Try.ntmps22
  go_wp2
  go_loop [5] (fun i => ∃ k : Nat, k ≤ s.size ∧ i = .int .i64 k ∧ Hid (allB printB (s.data.toList.take k) = true)) (fun i => s.size - (intOf i).toNat)
  case atStart => exact ⟨0, Nat.zero_le _, rfl, rfl⟩
  case round =>
    obtain ⟨k, hk, rfl, HA⟩ := hrel
    by_cases hlt : k < s.size
    · have HS := Lib.hid (allB_snoc printB s k hlt)
      have HF := Lib.hid (allB_false printB s k hlt)
      generalize hb : printB (s[k].toNat : Int) = b
      have Hb := Lib.hid hb
      clear hb
      cases b
      · go_wp2_with (first | (go_at_call 23; refine (print_any _ _).mono ?_; rintro e w' ⟨rfl, rfl⟩; rw [Hb.out]))
        go_ret
        exact ⟨ret_bool (HF.out Hb.out).symm, rfl⟩
      · go_wp2_with (first | (go_at_call 23; refine (print_any _ _).mono ?_; rintro e w' ⟨rfl, rfl⟩; rw [Hb.out]))
        go_round
        case rel => exact ⟨k + 1, by omega, by go_num, by show allB _ _ = true; rw [HS.out, HA.out, Hb.out]; rfl⟩
        case measure => simp [intOf]; omega
    · go_wp2
      go_ret
      exact ⟨ret_bool (by obtain rfl : k = s.size := by omega
                          rw [← allB_full]; exact HA.out.symm), rfl⟩
set_option maxHeartbeats 1000000 in
theorem all_ia5 (s : ByteArray) (w : World) (hs : s.size ≤ 9223372036854775807) :
    Calls Try.prog 22 #[.string s, .func (.func 26) #[] #[]] w fun e w' => e = .returned (.bool (allB ia5B s.data.toList)) ∧ w = w' := by
  go_enter Try.func22, Try.ntmps22
  go_wp2
  go_loop [5] (fun i => ∃ k : Nat, k ≤ s.size ∧ i = .int .i64 k ∧ Hid (allB ia5B (s.data.toList.take k) = true)) (fun i => s.size - (intOf i).toNat)
  case atStart => exact ⟨0, Nat.zero_le _, rfl, rfl⟩
  case round =>
    obtain ⟨k, hk, rfl, HA⟩ := hrel
    by_cases hlt : k < s.size
    · have HS := Lib.hid (allB_snoc ia5B s k hlt)
      have HF := Lib.hid (allB_false ia5B s k hlt)
      generalize hb : ia5B (s[k].toNat : Int) = b
      have Hb := Lib.hid hb
      clear hb
      cases b
      · go_wp2_with (first | (go_at_call 26; refine (ia5_any _ _).mono ?_; rintro e w' ⟨rfl, rfl⟩; rw [Hb.out]))
        go_ret
        exact ⟨ret_bool (HF.out Hb.out).symm, rfl⟩
      · go_wp2_with (first | (go_at_call 26; refine (ia5_any _ _).mono ?_; rintro e w' ⟨rfl, rfl⟩; rw [Hb.out]))
        go_round
        case rel => exact ⟨k + 1, by omega, by go_num, by show allB _ _ = true; rw [HS.out, HA.out, Hb.out]; rfl⟩
        case measure => simp [intOf]; omega
    · go_wp2
      go_ret
      exact ⟨ret_bool (by obtain rfl : k = s.size := by omega
                          rw [← allB_full]; exact HA.out.symm), rfl⟩

def stepU (s : ByteArray) (pos : Nat) : Option Nat :=
  if (Utf8.decode s pos).1 < 32 ∨ (Utf8.decode s pos).1 = 127 then none
  else if (Utf8.decode s pos).1 = 65533 ∧ Lib.hasPrefix (s.data.toList.drop pos) [239, 191, 189] = false then none
  else some (pos + (Utf8.decode s pos).2)
def scanU (step : ByteArray → Nat → Option Nat) (s : ByteArray) : Nat → Nat → Bool
  | 0, _ => true
  | b + 1, pos => if pos < s.size then (match step s pos with | none => false | some n => scanU step s b n) else true
theorem width_pos (s : ByteArray) (pos : Nat) (h : pos < s.size) : 1 ≤ (Utf8.decode s pos).2 := by
  by_cases ha : (s[pos]'h).toNat < 128
  · rw [decode_ascii s pos h ha]
    exact Nat.le_refl _
  · exact (decode_high s pos h (by omega)).2
theorem scanU_end (step : ByteArray → Nat → Option Nat) (s : ByteArray) (b pos : Nat) (h : ¬ pos < s.size) : scanU step s b pos = true := by
  cases b with
  | zero => rfl
  | succ b => simp [scanU, h]

theorem stepU_eq (s : ByteArray) (pos : Nat) : stepU s pos = if (Utf8.decode s pos).1 < 32 ∨ (Utf8.decode s pos).1 = 127 then none
  else if (Utf8.decode s pos).1 = 65533 ∧ Lib.hasPrefix (s.data.toList.drop pos) [239, 191, 189] = false then none
  else some (pos + (Utf8.decode s pos).2) := rfl
theorem scanU_none {step : ByteArray → Nat → Option Nat} {s : ByteArray} {b pos : Nat} (h : pos < s.size) (hs : step s pos = none) (hb : s.size ≤ pos + b) : scanU step s b pos = false := by
  cases b with
  | zero => omega
  | succ b => simp [scanU, h, hs]
theorem scanU_some {step : ByteArray → Nat → Option Nat} {s : ByteArray} {b pos n : Nat} (h : pos < s.size) (hs : step s pos = some n) (hb : s.size ≤ pos + b) : scanU step s b pos = scanU step s (b - 1) n := by
  cases b with
  | zero => omega
  | succ b => simp [scanU, h, hs]

set_option maxHeartbeats 1000000 in
set_option maxRecDepth 100000 in
theorem utf_any (s : ByteArray) (w : World) (hs : s.size ≤ 9223372036854775807) :
    Calls Try.prog 21 #[.string s] w fun e w' => e = .returned (.bool (scanU stepU s s.size 0)) ∧ Below w.heap.size w w' := by
  go_enter Try.func21, Try.ntmps21
  go_wp2
  go_loopw [] (fun w' => ∃ (pos b : Nat), w' = w.iter s pos ∧ Hid (scanU stepU s b pos = scanU stepU s s.size 0) ∧ s.size ≤ pos + b) (fun w' => s.size - w'.iterPos w.heap.size)
  case atStart => exact ⟨0, s.size, rfl, rfl, by omega⟩
  case round =>
    obtain ⟨pos, b, rfl, hc, hb⟩ := hrel
    by_cases hp : pos < s.size
    · have hwd := width_pos s pos hp
      have hst := Lib.hid (stepU_eq s pos)
      generalize hcw : Utf8.decode s pos = cw at *
      obtain ⟨c, wd⟩ := cw
      have hnx : ∀ ty, (Instr.next (.pointer (some ⟨w.heap.size, 0, none⟩)) true ty).run Try.prog (w.iter s pos) = .ok (.tuple #[.bool true, .int .i64 pos, .int .i32 c]) (w.iter s (pos + wd)) := fun ty => by
        rw [run_next_any w s pos ty hp, hcw]
      have Hcw := Lib.hid hcw
      clear hcw
      have hbl := Below.alloc (Below.refl w.heap.size w) (Nat.le_refl _) (.stringIter s (pos + wd))
      have htk : List.take (s.size - pos) (List.drop pos s.data.toList) = List.drop pos s.data.toList := List.take_of_length_le (by simp)
      have Htk := Lib.hid htk
      clear htk
      by_cases h1 : c < 32 ∨ c = 127
      · have HN := Lib.hid (scanU_none hp (hst.out.trans (if_pos h1)) hb)
        rcases h1 with h1 | h1
        · go_wp2
          go_ret
          exact ⟨ret_bool (by rw [← hc.out]; exact HN.out.symm), hbl⟩
        · subst h1
          go_wp2
          go_ret
          exact ⟨ret_bool (by rw [← hc.out]; exact HN.out.symm), hbl⟩
      · have hs2 := Lib.hid (hst.out.trans (if_neg h1))
        have h1a : ¬ c < 32 := fun h => h1 (.inl h)
        have h1b : ((c : Int) == 127) = false := beq_eq_false_iff_ne.2 (fun h => h1 (.inr (by omega)))
        clear h1
        by_cases h3 : c = 65533
        · subst h3
          by_cases h4 : Lib.hasPrefix (s.data.toList.drop pos) [239, 191, 189] = false
          · have h5 : (!Lib.hasPrefix (List.take (s.size - pos) (List.drop pos s.data.toList)) [239, 191, 189]) = true := by rw [Htk.out, h4]; rfl
            have HN := Lib.hid (scanU_none hp (hs2.out.trans (if_pos ⟨rfl, h4⟩)) hb)
            go_wp2_with (first | (go_at_call 34; refine (Try.strings_HasPrefix _ _ _).mono ?_; rintro e w' ⟨rfl, rfl⟩))
            go_ret
            exact ⟨ret_bool (by rw [← hc.out]; exact HN.out.symm), hbl⟩
          · have HN := Lib.hid (scanU_some hp (hs2.out.trans (if_neg (fun h => h4 h.2))) hb)
            have h5 : (!Lib.hasPrefix (List.take (s.size - pos) (List.drop pos s.data.toList)) [239, 191, 189]) = false := by rw [Htk.out]; simpa using h4
            clear h4
            go_wp2_with (first | (go_at_call 34; refine (Try.strings_HasPrefix _ _ _).mono ?_; rintro e w' ⟨rfl, rfl⟩))
            go_roundw
            case rel => exact ⟨pos + wd, b - 1, rfl, by show scanU _ _ _ _ = _; rw [← hc.out]; exact HN.out.symm, by omega⟩
            case measure => simp; omega
        · have HN := Lib.hid (scanU_some hp (hs2.out.trans (if_neg (fun h => h3 h.1))) hb)
          have h3' : ((c : Int) == 65533) = false := beq_eq_false_iff_ne.2 (fun h => h3 (by omega))
          clear h3
          go_wp2
          go_roundw
          case rel => exact ⟨pos + wd, b - 1, rfl, by show scanU _ _ _ _ = _; rw [← hc.out]; exact HN.out.symm, by omega⟩
          case measure => simp; omega
    · have hnx : ∀ ty, (Instr.next (.pointer (some ⟨w.heap.size, 0, none⟩)) true ty).run Try.prog (w.iter s pos) = _ := fun ty => run_next_end w s pos ty hp
      go_wp2
      go_ret
      rw [← hc.out, scanU_end _ _ _ _ hp]
      exact ⟨rfl, (Below.refl _ _).alloc (Nat.le_refl _) _⟩

def validB (k : Int) (s : ByteArray) : Bool :=
  if k = 12 then scanU stepU s s.size 0 else if k = 19 then allB printB s.data.toList else if k = 22 then allB ia5B s.data.toList else false
theorem valid_any (k : Int) (s : ByteArray) (w : World) (hs : s.size ≤ 9223372036854775807) :
    Calls Try.prog 10 #[.int .i64 k, .string s] w fun e w' => e = .returned (.bool (validB k s)) ∧ Below w.heap.size w w' := by
  by_cases h1 : k = 12
  · subst h1
    go_enter Try.func10, Try.ntmps10
    go_wp2_with (first | (go_at_call 21; refine (utf_any _ _ hs).mono ?_; rintro e w' ⟨rfl, hb⟩))
    go_ret
    exact ⟨rfl, hb⟩
  by_cases h2 : k = 19
  · subst h2
    go_enter Try.func10, Try.ntmps10
    go_wp2_with (first | (go_at_call 22; refine (all_print _ _ hs).mono ?_; rintro e w' ⟨rfl, rfl⟩))
    go_ret
    exact ⟨rfl, Below.refl _ _⟩
  by_cases h3 : k = 22
  · subst h3
    go_enter Try.func10, Try.ntmps10
    go_wp2_with (first | (go_at_call 22; refine (all_ia5 _ _ hs).mono ?_; rintro e w' ⟨rfl, rfl⟩))
    go_ret
    exact ⟨rfl, Below.refl _ _⟩
  · have e1 : (k == 12) = false := beq_eq_false_iff_ne.2 h1
    have e2 : (k == 19) = false := beq_eq_false_iff_ne.2 h2
    have e3 : (k == 22) = false := beq_eq_false_iff_ne.2 h3
    have HV : Hid (validB k s = false) := by show validB k s = false; unfold validB; rw [if_neg h1, if_neg h2, if_neg h3]
    clear h1 h2 h3
    go_enter Try.func10, Try.ntmps10
    go_wp2
    go_ret
    exact ⟨ret_bool HV.out.symm, Below.refl _ _⟩
end Go.Proofs.Ytoccblnjalpcdaa
