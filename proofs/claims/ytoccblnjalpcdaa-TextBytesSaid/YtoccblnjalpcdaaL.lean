/- The contract of the reference's utf8. -/
import Derived.Test.YtoccblnjalpcdaaK
import Derived.Laws.BitsLemmas
namespace Go.Proofs.Ytoccblnjalpcdaa
open Go.RowKit Go.Proofs.YtoccblnjalpcdaaW.PrintWords
set_option linter.unusedVariables false
set_option linter.unusedSimpArgs false

def contF (s : ByteArray) (pos : Nat) (least : Int) : Nat → Nat → Int → Option Nat
  | 0, j, v => if v < least ∨ 1114111 < v ∨ (55296 ≤ v ∧ v < 57344) then none else some (pos + j)
  | m + 1, j, v => if bt s ((pos + j : Nat) : Int) / 64 = 2 then contF s pos least m (j + 1) (64 * v + bt s ((pos + j : Nat) : Int) % 64) else none
def tailF (s : ByteArray) (pos n : Nat) (least v : Int) : Option Nat := if s.size - pos ≤ n then none else contF s pos least n 1 v
def stepR (s : ByteArray) (pos : Nat) : Option Nat :=
  if bt s pos < 32 ∨ bt s pos = 127 then none
  else if bt s pos < 128 then some (pos + 1)
  else if bt s pos < 192 then none
  else if bt s pos < 224 then tailF s pos 1 128 (bt s pos % 32)
  else if bt s pos < 240 then tailF s pos 2 2048 (bt s pos % 16)
  else if bt s pos < 248 then tailF s pos 3 65536 (bt s pos % 8)
  else none
theorem stepR_eq (s : ByteArray) (pos : Nat) : stepR s pos = if bt s pos < 32 ∨ bt s pos = 127 then none
  else if bt s pos < 128 then some (pos + 1)
  else if bt s pos < 192 then none
  else if bt s pos < 224 then tailF s pos 1 128 (bt s pos % 32)
  else if bt s pos < 240 then tailF s pos 2 2048 (bt s pos % 16)
  else if bt s pos < 248 then tailF s pos 3 65536 (bt s pos % 8)
  else none := rfl
def VB (j : Nat) (v : Int) : Prop := 0 ≤ v ∧ (v ≤ 31 ∨ (2 ≤ j ∧ v ≤ 2047) ∨ (3 ≤ j ∧ v ≤ 131071) ∨ (4 ≤ j ∧ v ≤ 8388607))
theorem VB.step {j : Nat} {v r : Int} (h : VB j v) (hj1 : 1 ≤ j) (hj : j ≤ 3) (h0 : 0 ≤ r) (h1 : r < 64) : VB (j + 1) (64 * v + r) := by
  unfold VB at *; omega
theorem VB.le {j : Nat} {v : Int} (h : VB j v) (hj : j ≤ 3) : 0 ≤ v ∧ v ≤ 131071 := by unfold VB at h; omega
theorem VB.le4 {j : Nat} {v : Int} (h : VB j v) : 0 ≤ v ∧ v ≤ 8388607 := by unfold VB at h; omega
theorem and31 (c : Int) (h0 : 0 ≤ c) (h1 : c ≤ 255) : bits .and .i64 c 31 = c % 32 := by
  have h : ∀ a : Fin 256, bits .and .i64 (a.val : Int) 31 = (a.val : Int) % 32 := by decide +kernel
  obtain ⟨a, rfl⟩ := Int.eq_ofNat_of_zero_le h0
  exact h ⟨a, by omega⟩
theorem and15' (c : Int) (h0 : 0 ≤ c) (h1 : c ≤ 255) : bits .and .i64 c 15 = c % 16 := by
  have h : ∀ a : Fin 256, bits .and .i64 (a.val : Int) 15 = (a.val : Int) % 16 := by decide +kernel
  obtain ⟨a, rfl⟩ := Int.eq_ofNat_of_zero_le h0
  exact h ⟨a, by omega⟩
theorem and7 (c : Int) (h0 : 0 ≤ c) (h1 : c ≤ 255) : bits .and .i64 c 7 = c % 8 := by
  have h : ∀ a : Fin 256, bits .and .i64 (a.val : Int) 7 = (a.val : Int) % 8 := by decide +kernel
  obtain ⟨a, rfl⟩ := Int.eq_ofNat_of_zero_le h0
  exact h ⟨a, by omega⟩

set_option maxHeartbeats 4000000 in
set_option maxRecDepth 100000 in
theorem utf8_any (s : ByteArray) (w : World) (hs : s.size ≤ 1000000) :
    Calls Try.prog 27 #[.string s] w fun e w' => e = .returned (.bool (scanU stepR s s.size 0)) ∧ w = w' := by
  go_enter Try.func27, Try.ntmps27
  go_wp2
  go_loop [3] (fun i => ∃ (pos b : Nat), i = .int .i64 pos ∧ pos ≤ s.size ∧ Hid (scanU stepR s b pos = scanU stepR s s.size 0) ∧ s.size ≤ pos + b) (fun i => s.size - (intOf i).toNat)
  case atStart => exact ⟨0, s.size, rfl, by omega, rfl, by omega⟩
  case round =>
    obtain ⟨pos, b, rfl, hps, hc, hb⟩ := hrel
    by_cases hp : pos < s.size
    · have hr := bt_range s pos
      have hx0 : ((s[pos]'hp).toNat : Int) = bt s pos := bt_at s pos hp
      have hst := stepR_eq s pos
      have a31 := and31 (bt s pos) hr.1 hr.2
      have a15 := and15' (bt s pos) hr.1 hr.2
      have a7 := and7 (bt s pos) hr.1 hr.2
      generalize bt s pos = c at *
      by_cases h1 : c < 32 ∨ c = 127
      · rw [if_pos h1] at hst
        have HN := Lib.hid (scanU_none hp hst hb)
        clear hst a31 a15 a7
        rcases h1 with h1 | h1
        · go_wp2
          go_ret
          exact ⟨ret_bool (by rw [← hc.out]; exact HN.out.symm), rfl⟩
        · subst h1
          go_wp2
          go_ret
          exact ⟨ret_bool (by rw [← hc.out]; exact HN.out.symm), rfl⟩
      rw [if_neg h1] at hst
      have h1a : ¬ c < 32 := fun h => h1 (.inl h)
      have h1b : (c == 127) = false := beq_eq_false_iff_ne.2 (fun h => h1 (.inr h))
      clear h1
      by_cases h2 : c < 128
      · rw [if_pos h2] at hst
        have HN := Lib.hid (scanU_some hp hst hb)
        clear hst a31 a15 a7
        go_wp2
        go_round
        case rel => exact ⟨pos + 1, b - 1, by go_num, by omega, by show scanU _ _ _ _ = _; rw [← hc.out]; exact HN.out.symm, by omega⟩
        case measure => simp [intOf]; omega
      rw [if_neg h2] at hst
      by_cases h3 : c < 192
      · rw [if_pos h3] at hst
        have HN := Lib.hid (scanU_none hp hst hb)
        clear hst a31 a15 a7
        go_wp2
        go_ret
        exact ⟨ret_bool (by rw [← hc.out]; exact HN.out.symm), rfl⟩
      rw [if_neg h3] at hst
      by_cases h4 : c < 224
      · rw [if_pos h4] at hst
        unfold tailF at hst
        by_cases h9 : s.size - pos ≤ 1
        · rw [if_pos h9] at hst
          have HN := Lib.hid (scanU_none hp hst hb)
          have h9' : (s.size : Int) - pos ≤ 1 := by omega
          clear hst a31 a15 a7
          go_wp2
          go_ret
          exact ⟨ret_bool (by rw [← hc.out]; exact HN.out.symm), rfl⟩
        · rw [if_neg h9] at hst
          have h9' : ¬ (s.size : Int) - pos ≤ 1 := by omega
          have HST := Lib.hid hst
          clear hst
          have hv0 : 0 ≤ c % 32 := by omega
          have hv1 : c % 32 ≤ 31 := by omega
          go_wp2
          clear a31 a15 a7
          go_loop [7, 8] (fun v k => ∃ (j : Nat) (vv : Int), k = .int .i64 j ∧ v = .int .i64 vv ∧ 1 ≤ j ∧ j ≤ 2 ∧ Hid (VB j vv) ∧ Hid (stepR s pos = contF s pos 128 (2 - j) j vv)) (fun _ k => 3 - (intOf k).toNat)
          case atStart => exact ⟨1, c % 32, rfl, rfl, by omega, by omega, ⟨hv0, .inl hv1⟩, HST.out⟩
          case round =>
            obtain ⟨j, vv, rfl, rfl, hj1, hj2, HV, HS⟩ := hrel
            by_cases hj : j ≤ 1
            · have e1 : pos + j < s.size := by omega
              have hx1 : ((s[pos + j]'e1).toNat : Int) = bt s ((pos + j : Nat) : Int) := bt_at s ((pos + j : Nat) : Int) e1
              have hr1 := bt_range s ((pos + j : Nat) : Int)
              have s7 : (pos : Int) + j < s.size := by omega
              have hvv := HV.out.le (by omega)
              have HS1 := HS.out
              rw [show 2 - j = (1 - j) + 1 by omega] at HS1
              unfold contF at HS1
              generalize bt s ((pos + j : Nat) : Int) = d at *
              by_cases hd : d / 64 = 2
              · rw [if_pos hd] at HS1
                have HS2 := Lib.hid HS1
                have hd' : (d / 64 == 2) = true := beq_iff_eq.2 hd
                have hd'' : (d / 64 != 2) = false := bne_eq_false_iff_eq.2 hd
                clear HS1 hd
                go_wp2
                go_round
                case rel => exact ⟨j + 1, 64 * vv + d % 64, by go_num, rfl, by omega, by omega, HV.out.step hj1 (by omega) (by omega) (by omega), by show _ = _; rw [HS2.out]; congr 1; omega⟩
                case measure => simp [intOf]; omega
              · rw [if_neg hd] at HS1
                have HN := Lib.hid (scanU_none hp HS1 hb)
                have hd' : (d / 64 == 2) = false := beq_eq_false_iff_ne.2 hd
                have hd'' : (d / 64 != 2) = true := bne_iff_ne.2 hd
                clear HS1 hd
                go_wp2
                go_ret
                exact ⟨ret_bool (by rw [← hc.out]; exact HN.out.symm), rfl⟩
            · obtain rfl : j = 2 := by omega
              have hvv := HV.out.le4
              have HS1 := HS.out
              rw [show 2 - 2 = 0 from rfl] at HS1
              unfold contF at HS1
              by_cases hq : vv < 128 ∨ 1114111 < vv ∨ (55296 ≤ vv ∧ vv < 57344)
              · rw [if_pos hq] at HS1
                have HN := Lib.hid (scanU_none hp HS1 hb)
                clear HS1
                rcases hq with hq | hq | ⟨hq1, hq2⟩
                · go_wp2
                  go_ret
                  exact ⟨ret_bool (by rw [← hc.out]; exact HN.out.symm), rfl⟩
                · go_wp2
                  go_ret
                  exact ⟨ret_bool (by rw [← hc.out]; exact HN.out.symm), rfl⟩
                · have g1 : ¬ vv < 128 := by omega
                  have g2 : ¬ 1114111 < vv := by omega
                  go_wp2
                  go_ret
                  exact ⟨ret_bool (by rw [← hc.out]; exact HN.out.symm), rfl⟩
              · rw [if_neg hq] at HS1
                have HN := Lib.hid (scanU_some hp HS1 hb)
                have g1 : ¬ vv < 128 := by omega
                have g2 : ¬ 1114111 < vv := by omega
                have g3 : vv < 55296 ∨ 57344 ≤ vv := by omega
                clear HS1 hq
                rcases g3 with g3 | g3
                skip
                all_goals
                  go_wp2
                  go_round
                  case rel => exact ⟨pos + 2, b - 1, by go_num, by omega, by show scanU _ _ _ _ = _; rw [← hc.out]; exact HN.out.symm, by omega⟩
                  case measure => simp [intOf]; omega
      rw [if_neg h4] at hst
      by_cases h5 : c < 240
      · rw [if_pos h5] at hst
        unfold tailF at hst
        by_cases h9 : s.size - pos ≤ 2
        · rw [if_pos h9] at hst
          have HN := Lib.hid (scanU_none hp hst hb)
          have h9' : (s.size : Int) - pos ≤ 2 := by omega
          clear hst a31 a15 a7
          go_wp2
          go_ret
          exact ⟨ret_bool (by rw [← hc.out]; exact HN.out.symm), rfl⟩
        · rw [if_neg h9] at hst
          have h9' : ¬ (s.size : Int) - pos ≤ 2 := by omega
          have HST := Lib.hid hst
          clear hst
          have hv0 : 0 ≤ c % 16 := by omega
          have hv1 : c % 16 ≤ 31 := by omega
          go_wp2
          clear a31 a15 a7
          go_loop [7, 8] (fun v k => ∃ (j : Nat) (vv : Int), k = .int .i64 j ∧ v = .int .i64 vv ∧ 1 ≤ j ∧ j ≤ 3 ∧ Hid (VB j vv) ∧ Hid (stepR s pos = contF s pos 2048 (3 - j) j vv)) (fun _ k => 4 - (intOf k).toNat)
          case atStart => exact ⟨1, c % 16, rfl, rfl, by omega, by omega, ⟨hv0, .inl hv1⟩, HST.out⟩
          case round =>
            obtain ⟨j, vv, rfl, rfl, hj1, hj2, HV, HS⟩ := hrel
            by_cases hj : j ≤ 2
            · have e1 : pos + j < s.size := by omega
              have hx1 : ((s[pos + j]'e1).toNat : Int) = bt s ((pos + j : Nat) : Int) := bt_at s ((pos + j : Nat) : Int) e1
              have hr1 := bt_range s ((pos + j : Nat) : Int)
              have s7 : (pos : Int) + j < s.size := by omega
              have hvv := HV.out.le (by omega)
              have HS1 := HS.out
              rw [show 3 - j = (2 - j) + 1 by omega] at HS1
              unfold contF at HS1
              generalize bt s ((pos + j : Nat) : Int) = d at *
              by_cases hd : d / 64 = 2
              · rw [if_pos hd] at HS1
                have HS2 := Lib.hid HS1
                have hd' : (d / 64 == 2) = true := beq_iff_eq.2 hd
                have hd'' : (d / 64 != 2) = false := bne_eq_false_iff_eq.2 hd
                clear HS1 hd
                go_wp2
                go_round
                case rel => exact ⟨j + 1, 64 * vv + d % 64, by go_num, rfl, by omega, by omega, HV.out.step hj1 (by omega) (by omega) (by omega), by show _ = _; rw [HS2.out]; congr 1; omega⟩
                case measure => simp [intOf]; omega
              · rw [if_neg hd] at HS1
                have HN := Lib.hid (scanU_none hp HS1 hb)
                have hd' : (d / 64 == 2) = false := beq_eq_false_iff_ne.2 hd
                have hd'' : (d / 64 != 2) = true := bne_iff_ne.2 hd
                clear HS1 hd
                go_wp2
                go_ret
                exact ⟨ret_bool (by rw [← hc.out]; exact HN.out.symm), rfl⟩
            · obtain rfl : j = 3 := by omega
              have hvv := HV.out.le4
              have HS1 := HS.out
              rw [show 3 - 3 = 0 from rfl] at HS1
              unfold contF at HS1
              by_cases hq : vv < 2048 ∨ 1114111 < vv ∨ (55296 ≤ vv ∧ vv < 57344)
              · rw [if_pos hq] at HS1
                have HN := Lib.hid (scanU_none hp HS1 hb)
                clear HS1
                rcases hq with hq | hq | ⟨hq1, hq2⟩
                · go_wp2
                  go_ret
                  exact ⟨ret_bool (by rw [← hc.out]; exact HN.out.symm), rfl⟩
                · go_wp2
                  go_ret
                  exact ⟨ret_bool (by rw [← hc.out]; exact HN.out.symm), rfl⟩
                · have g1 : ¬ vv < 2048 := by omega
                  have g2 : ¬ 1114111 < vv := by omega
                  go_wp2
                  go_ret
                  exact ⟨ret_bool (by rw [← hc.out]; exact HN.out.symm), rfl⟩
              · rw [if_neg hq] at HS1
                have HN := Lib.hid (scanU_some hp HS1 hb)
                have g1 : ¬ vv < 2048 := by omega
                have g2 : ¬ 1114111 < vv := by omega
                have g3 : vv < 55296 ∨ 57344 ≤ vv := by omega
                clear HS1 hq
                rcases g3 with g3 | g3
                skip
                all_goals
                  go_wp2
                  go_round
                  case rel => exact ⟨pos + 3, b - 1, by go_num, by omega, by show scanU _ _ _ _ = _; rw [← hc.out]; exact HN.out.symm, by omega⟩
                  case measure => simp [intOf]; omega
      rw [if_neg h5] at hst
      by_cases h6 : c < 248
      · rw [if_pos h6] at hst
        unfold tailF at hst
        by_cases h9 : s.size - pos ≤ 3
        · rw [if_pos h9] at hst
          have HN := Lib.hid (scanU_none hp hst hb)
          have h9' : (s.size : Int) - pos ≤ 3 := by omega
          clear hst a31 a15 a7
          go_wp2
          go_ret
          exact ⟨ret_bool (by rw [← hc.out]; exact HN.out.symm), rfl⟩
        · rw [if_neg h9] at hst
          have h9' : ¬ (s.size : Int) - pos ≤ 3 := by omega
          have HST := Lib.hid hst
          clear hst
          have hv0 : 0 ≤ c % 8 := by omega
          have hv1 : c % 8 ≤ 31 := by omega
          go_wp2
          clear a31 a15 a7
          go_loop [7, 8] (fun v k => ∃ (j : Nat) (vv : Int), k = .int .i64 j ∧ v = .int .i64 vv ∧ 1 ≤ j ∧ j ≤ 4 ∧ Hid (VB j vv) ∧ Hid (stepR s pos = contF s pos 65536 (4 - j) j vv)) (fun _ k => 5 - (intOf k).toNat)
          case atStart => exact ⟨1, c % 8, rfl, rfl, by omega, by omega, ⟨hv0, .inl hv1⟩, HST.out⟩
          case round =>
            obtain ⟨j, vv, rfl, rfl, hj1, hj2, HV, HS⟩ := hrel
            by_cases hj : j ≤ 3
            · have e1 : pos + j < s.size := by omega
              have hx1 : ((s[pos + j]'e1).toNat : Int) = bt s ((pos + j : Nat) : Int) := bt_at s ((pos + j : Nat) : Int) e1
              have hr1 := bt_range s ((pos + j : Nat) : Int)
              have s7 : (pos : Int) + j < s.size := by omega
              have hvv := HV.out.le (by omega)
              have HS1 := HS.out
              rw [show 4 - j = (3 - j) + 1 by omega] at HS1
              unfold contF at HS1
              generalize bt s ((pos + j : Nat) : Int) = d at *
              by_cases hd : d / 64 = 2
              · rw [if_pos hd] at HS1
                have HS2 := Lib.hid HS1
                have hd' : (d / 64 == 2) = true := beq_iff_eq.2 hd
                have hd'' : (d / 64 != 2) = false := bne_eq_false_iff_eq.2 hd
                clear HS1 hd
                go_wp2
                go_round
                case rel => exact ⟨j + 1, 64 * vv + d % 64, by go_num, rfl, by omega, by omega, HV.out.step hj1 (by omega) (by omega) (by omega), by show _ = _; rw [HS2.out]; congr 1; omega⟩
                case measure => simp [intOf]; omega
              · rw [if_neg hd] at HS1
                have HN := Lib.hid (scanU_none hp HS1 hb)
                have hd' : (d / 64 == 2) = false := beq_eq_false_iff_ne.2 hd
                have hd'' : (d / 64 != 2) = true := bne_iff_ne.2 hd
                clear HS1 hd
                go_wp2
                go_ret
                exact ⟨ret_bool (by rw [← hc.out]; exact HN.out.symm), rfl⟩
            · obtain rfl : j = 4 := by omega
              have hvv := HV.out.le4
              have HS1 := HS.out
              rw [show 4 - 4 = 0 from rfl] at HS1
              unfold contF at HS1
              by_cases hq : vv < 65536 ∨ 1114111 < vv ∨ (55296 ≤ vv ∧ vv < 57344)
              · rw [if_pos hq] at HS1
                have HN := Lib.hid (scanU_none hp HS1 hb)
                clear HS1
                rcases hq with hq | hq | ⟨hq1, hq2⟩
                · go_wp2
                  go_ret
                  exact ⟨ret_bool (by rw [← hc.out]; exact HN.out.symm), rfl⟩
                · go_wp2
                  go_ret
                  exact ⟨ret_bool (by rw [← hc.out]; exact HN.out.symm), rfl⟩
                · have g1 : vv < 65536 := by omega
                  have g2 : ¬ 1114111 < vv := by omega
                  go_wp2
                  go_ret
                  exact ⟨ret_bool (by rw [← hc.out]; exact HN.out.symm), rfl⟩
              · rw [if_neg hq] at HS1
                have HN := Lib.hid (scanU_some hp HS1 hb)
                have g1 : ¬ vv < 65536 := by omega
                have g2 : ¬ 1114111 < vv := by omega
                have g3 : False ∨ 57344 ≤ vv := by omega
                clear HS1 hq
                rcases g3 with g3 | g3
                . exact g3.elim
                all_goals
                  go_wp2
                  go_round
                  case rel => exact ⟨pos + 4, b - 1, by go_num, by omega, by show scanU _ _ _ _ = _; rw [← hc.out]; exact HN.out.symm, by omega⟩
                  case measure => simp [intOf]; omega
      rw [if_neg h6] at hst
      have HN := Lib.hid (scanU_none hp hst hb)
      clear hst a31 a15 a7
      go_wp2
      go_ret
      exact ⟨ret_bool (by rw [← hc.out]; exact HN.out.symm), rfl⟩
    · go_wp2
      go_ret
      exact ⟨ret_bool (by rw [← hc.out, scanU_end _ _ _ _ hp]), rfl⟩
end Go.Proofs.Ytoccblnjalpcdaa
