/- The contract of the reference's ValidText. -/
import Derived.Test.YtoccblnjalpcdaaL
namespace Go.Proofs.Ytoccblnjalpcdaa
open Go.RowKit Go.Proofs.YtoccblnjalpcdaaW.PrintWords
set_option linter.unusedVariables false
set_option linter.unusedSimpArgs false

def rprintB (c : Int) : Bool := letterB c || amongB c [32, 39, 40, 41, 43, 44, 45, 46, 47, 58, 61, 63]
def ria5B (c : Int) : Bool := !(decide (c < 32) || decide (126 < c))
def ralB (p : Int → Bool) (l : List Int) : Bool := l.all p
def rvalidB (k : Int) (s : ByteArray) : Bool :=
  if k = 12 then scanU stepR s s.size 0 else if k = 19 then ralB rprintB (bytesOf s) else if k = 22 then ralB ria5B (bytesOf s) else false

set_option maxHeartbeats 4000000 in
set_option maxRecDepth 100000 in
theorem rvalid_any (kd : Int) (s : ByteArray) (w : World) (hs : s.size ≤ 1000000) :
    Calls Try.prog 11 #[.int .i64 kd, .string s] w fun e w' => e = .returned (.bool (rvalidB kd s)) ∧ w = w' := by
  by_cases h1 : kd = 12
  · subst h1
    go_enter Try.func11, Try.ntmps11
    go_wp2_with (first | (go_at_call 27; refine (utf8_any _ _ hs).mono ?_; rintro e w' ⟨rfl, rfl⟩))
    go_ret
    exact ⟨rfl, rfl⟩
  by_cases h2 : kd = 19
  · subst h2
    have HV : Hid (rvalidB 19 s = ralB rprintB (bytesOf s)) := rfl
    rw [HV.out]
    generalize hR : ralB rprintB (bytesOf s) = R
    have HR := Lib.hid hR
    clear hR HV
    go_enter Try.func11, Try.ntmps11
    go_wp2
    go_loop [5] (fun i => ∃ pos : Nat, i = .int .i64 pos ∧ pos ≤ s.size ∧ Hid (ralB rprintB ((bytesOf s).drop pos) = R)) (fun i => s.size - (intOf i).toNat)
    case atStart => exact ⟨0, rfl, Nat.zero_le _, HR.out⟩
    case round =>
      obtain ⟨pos, rfl, hps, HF⟩ := hrel
      by_cases hp : pos < s.size
      · have hx0 : ((s[pos]'hp).toNat : Int) = bt s pos := bt_at s pos hp
        have HS := HF.out
        rw [bytes_drop s pos hp] at HS
        unfold ralB at HS
        rw [List.all_cons] at HS
        generalize bt s pos = c at *
        generalize hl : letterB c = b at *
        generalize hm : amongB c [32, 39, 40, 41, 43, 44, 45, 46, 47, 58, 61, 63] = d at *
        have hpv : rprintB c = (b || d) := by unfold rprintB; rw [hl, hm]
        rw [hpv] at HS
        have HL := Lib.hid hl
        have HM := Lib.hid hm
        clear hl hm hpv
        cases b
        · cases d
          · have HN : Hid (false = R) := by show _ = _; rw [← HS]; rfl
            clear HS
            go_wp2_with (first | (go_at_call 28; refine (alnum_any _ _).mono ?_; rintro e w' ⟨rfl, rfl⟩; rw [HL.out]) | (go_at_call 29; refine (among_any _ _ _ (by decide)).mono ?_; rintro e w' ⟨rfl, rfl⟩; rw [show bytesOf ⟨#[32, 39, 40, 41, 43, 44, 45, 46, 47, 58, 61, 63]⟩ = [32, 39, 40, 41, 43, 44, 45, 46, 47, 58, 61, 63] from rfl, HM.out]))
            go_ret
            exact ⟨ret_bool HN.out, rfl⟩
          · have HN : Hid (ralB rprintB ((bytesOf s).drop (pos + 1)) = R) := by show _ = _; rw [← HS]; simp [ralB]
            clear HS
            go_wp2_with (first | (go_at_call 28; refine (alnum_any _ _).mono ?_; rintro e w' ⟨rfl, rfl⟩; rw [HL.out]) | (go_at_call 29; refine (among_any _ _ _ (by decide)).mono ?_; rintro e w' ⟨rfl, rfl⟩; rw [show bytesOf ⟨#[32, 39, 40, 41, 43, 44, 45, 46, 47, 58, 61, 63]⟩ = [32, 39, 40, 41, 43, 44, 45, 46, 47, 58, 61, 63] from rfl, HM.out]))
            go_round
            case rel => exact ⟨pos + 1, by go_num, by omega, HN⟩
            case measure => simp [intOf]; omega
        · have HN : Hid (ralB rprintB ((bytesOf s).drop (pos + 1)) = R) := by show _ = _; rw [← HS]; simp [ralB]
          clear HS
          go_wp2_with (first | (go_at_call 28; refine (alnum_any _ _).mono ?_; rintro e w' ⟨rfl, rfl⟩; rw [HL.out]))
          go_round
          case rel => exact ⟨pos + 1, by go_num, by omega, HN⟩
          case measure => simp [intOf]; omega
      · have HE : Hid (true = R) := by show _ = _; rw [← HF.out, bytes_drop_end s pos (by omega)]; rfl
        go_wp2
        go_ret
        exact ⟨ret_bool HE.out, rfl⟩
  by_cases h3 : kd = 22
  · subst h3
    have HV : Hid (rvalidB 22 s = ralB ria5B (bytesOf s)) := rfl
    rw [HV.out]
    generalize hR : ralB ria5B (bytesOf s) = R
    have HR := Lib.hid hR
    clear hR HV
    go_enter Try.func11, Try.ntmps11
    go_wp2
    go_loop [5] (fun i => ∃ pos : Nat, i = .int .i64 pos ∧ pos ≤ s.size ∧ Hid (ralB ria5B ((bytesOf s).drop pos) = R)) (fun i => s.size - (intOf i).toNat)
    case atStart => exact ⟨0, rfl, Nat.zero_le _, HR.out⟩
    case round =>
      obtain ⟨pos, rfl, hps, HF⟩ := hrel
      by_cases hp : pos < s.size
      · have hx0 : ((s[pos]'hp).toNat : Int) = bt s pos := bt_at s pos hp
        have HS := HF.out
        rw [bytes_drop s pos hp] at HS
        unfold ralB at HS
        rw [List.all_cons] at HS
        generalize bt s pos = c at *
        by_cases q1 : c < 32
        · have HN : Hid (false = R) := by show _ = _; rw [← HS]; simp [ria5B, q1]
          clear HS
          go_wp2
          go_ret
          exact ⟨ret_bool HN.out, rfl⟩
        by_cases q2 : 126 < c
        · have HN : Hid (false = R) := by show _ = _; rw [← HS]; simp [ria5B, q2]
          clear HS
          go_wp2
          go_ret
          exact ⟨ret_bool HN.out, rfl⟩
        · have HN : Hid (ralB ria5B ((bytesOf s).drop (pos + 1)) = R) := by
            show _ = _; rw [← HS]
            have : ria5B c = true := by simp [ria5B]; omega
            rw [this]; rfl
          clear HS
          go_wp2
          go_round
          case rel => exact ⟨pos + 1, by go_num, by omega, HN⟩
          case measure => simp [intOf]; omega
      · have HE : Hid (true = R) := by show _ = _; rw [← HF.out, bytes_drop_end s pos (by omega)]; rfl
        go_wp2
        go_ret
        exact ⟨ret_bool HE.out, rfl⟩
  · have e1 : (kd == 12) = false := beq_eq_false_iff_ne.2 h1
    have e2 : (kd == 19) = false := beq_eq_false_iff_ne.2 h2
    have e3 : (kd == 22) = false := beq_eq_false_iff_ne.2 h3
    have HV : Hid (rvalidB kd s = false) := by show rvalidB kd s = false; unfold rvalidB; rw [if_neg h1, if_neg h2, if_neg h3]
    clear h1 h2 h3
    go_enter Try.func11, Try.ntmps11
    go_wp2
    go_ret
    exact ⟨ret_bool HV.out.symm, rfl⟩
end Go.Proofs.Ytoccblnjalpcdaa
