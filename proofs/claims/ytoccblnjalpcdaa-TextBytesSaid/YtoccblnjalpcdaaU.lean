/- Valid agrees with the reference, as plain functions. -/
import Derived.Test.YtoccblnjalpcdaaT
namespace Go.Proofs.Ytoccblnjalpcdaa
open Go.RowKit Go.Proofs.YtoccblnjalpcdaaW.PrintWords
set_option linter.unusedVariables false
set_option linter.unusedSimpArgs false

def gb (s : ByteArray) (i : Nat) : Nat := (s.get! i).toNat
theorem gb_lt (s : ByteArray) (i : Nat) : gb s i < 256 := (s.get! i).toNat_lt
theorem gb_bt (s : ByteArray) (i : Nat) (h : i < s.size) : bt s (i : Int) = (gb s i : Int) := (get_bt s i h).symm
theorem stepU_nums (s : ByteArray) (pos : Nat) (h : pos < s.size) :
    stepU s pos = (stepN' (gb s pos) (gb s (pos + 1)) (gb s (pos + 2)) (gb s (pos + 3)) (s.size - pos) (Lib.hasPrefix (s.data.toList.drop pos) [239, 191, 189])).map (pos + ·) := by
  rw [stepU_eq]
  have e : Utf8.decode s pos = decN (gb s pos) (gb s (pos + 1)) (gb s (pos + 2)) (gb s (pos + 3)) (s.size - pos) := dec_eq s pos h
  rw [e]
  unfold stepN'
  split
  · rfl
  · split <;> rfl
theorem stepR_nums (s : ByteArray) (pos : Nat) (h : pos < s.size) :
    stepR s pos = (refN (gb s pos) (gb s (pos + 1)) (gb s (pos + 2)) (gb s (pos + 3)) (s.size - pos)).map (pos + ·) := by
  rw [stepR_eq, gb_bt s pos h]
  unfold refN
  by_cases k1 : gb s pos < 32 ∨ gb s pos = 127
  · rw [if_pos (by omega), if_pos k1]; rfl
  rw [if_neg (by omega), if_neg k1]
  by_cases k2 : gb s pos < 128
  · rw [if_pos (by omega), if_pos k2]; rfl
  rw [if_neg (by omega), if_neg k2]
  by_cases k3 : gb s pos < 192
  · rw [if_pos (by omega), if_pos k3]; rfl
  rw [if_neg (by omega), if_neg k3]
  by_cases k4 : gb s pos < 224
  · rw [if_pos (by omega), if_pos k4]
    unfold tailF
    by_cases c1 : s.size - pos ≤ 1
    · rw [if_pos c1, if_pos c1]; rfl
    rw [if_neg c1, if_neg c1]
    simp only [contF]
    rw [gb_bt s (pos + 1) (by omega)]
    by_cases d1 : gb s (pos + 1) / 64 = 2
    · rw [if_pos (by omega), if_pos d1]
      unfold contN
      by_cases q : 64 * ((gb s pos % 32 : Nat) : Int) + ((gb s (pos + 1) % 64 : Nat) : Int) < 128 ∨ 1114111 < 64 * ((gb s pos % 32 : Nat) : Int) + ((gb s (pos + 1) % 64 : Nat) : Int) ∨ (55296 ≤ 64 * ((gb s pos % 32 : Nat) : Int) + ((gb s (pos + 1) % 64 : Nat) : Int) ∧ 64 * ((gb s pos % 32 : Nat) : Int) + ((gb s (pos + 1) % 64 : Nat) : Int) < 57344)
      · rw [if_pos (by omega), if_pos q]; rfl
      · rw [if_neg (by omega), if_neg q]; rfl
    · rw [if_neg (by omega), if_neg d1]; rfl
  rw [if_neg (by omega), if_neg k4]
  by_cases k5 : gb s pos < 240
  · rw [if_pos (by omega), if_pos k5]
    unfold tailF
    by_cases c1 : s.size - pos ≤ 2
    · rw [if_pos c1, if_pos c1]; rfl
    rw [if_neg c1, if_neg c1]
    simp only [contF]
    rw [gb_bt s (pos + 1) (by omega), gb_bt s (pos + (1 + 1)) (by omega)]
    by_cases d1 : gb s (pos + 1) / 64 = 2
    · rw [if_pos (by omega), if_pos d1]
      by_cases d2 : gb s (pos + 2) / 64 = 2
      · rw [if_pos (show ((gb s (pos + (1 + 1)) : Nat) : Int) / 64 = 2 by show ((gb s (pos + 2) : Nat) : Int) / 64 = 2; omega), if_pos d2]
        unfold contN
        have e : ((gb s (pos + (1 + 1)) : Nat) : Int) = ((gb s (pos + 2) : Nat) : Int) := rfl
        rw [e]
        by_cases q : 64 * (64 * ((gb s pos % 16 : Nat) : Int) + ((gb s (pos + 1) % 64 : Nat) : Int)) + ((gb s (pos + 2) % 64 : Nat) : Int) < 2048 ∨ 1114111 < 64 * (64 * ((gb s pos % 16 : Nat) : Int) + ((gb s (pos + 1) % 64 : Nat) : Int)) + ((gb s (pos + 2) % 64 : Nat) : Int) ∨ (55296 ≤ 64 * (64 * ((gb s pos % 16 : Nat) : Int) + ((gb s (pos + 1) % 64 : Nat) : Int)) + ((gb s (pos + 2) % 64 : Nat) : Int) ∧ 64 * (64 * ((gb s pos % 16 : Nat) : Int) + ((gb s (pos + 1) % 64 : Nat) : Int)) + ((gb s (pos + 2) % 64 : Nat) : Int) < 57344)
        · rw [if_pos (by omega), if_pos q]; rfl
        · rw [if_neg (by omega), if_neg q]; rfl
      · rw [if_neg (show ¬ ((gb s (pos + (1 + 1)) : Nat) : Int) / 64 = 2 by show ¬ ((gb s (pos + 2) : Nat) : Int) / 64 = 2; omega), if_neg d2]; rfl
    · rw [if_neg (by omega), if_neg d1]; rfl
  rw [if_neg (by omega), if_neg k5]
  by_cases k6 : gb s pos < 248
  · rw [if_pos (by omega), if_pos k6]
    unfold tailF
    by_cases c1 : s.size - pos ≤ 3
    · rw [if_pos c1, if_pos c1]; rfl
    rw [if_neg c1, if_neg c1]
    simp only [contF]
    rw [gb_bt s (pos + 1) (by omega), gb_bt s (pos + (1 + 1)) (by omega), gb_bt s (pos + (1 + 1 + 1)) (by omega)]
    by_cases d1 : gb s (pos + 1) / 64 = 2
    · rw [if_pos (by omega), if_pos d1]
      by_cases d2 : gb s (pos + 2) / 64 = 2
      · rw [if_pos (show ((gb s (pos + (1 + 1)) : Nat) : Int) / 64 = 2 by show ((gb s (pos + 2) : Nat) : Int) / 64 = 2; omega), if_pos d2]
        by_cases d3 : gb s (pos + 3) / 64 = 2
        · rw [if_pos (show ((gb s (pos + (1 + 1 + 1)) : Nat) : Int) / 64 = 2 by show ((gb s (pos + 3) : Nat) : Int) / 64 = 2; omega), if_pos d3]
          unfold contN
          have e : ((gb s (pos + (1 + 1)) : Nat) : Int) = ((gb s (pos + 2) : Nat) : Int) := rfl
          have e' : ((gb s (pos + (1 + 1 + 1)) : Nat) : Int) = ((gb s (pos + 3) : Nat) : Int) := rfl
          rw [e, e']
          by_cases q : 64 * (64 * (64 * ((gb s pos % 8 : Nat) : Int) + ((gb s (pos + 1) % 64 : Nat) : Int)) + ((gb s (pos + 2) % 64 : Nat) : Int)) + ((gb s (pos + 3) % 64 : Nat) : Int) < 65536 ∨ 1114111 < 64 * (64 * (64 * ((gb s pos % 8 : Nat) : Int) + ((gb s (pos + 1) % 64 : Nat) : Int)) + ((gb s (pos + 2) % 64 : Nat) : Int)) + ((gb s (pos + 3) % 64 : Nat) : Int) ∨ (55296 ≤ 64 * (64 * (64 * ((gb s pos % 8 : Nat) : Int) + ((gb s (pos + 1) % 64 : Nat) : Int)) + ((gb s (pos + 2) % 64 : Nat) : Int)) + ((gb s (pos + 3) % 64 : Nat) : Int) ∧ 64 * (64 * (64 * ((gb s pos % 8 : Nat) : Int) + ((gb s (pos + 1) % 64 : Nat) : Int)) + ((gb s (pos + 2) % 64 : Nat) : Int)) + ((gb s (pos + 3) % 64 : Nat) : Int) < 57344)
          · rw [if_pos (by omega), if_pos q]; rfl
          · rw [if_neg (by omega), if_neg q]; rfl
        · rw [if_neg (show ¬ ((gb s (pos + (1 + 1 + 1)) : Nat) : Int) / 64 = 2 by show ¬ ((gb s (pos + 3) : Nat) : Int) / 64 = 2; omega), if_neg d3]; rfl
      · rw [if_neg (show ¬ ((gb s (pos + (1 + 1)) : Nat) : Int) / 64 = 2 by show ¬ ((gb s (pos + 2) : Nat) : Int) / 64 = 2; omega), if_neg d2]; rfl
    · rw [if_neg (by omega), if_neg d1]; rfl
  rw [if_neg (by omega), if_neg k6]; rfl
theorem step_eq (s : ByteArray) (pos : Nat) (h : pos < s.size) : stepU s pos = stepR s pos := by
  rw [stepU_nums s pos h, stepR_nums s pos h, step_nums _ _ _ _ _ _ (gb_lt _ _) (gb_lt _ _) (gb_lt _ _) (gb_lt _ _) (by omega)]
  rw [pre_iff, gb_bt s pos h]
  constructor
  · rintro ⟨h1, h2, h3, h4⟩
    rw [gb_bt s (pos + 1) (by omega)] at h3
    rw [gb_bt s (pos + 2) (by omega)] at h4
    exact ⟨by omega, by omega, by omega, by omega⟩
  · rintro ⟨h1, h2, h3, h4⟩
    rw [gb_bt s (pos + 1) (by omega), gb_bt s (pos + 2) (by omega)]
    exact ⟨by omega, by omega, by omega, by omega⟩
theorem scan_eq (s : ByteArray) : ∀ b pos, scanU stepU s b pos = scanU stepR s b pos
  | 0, _ => rfl
  | b + 1, pos => by
    unfold scanU
    by_cases h : pos < s.size
    · rw [if_pos h, if_pos h, step_eq s pos h]
      cases stepR s pos with
      | none => rfl
      | some n => exact scan_eq s b n
    · rw [if_neg h, if_neg h]
theorem all_eq (p q : Int → Bool) (s : ByteArray) (h : ∀ c, 0 ≤ c → c ≤ 255 → q c = p c) : ralB q (bytesOf s) = allB p s.data.toList := by
  unfold ralB allB bytesOf by8
  rw [List.all_map]
  refine List.all_congr rfl fun b => ?_
  have := b.toNat_lt
  exact h (b.toNat : Int) (by omega) (by omega)
theorem valid_eq (k : Int) (s : ByteArray) : rvalidB k s = validB k s := by
  unfold rvalidB validB
  rw [scan_eq, all_eq printB rprintB s print_eq, all_eq ia5B ria5B s ia5_eq]
end Go.Proofs.Ytoccblnjalpcdaa
