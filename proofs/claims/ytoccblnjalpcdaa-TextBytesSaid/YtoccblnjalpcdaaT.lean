/- The plain law of Valid: the program's look at UTF-8 is the reference's; no program in sight. -/
import Derived.Test.YtoccblnjalpcdaaS
namespace Go.Proofs.Ytoccblnjalpcdaa
open Go.RowKit Go.Proofs.YtoccblnjalpcdaaW.PrintWords
set_option linter.unusedVariables false
set_option linter.unusedSimpArgs false

theorem get_bt (s : ByteArray) (i : Nat) (h : i < s.size) : ((s.get! i).toNat : Int) = bt s (i : Int) := by
  have e : s.get! i = s[i] := by simp [ByteArray.get!, getElem!_pos, h]; rfl
  rw [e]; exact bt_at s (i : Int) h
theorem bytes_get (s : ByteArray) (k : Nat) (h : k < s.size) : (s.data.toList.drop k) = s[k] :: s.data.toList.drop (k + 1) := by
  rw [List.drop_eq_getElem_cons (by simpa using h)]; rfl
theorem u8_eq (a : UInt8) (n : Nat) (hn : n < 256) : (a.toNat : Int) = n ↔ a = UInt8.ofNat n := by
  constructor
  · intro h
    apply UInt8.toNat_inj.1
    have : (UInt8.ofNat n).toNat = n := by simp; omega
    omega
  · intro h
    have : (UInt8.ofNat n).toNat = n := by simp; omega
    rw [h, this]
theorem pre_iff (s : ByteArray) (pos : Nat) : Lib.hasPrefix (s.data.toList.drop pos) [239, 191, 189] = true ↔ pos + 2 < s.size ∧ bt s (pos : Int) = 239 ∧ bt s ((pos + 1 : Nat) : Int) = 191 ∧ bt s ((pos + 2 : Nat) : Int) = 189 := by
  have hb : ∀ i (h : i < s.size), bt s (i : Int) = (s[i].toNat : Int) := fun i h => (bt_at s (i : Int) h).symm
  have e : ∀ (a : UInt8) (n : UInt8), (n == a) = true ↔ (a.toNat : Int) = (n.toNat : Int) := fun a n => by
    rw [beq_iff_eq]
    constructor
    · intro h; rw [h]
    · intro h; exact (UInt8.toNat_inj.1 (by omega)).symm
  unfold Lib.hasPrefix
  by_cases h0 : pos < s.size
  · rw [bytes_get s pos h0]
    by_cases h1 : pos + 1 < s.size
    · rw [bytes_get s (pos + 1) h1]
      by_cases h2 : pos + 2 < s.size
      · rw [bytes_get s (pos + 1 + 1) h2]
        simp only [List.isPrefixOf_cons_cons, List.isPrefixOf_nil_left, Bool.and_true, Bool.and_eq_true, e]
        rw [hb pos h0, hb (pos + 1) h1, hb (pos + 2) h2]
        exact ⟨fun h => ⟨h2, h⟩, fun h => h.2⟩
      · rw [List.drop_eq_nil_of_le (by simp; omega)]
        simp only [List.isPrefixOf_cons_cons, List.isPrefixOf, Bool.and_false]
        constructor
        · intro h; cases h
        · intro h; omega
    · rw [List.drop_eq_nil_of_le (by simp; omega)]
      simp only [List.isPrefixOf_cons_cons, List.isPrefixOf, Bool.and_false]
      constructor
      · intro h; cases h
      · intro h; omega
  · rw [List.drop_eq_nil_of_le (by simp; omega)]
    simp only [List.isPrefixOf]
    constructor
    · intro h; cases h
    · intro h; omega
theorem pre_false (s : ByteArray) (pos : Nat) (h : ¬ (pos + 2 < s.size ∧ bt s (pos : Int) = 239 ∧ bt s ((pos + 1 : Nat) : Int) = 191 ∧ bt s ((pos + 2 : Nat) : Int) = 189)) : Lib.hasPrefix (s.data.toList.drop pos) [239, 191, 189] = false := by
  cases hp : Lib.hasPrefix (s.data.toList.drop pos) [239, 191, 189] with
  | false => rfl
  | true => exact absurd ((pre_iff s pos).1 hp) h

/-- The decoder on numbers: b0 .. b3 the bytes from the place on, n how many there are. -/
def decN (b0 b1 b2 b3 n : Nat) : Nat × Nat :=
  if b0 < 0x80 then (b0, 1)
  else if b0 / 32 == 6 && (decide (1 < n) && b1 / 64 == 2) then
    if (b0 % 32) * 64 + b1 % 64 ≥ 0x80 then ((b0 % 32) * 64 + b1 % 64, 2) else (65533, 1)
  else if b0 / 16 == 14 && (decide (1 < n) && b1 / 64 == 2) && (decide (2 < n) && b2 / 64 == 2) then
    if (b0 % 16) * 4096 + (b1 % 64) * 64 + b2 % 64 ≥ 0x800 && Utf8.valid (((b0 % 16) * 4096 + (b1 % 64) * 64 + b2 % 64 : Nat) : Int) then ((b0 % 16) * 4096 + (b1 % 64) * 64 + b2 % 64, 3) else (65533, 1)
  else if b0 / 8 == 30 && (decide (1 < n) && b1 / 64 == 2) && (decide (2 < n) && b2 / 64 == 2) && (decide (3 < n) && b3 / 64 == 2) then
    if (b0 % 8) * 262144 + (b1 % 64) * 4096 + (b2 % 64) * 64 + b3 % 64 ≥ 0x10000 && Utf8.valid (((b0 % 8) * 262144 + (b1 % 64) * 4096 + (b2 % 64) * 64 + b3 % 64 : Nat) : Int) then ((b0 % 8) * 262144 + (b1 % 64) * 4096 + (b2 % 64) * 64 + b3 % 64, 4) else (65533, 1)
  else (65533, 1)
theorem dec_eq (s : ByteArray) (pos : Nat) (h : pos < s.size) :
    Utf8.decode s pos = decN (s.get! (pos + 0)).toNat (s.get! (pos + 1)).toNat (s.get! (pos + 2)).toNat (s.get! (pos + 3)).toNat (s.size - pos) := by
  have c : ∀ k, (decide (pos + k < s.size)) = decide (k < s.size - pos) := fun k => by
    rw [Bool.eq_iff_iff, decide_eq_true_iff, decide_eq_true_iff]; omega
  unfold Utf8.decode decN
  simp only [c, Utf8.runeError]
def stepN' (b0 b1 b2 b3 n : Nat) (pre : Bool) : Option Nat :=
  if (decN b0 b1 b2 b3 n).1 < 32 ∨ (decN b0 b1 b2 b3 n).1 = 127 then none
  else if (decN b0 b1 b2 b3 n).1 = 65533 ∧ pre = false then none
  else some (decN b0 b1 b2 b3 n).2
def contN (least v : Int) (w : Nat) : Option Nat := if v < least ∨ 1114111 < v ∨ (55296 ≤ v ∧ v < 57344) then none else some w
def refN (b0 b1 b2 b3 n : Nat) : Option Nat :=
  if b0 < 32 ∨ b0 = 127 then none
  else if b0 < 128 then some 1
  else if b0 < 192 then none
  else if b0 < 224 then (if n ≤ 1 then none else if b1 / 64 = 2 then contN 128 (64 * (b0 % 32 : Nat) + (b1 % 64 : Nat)) 2 else none)
  else if b0 < 240 then (if n ≤ 2 then none else if b1 / 64 = 2 then (if b2 / 64 = 2 then contN 2048 (64 * (64 * (b0 % 16 : Nat) + (b1 % 64 : Nat)) + (b2 % 64 : Nat)) 3 else none) else none)
  else if b0 < 248 then (if n ≤ 3 then none else if b1 / 64 = 2 then (if b2 / 64 = 2 then (if b3 / 64 = 2 then contN 65536 (64 * (64 * (64 * (b0 % 8 : Nat) + (b1 % 64 : Nat)) + (b2 % 64 : Nat)) + (b3 % 64 : Nat)) 4 else none) else none) else none)
  else none
theorem valid_iff (c : Nat) : Utf8.valid (c : Int) = true ↔ c < 55296 ∨ (57344 ≤ c ∧ c ≤ 1114111) := by
  unfold Utf8.valid
  simp only [Bool.or_eq_true, Bool.and_eq_true, decide_eq_true_iff]
  omega
theorem step_nums (b0 b1 b2 b3 n : Nat) (pre : Bool) (h0 : b0 < 256) (h1 : b1 < 256) (h2 : b2 < 256) (h3 : b3 < 256) (hn : 0 < n)
    (hp : pre = true ↔ 2 < n ∧ b0 = 239 ∧ b1 = 191 ∧ b2 = 189) : stepN' b0 b1 b2 b3 n pre = refN b0 b1 b2 b3 n := by
  have hpf : ¬ (2 < n ∧ b0 = 239 ∧ b1 = 191 ∧ b2 = 189) → pre = false := fun h => by
    cases pre with
    | false => rfl
    | true => exact absurd (hp.1 rfl) h
  have err : ∀ w, pre = false → (if (65533 : Nat) < 32 ∨ (65533 : Nat) = 127 then (none : Option Nat) else if (65533 : Nat) = 65533 ∧ pre = false then none else some w) = none := fun w h => by
    rw [if_neg (by omega), if_pos ⟨rfl, h⟩]
  unfold stepN' refN
  by_cases k0 : b0 < 128
  · have e : decN b0 b1 b2 b3 n = (b0, 1) := by unfold decN; rw [if_pos k0]
    rw [e]
    by_cases k1 : b0 < 32 ∨ b0 = 127
    · rw [if_pos k1, if_pos k1]
    · rw [if_neg k1, if_neg k1, if_pos k0, if_neg (by simp only; omega)]
  rw [if_neg (show ¬ (b0 < 32 ∨ b0 = 127) by omega), if_neg k0]
  by_cases k1 : b0 < 192
  · have e : decN b0 b1 b2 b3 n = (65533, 1) := by
      unfold decN
      rw [if_neg k0, if_neg (by simp; omega), if_neg (by simp; omega), if_neg (by simp; omega)]
    rw [e, if_pos k1]
    exact err 1 (hpf (by omega))
  rw [if_neg k1]
  by_cases k2 : b0 < 224
  · rw [if_pos k2]
    have q1 : b0 / 32 = 6 := by omega
    by_cases c1 : n ≤ 1
    · have e : decN b0 b1 b2 b3 n = (65533, 1) := by
        unfold decN
        rw [if_neg k0, if_neg (by simp; omega), if_neg (by simp; omega), if_neg (by simp; omega)]
      rw [e, if_pos c1]; exact err 1 (hpf (by omega))
    rw [if_neg c1]
    by_cases c2 : b1 / 64 = 2
    · rw [if_pos c2]
      unfold contN
      by_cases c3 : b0 % 32 * 64 + b1 % 64 ≥ 128
      · have e : decN b0 b1 b2 b3 n = (b0 % 32 * 64 + b1 % 64, 2) := by
          unfold decN
          rw [if_neg k0, if_pos (by simp; omega), if_pos c3]
        rw [e]
        rw [if_neg (by simp only; omega), if_neg (by simp only; omega), if_neg (by omega)]
      · have e : decN b0 b1 b2 b3 n = (65533, 1) := by
          unfold decN
          rw [if_neg k0, if_pos (by simp; omega), if_neg c3]
        rw [e]
        refine (err 1 (hpf (by omega))).trans ?_
        rw [if_pos (by omega)]
    · rw [if_neg c2]
      have e : decN b0 b1 b2 b3 n = (65533, 1) := by
        unfold decN
        rw [if_neg k0, if_neg (by simp; omega), if_neg (by simp; omega), if_neg (by simp; omega)]
      rw [e]; exact err 1 (hpf (by omega))
  rw [if_neg k2]
  by_cases k3 : b0 < 240
  · rw [if_pos k3]
    have q1 : b0 / 16 = 14 := by omega
    by_cases c1 : n ≤ 2
    · have e : decN b0 b1 b2 b3 n = (65533, 1) := by
        unfold decN
        rw [if_neg k0, if_neg (by simp; omega), if_neg (by simp; omega), if_neg (by simp; omega)]
      rw [e, if_pos c1]; exact err 1 (hpf (by omega))
    rw [if_neg c1]
    by_cases c2 : b1 / 64 = 2
    · rw [if_pos c2]
      by_cases c3 : b2 / 64 = 2
      · rw [if_pos c3]
        unfold contN
        have hv := valid_iff (b0 % 16 * 4096 + b1 % 64 * 64 + b2 % 64)
        by_cases c4 : b0 % 16 * 4096 + b1 % 64 * 64 + b2 % 64 ≥ 2048 ∧ (b0 % 16 * 4096 + b1 % 64 * 64 + b2 % 64 < 55296 ∨ (57344 ≤ b0 % 16 * 4096 + b1 % 64 * 64 + b2 % 64 ∧ b0 % 16 * 4096 + b1 % 64 * 64 + b2 % 64 ≤ 1114111))
        · have e : decN b0 b1 b2 b3 n = (b0 % 16 * 4096 + b1 % 64 * 64 + b2 % 64, 3) := by
            unfold decN
            rw [if_neg k0, if_neg (by simp; omega), if_pos (by simp; omega), if_pos (by rw [Bool.and_eq_true, decide_eq_true_iff]; exact ⟨c4.1, hv.2 c4.2⟩)]
          rw [e]
          have h9 : ¬ ((b0 % 16 * 4096 + b1 % 64 * 64 + b2 % 64, 3).1 = 65533 ∧ pre = false) := by
            rintro ⟨h, h'⟩
            have : pre = true := hp.2 (by simp only at h; omega)
            rw [this] at h'; cases h'
          rw [if_neg (by simp only; omega), if_neg h9, if_neg (by omega)]
        · have e : decN b0 b1 b2 b3 n = (65533, 1) := by
            unfold decN
            rw [if_neg k0, if_neg (by simp; omega), if_pos (by simp; omega), if_neg (by rw [Bool.and_eq_true, decide_eq_true_iff]; exact fun h => c4 ⟨h.1, hv.1 h.2⟩)]
          rw [e]
          refine (err 1 (hpf (by omega))).trans ?_
          rw [if_pos (by omega)]
      · rw [if_neg c3]
        have e : decN b0 b1 b2 b3 n = (65533, 1) := by
          unfold decN
          rw [if_neg k0, if_neg (by simp; omega), if_neg (by simp; omega), if_neg (by simp; omega)]
        rw [e]; exact err 1 (hpf (by omega))
    · rw [if_neg c2]
      have e : decN b0 b1 b2 b3 n = (65533, 1) := by
        unfold decN
        rw [if_neg k0, if_neg (by simp; omega), if_neg (by simp; omega), if_neg (by simp; omega)]
      rw [e]; exact err 1 (hpf (by omega))
  rw [if_neg k3]
  by_cases k4 : b0 < 248
  · rw [if_pos k4]
    have q1 : b0 / 8 = 30 := by omega
    have hpre := hpf (by omega)
    by_cases c1 : n ≤ 3
    · have e : decN b0 b1 b2 b3 n = (65533, 1) := by
        unfold decN
        rw [if_neg k0, if_neg (by simp; omega), if_neg (by simp; omega), if_neg (by simp; omega)]
      rw [e, if_pos c1]; exact err 1 hpre
    rw [if_neg c1]
    by_cases c2 : b1 / 64 = 2 ∧ b2 / 64 = 2 ∧ b3 / 64 = 2
    · rw [if_pos c2.1, if_pos c2.2.1, if_pos c2.2.2]
      unfold contN
      have hv := valid_iff (b0 % 8 * 262144 + b1 % 64 * 4096 + b2 % 64 * 64 + b3 % 64)
      by_cases c4 : b0 % 8 * 262144 + b1 % 64 * 4096 + b2 % 64 * 64 + b3 % 64 ≥ 65536 ∧ b0 % 8 * 262144 + b1 % 64 * 4096 + b2 % 64 * 64 + b3 % 64 ≤ 1114111
      · have e : decN b0 b1 b2 b3 n = (b0 % 8 * 262144 + b1 % 64 * 4096 + b2 % 64 * 64 + b3 % 64, 4) := by
          unfold decN
          rw [if_neg k0, if_neg (by simp; omega), if_neg (by simp; omega), if_pos (by simp; omega), if_pos (by rw [Bool.and_eq_true, decide_eq_true_iff]; exact ⟨c4.1, hv.2 (by omega)⟩)]
        rw [e]
        rw [if_neg (by simp only; omega), if_neg (by simp only; omega), if_neg (by omega)]
      · have e : decN b0 b1 b2 b3 n = (65533, 1) := by
          unfold decN
          rw [if_neg k0, if_neg (by simp; omega), if_neg (by simp; omega), if_pos (by simp; omega), if_neg (by rw [Bool.and_eq_true, decide_eq_true_iff]; exact fun h => c4 ⟨h.1, by have := hv.1 h.2; omega⟩)]
        rw [e]
        refine (err 1 hpre).trans ?_
        rw [if_pos (by omega)]
    · have e : decN b0 b1 b2 b3 n = (65533, 1) := by
        unfold decN
        rw [if_neg k0, if_neg (by simp; omega), if_neg (by simp; omega), if_neg (by simp; omega)]
      rw [e]
      refine (err 1 hpre).trans ?_
      by_cases d1 : b1 / 64 = 2
      · rw [if_pos d1]
        by_cases d2 : b2 / 64 = 2
        · rw [if_pos d2, if_neg (fun h => c2 ⟨d1, d2, h⟩)]
        · rw [if_neg d2]
      · rw [if_neg d1]
  rw [if_neg k4]
  have e : decN b0 b1 b2 b3 n = (65533, 1) := by
    unfold decN
    rw [if_neg k0, if_neg (by simp; omega), if_neg (by simp; omega), if_neg (by simp; omega)]
  rw [e]; exact err 1 (hpf (by omega))

end Go.Proofs.Ytoccblnjalpcdaa
