/- Contracts of the reference's Escape and Unescape. -/
import Derived.Test.YtoccblnjalpcdaaG
namespace Go.Proofs.Ytoccblnjalpcdaa
open Go.RowKit Go.Proofs.YtoccblnjalpcdaaW.PrintWords
set_option linter.unusedVariables false
set_option linter.unusedSimpArgs false

theorem str_append (xs ys : List Int) : strOfNums (xs ++ ys) = strOfNums xs ++ strOfNums ys := by
  apply ByteArray.ext; simp [strOfNums]
theorem str_size (xs : List Int) : (strOfNums xs).size = xs.length := by
  show (strOfNums xs).data.size = _; simp [strOfNums]
theorem str_bytes (s : ByteArray) : strOfNums (bytesOf s) = s := by
  apply ByteArray.ext
  simp only [strOfNums, bytesOf, List.map_map]
  apply Array.ext'
  simp only [List.toList_toArray]
  conv => rhs; rw [← List.map_id s.data.toList]
  apply List.map_congr_left
  intro b _
  simp
def Byt (xs : List Int) : Prop := ∀ x ∈ xs, 0 ≤ x ∧ x ≤ 255
theorem bytesOf_byt (s : ByteArray) : Byt (bytesOf s) := by
  intro x hx
  simp only [bytesOf, List.mem_map] at hx
  obtain ⟨b, _, rfl⟩ := hx
  have := b.toNat_lt
  omega
theorem bytes_str (xs : List Int) (h : Byt xs) : bytesOf (strOfNums xs) = xs := by
  simp only [strOfNums, bytesOf, List.map_map]
  conv => rhs; rw [← List.map_id xs]
  apply List.map_congr_left
  intro x hx
  have := h x hx
  simp only [Function.comp, id]
  have e : (x.toNat.toUInt8).toNat = x.toNat := by
    show x.toNat % 256 = _; omega
  rw [e]; omega
theorem extract_one (s : ByteArray) (k : Nat) (h : k < s.size) : s.extract k (k + 1) = strOfNums [bt s k] := by
  have h1 : bytesOf (s.extract k (k + 1)) = [bt s k] := by
    have e : (s.extract k (k + 1)).data.toList = (s.data.toList.drop k).take 1 := by
      rw [ByteArray.data_extract, Array.toList_extract]
      simp [List.extract]
    unfold bytesOf
    rw [e, List.map_take, List.map_drop]
    have := bytes_drop s k h
    unfold bytesOf at this
    rw [this]; rfl
  rw [← h1, str_bytes]

def rescStep (c : Int) : List Int := if rplainB c then [c] else [92, hexDigit (c / 16), hexDigit (c % 16)]
def rescL (l : List Int) : List Int := l.flatMap rescStep
theorem resc_snoc (s : ByteArray) (k : Nat) (h : k < s.size) : rescL ((bytesOf s).take (k + 1)) = rescL ((bytesOf s).take k) ++ rescStep (bt s k) := by
  rw [bytes_take_snoc s k h]; simp [rescL]

set_option maxHeartbeats 1000000 in
set_option maxRecDepth 100000 in
theorem resc_any (s : ByteArray) (w : World) (hs : s.size ≤ 1000000) :
    Calls Try.prog 20 #[.string s] w fun e w' => e = .returned (.string (strOfNums (rescL (bytesOf s)))) ∧ Below w.heap.size w w' := by
  go_enter Try.func20, Try.ntmps20
  go_wp2
  go_loopw [3, 4] (fun v i wr => ∃ (k : Nat) (o : ByteArray), k ≤ s.size ∧ i = .int .i64 k ∧ v = .string o ∧ o.size ≤ 3 * k ∧ Below w.heap.size w wr ∧ Hid (o = strOfNums (rescL ((bytesOf s).take k)))) (fun _ i _ => s.size - (intOf i).toNat)
  case atStart => exact ⟨0, ⟨#[]⟩, by omega, rfl, rfl, by decide, Below.refl _ _, rfl⟩
  case round =>
    obtain ⟨k, o, hk, rfl, rfl, hlen, HB, HF⟩ := hrel
    have hle : w.heap.size ≤ wr.heap.size := HB.size
    by_cases hlt : k < s.size
    · have HS := resc_snoc s k hlt
      have hr := bt_range s k
      have hx0 : ((s[k]'hlt).toNat : Int) = bt s k := bt_at s k hlt
      have b1 : (k : Int) ≤ k + 1 := by omega
      have b2 : (k : Int) + 1 ≤ s.size := by omega
      generalize hc0 : bt s k = c at *
      unfold rescStep at HS
      generalize hp : rplainB c = b at *
      have HP := Lib.hid hp
      clear hp
      cases b
      · rw [if_neg (by simp)] at HS
        have HS1 := Lib.hid HS
        clear HS
        have hex1 := extract_one s k hlt
        rw [hc0] at hex1
        have hxs : (s.extract k (k + 1)).size ≤ 1000000 := by rw [hex1, str_size]; simp
        have hby : bytesOf (s.extract k (k + 1)) = [c] := by rw [hex1, bytes_str]; intro x hx; simp at hx; omega
        have HE := Lib.hid hby
        have z2 : (strOfNums (hexL [c])).size ≤ 2 := by rw [str_size]; simp [hexL]
        clear hex1 hby hc0
        go_wp2_with (first | (go_at_call 32; refine (rplain_any _ _).mono ?_; rintro e w' ⟨rfl, rfl⟩; rw [HP.out]) | (go_at_call 33; refine (hex_any _ _ hxs).mono ?_; rintro e w1 ⟨rfl, hb1⟩; rw [HE.out]))
        go_roundw
        case rel => exact ⟨k + 1, _, by omega, by go_num, rfl, by simp [str_size, hexL]; have : (⟨#[92]⟩ : ByteArray).size = 1 := rfl; omega, HB.trans (hb1.mono hle), by show _ = _; rw [HS1.out, str_append, HF.out]; apply ByteArray.ext; simp [strOfNums, hexL]⟩
        case measure => simp [intOf]; omega
      · rw [if_pos rfl] at HS
        have HS1 := Lib.hid HS
        clear HS
        have hex1 := extract_one s k hlt
        rw [hc0] at hex1
        have HX := Lib.hid hex1
        clear hex1 hc0
        go_wp2_with (first | (go_at_call 32; refine (rplain_any _ _).mono ?_; rintro e w' ⟨rfl, rfl⟩; rw [HP.out]))
        go_roundw
        case rel => exact ⟨k + 1, _, by omega, by go_num, rfl, by rw [HX.out]; simp [str_size]; omega, HB, by show _ = _; rw [HS1.out, str_append, HF.out, HX.out]⟩
        case measure => simp [intOf]; omega
    · go_wp2
      go_ret
      obtain rfl : k = s.size := by omega
      refine ⟨ret_str ?_, HB⟩
      have := HF.out
      rw [List.take_of_length_le (by rw [bytesOf_length]; exact Nat.le_refl _)] at this
      rw [this]
end Go.Proofs.Ytoccblnjalpcdaa
