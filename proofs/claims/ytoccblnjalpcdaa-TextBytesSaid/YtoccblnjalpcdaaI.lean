/- The contract of the reference's Unescape. -/
import Derived.Test.YtoccblnjalpcdaaH
namespace Go.Proofs.Ytoccblnjalpcdaa
open Go.RowKit Go.Proofs.YtoccblnjalpcdaaW.PrintWords
set_option linter.unusedVariables false
set_option linter.unusedSimpArgs false

def unescR : List Int → List Int → Option (List Int)
  | [], out => some out
  | c :: r, out =>
    if c = 92 then
      match r with
      | a :: b :: r' => if nibL a < 0 ∨ nibL b < 0 then none else unescR r' (out ++ [16 * nibL a + nibL b])
      | _ => none
    else unescR r (out ++ [c])
def unescRef (l : List Int) : Option (List Int) := (unescR l []).bind fun o => if rescL o = l then some o else none
theorem extract_two (s : ByteArray) (k : Nat) (h : k + 2 < s.size) : s.extract (k + 1) (k + 3) = strOfNums [bt s ((k + 1 : Nat) : Int), bt s ((k + 2 : Nat) : Int)] := by
  have h1 : bytesOf (s.extract (k + 1) (k + 3)) = [bt s ((k + 1 : Nat) : Int), bt s ((k + 2 : Nat) : Int)] := by
    have e : (s.extract (k + 1) (k + 3)).data.toList = (s.data.toList.drop (k + 1)).take 2 := by
      rw [ByteArray.data_extract, Array.toList_extract]
      simp [List.extract]
    unfold bytesOf
    rw [e, List.map_take, List.map_drop]
    have t1 := bytes_drop s (k + 1) (by omega)
    have t2 := bytes_drop s (k + 1 + 1) (by omega)
    unfold bytesOf at t1 t2
    rw [t1, t2]; rfl
  rw [← h1, str_bytes]
theorem str_eq_iff (o s : ByteArray) (xs : List Int) (h : o = strOfNums (rescL xs)) (hb : Byt (rescL xs)) : (o = s) ↔ rescL xs = bytesOf s := by
  subst h
  constructor
  · intro h; rw [← h, bytes_str _ hb]
  · intro h; rw [h, str_bytes]
theorem rescL_byt (xs : List Int) (h : Byt xs) : Byt (rescL xs) := by
  intro x hx
  simp only [rescL, List.mem_flatMap] at hx
  obtain ⟨c, hc, hx⟩ := hx
  have := h c hc
  unfold rescStep at hx
  split at hx
  · simp at hx; omega
  · simp at hx
    unfold hexDigit at hx
    rcases hx with rfl | rfl | rfl
    · omega
    · split <;> omega
    · split <;> omega

set_option maxHeartbeats 2000000 in
set_option maxRecDepth 100000 in
theorem unescR_any (s : ByteArray) (w : World) (hs : s.size ≤ 300000) :
    Calls Try.prog 19 #[.string s] w fun e w' => e = .returned (unescRes (unescRef (bytesOf s))) ∧ Below w.heap.size w w' := by
  generalize hR : unescR (bytesOf s) [] = R
  have HR := Lib.hid hR
  have HT : Hid (unescRef (bytesOf s) = R.bind fun o => if rescL o = bytesOf s then some o else none) := by show _ = _; unfold unescRef; rw [hR]
  clear hR
  generalize unescRef (bytesOf s) = T at *
  go_enter Try.func19, Try.ntmps19
  go_wp2
  go_loopw [4, 5] (fun v i wr => ∃ (k : Nat) (out : List Int), k ≤ s.size ∧ i = .int .i64 k ∧ out.length ≤ k ∧ v = .string (strOfNums out) ∧ Below w.heap.size w wr ∧ Hid (unescR ((bytesOf s).drop k) out = R ∧ Byt out)) (fun _ i _ => s.size - (intOf i).toNat)
  case atStart => exact ⟨0, [], by omega, rfl, by simp, rfl, Below.refl _ _, HR.out, by intro x hx; simp at hx⟩
  case round =>
    obtain ⟨k, out, hk, rfl, hlen, rfl, HB, HF⟩ := hrel
    have hle : w.heap.size ≤ wr.heap.size := HB.size
    have hz : (strOfNums out).size ≤ k := by rw [str_size]; exact hlen
    by_cases hlt : k < s.size
    · have HD := Lib.hid (bytes_drop s k hlt)
      have hr := bt_range s k
      have hx0 : ((s[k]'hlt).toNat : Int) = bt s k := bt_at s k hlt
      have HF1 := HF.out.1
      rw [HD.out] at HF1
      unfold unescR at HF1
      by_cases h92 : bt s k = 92
      · rw [if_pos h92] at HF1
        rw [h92] at hx0
        by_cases h3 : s.size - k < 3
        · have h3' : (s.size : Int) - k < 3 := by omega
          have HN : Hid (R = none) := by
            show _ = _
            rw [← HF1]
            have hl : ((bytesOf s).drop (k + 1)).length < 2 := by rw [List.length_drop, bytesOf_length]; omega
            revert hl
            cases (bytesOf s).drop (k + 1) with
            | nil => intro _; rfl
            | cons a r => cases r with
              | nil => intro _; rfl
              | cons b r => intro hl; simp at hl; omega
          clear HF1 h92
          go_wp2
          go_ret2
          exact ⟨by rw [HT.out, HN.out]; rfl, HB⟩
        · have h3' : ¬ (s.size : Int) - k < 3 := by omega
          have e1 : k + 1 < s.size := by omega
          have e2 : k + 2 < s.size := by omega
          have hex2 := extract_two s k e2
          have r1 := bt_range s ((k + 1 : Nat) : Int)
          have r2 := bt_range s ((k + 2 : Nat) : Int)
          rw [bytes_drop s (k + 1) e1, bytes_drop s (k + 1 + 1) e2] at HF1
          simp only [] at HF1
          generalize bt s ((k + 1 : Nat) : Int) = c1 at *
          rw [show ((k + 1 + 1 : Nat) : Int) = ((k + 2 : Nat) : Int) from rfl] at HF1
          generalize bt s ((k + 2 : Nat) : Int) = c2 at *
          have i1 := nibL_range c1
          have i2 := nibL_range c2
          have hby : bytesOf (s.extract (k + 1) (k + 3)) = [c1, c2] := by rw [hex2, bytes_str]; intro x hx; simp at hx; omega
          have hxs : (s.extract (k + 1) (k + 3)).size ≤ 1000000 := by rw [hex2, str_size]; simp
          have hxe : ((s.extract (k + 1) (k + 3)).size : Int) % 2 = 0 := by rw [hex2, str_size]; simp
          have HX : Hid (unhexL (bytesOf (s.extract (k + 1) (k + 3))) [] = if nibL c1 < 0 ∨ nibL c2 < 0 then none else some [16 * nibL c1 + nibL c2]) := by
            show _ = _; rw [hby]; rfl
          clear hex2 hby
          have HX2 := Lib.hid hxe
          have HF2 := Lib.hid HF1
          clear HF1 h92 hxe
          have b1 : (k : Int) + 1 ≤ k + 3 := by omega
          have b2 : (k : Int) + 3 ≤ s.size := by omega
          have b3 : 0 ≤ (k : Int) + 1 := by omega
          by_cases hn : nibL c1 < 0 ∨ nibL c2 < 0
          · have HN : Hid (R = none) := by show _ = _; rw [← HF2.out, if_pos hn]
            have HX3 : Hid (unhexL (bytesOf (s.extract (k + 1) (k + 3))) [] = none) := by show _ = _; rw [HX.out, if_pos hn]
            clear HX HF2 hn
            go_wp2_with (first | (go_at_call 31; refine (unhex_any _ _ hxs HX2.out).mono ?_; rintro e w1 ⟨rfl, hb1⟩; rw [HX3.out]; simp only [unescRes, Option.getD_none, Option.isSome_none]))
            go_ret2
            exact ⟨by rw [HT.out, HN.out]; rfl, HB.trans (hb1.mono hle)⟩
          · have HX3 : Hid (unhexL (bytesOf (s.extract (k + 1) (k + 3))) [] = some [16 * nibL c1 + nibL c2]) := by show _ = _; rw [HX.out, if_neg hn]
            have HF3 : Hid (unescR (List.drop (k + 1 + 1 + 1) (bytesOf s)) (out ++ [16 * nibL c1 + nibL c2]) = R) := by
              show _ = _; rw [← HF2.out, if_neg hn]
            have hv : 0 ≤ 16 * nibL c1 + nibL c2 ∧ 16 * nibL c1 + nibL c2 ≤ 255 := by omega
            clear HX HF2 hn
            generalize 16 * nibL c1 + nibL c2 = v at *
            have z1 : (strOfNums [v]).size ≤ 1 := by rw [str_size]; simp
            go_wp2_with (first | (go_at_call 31; refine (unhex_any _ _ hxs HX2.out).mono ?_; rintro e w1 ⟨rfl, hb1⟩; rw [HX3.out]; simp only [unescRes, Option.getD_some, Option.isSome_some]))
            go_roundw
            case rel => exact ⟨k + 3, out ++ [v], by omega, by go_num, by simp; omega, by rw [str_append], HB.trans (hb1.mono hle), HF3.out, by intro x hx; rcases List.mem_append.1 hx with hx | hx; exact HF.out.2 x hx; simp at hx; omega⟩
            case measure => simp [intOf]; omega
      · rw [if_neg h92] at HF1
        have h92' : (bt s k == 92) = false := beq_eq_false_iff_ne.2 h92
        have h92'' : (bt s k != 92) = true := bne_iff_ne.2 h92
        have hex1 := extract_one s k hlt
        have b1 : (k : Int) ≤ k + 1 := by omega
        have b2 : (k : Int) + 1 ≤ s.size := by omega
        have z1 : (s.extract k (k + 1)).size ≤ 1 := by rw [hex1, str_size]; simp
        generalize bt s k = c at *
        have HN := Lib.hid HF1
        have HX := Lib.hid hex1
        clear HF1 h92 hex1
        go_wp2
        go_roundw
        case rel => exact ⟨k + 1, out ++ [c], by omega, by go_num, by simp; omega, by rw [str_append, HX.out], HB, HN.out, by intro x hx; rcases List.mem_append.1 hx with hx | hx; exact HF.out.2 x hx; simp at hx; omega⟩
        case measure => simp [intOf]; omega
    · have hRS : some out = R := by rw [← HF.out.1, bytes_drop_end s k (by omega)]; rfl
      have HT2 : Hid (T = if rescL out = bytesOf s then some out else none) := by show _ = _; rw [HT.out, ← hRS]; rfl
      have hbo := bytes_str out HF.out.2
      have heq := str_eq_iff (strOfNums (rescL out)) s out rfl (rescL_byt out HF.out.2)
      clear hRS
      have HBO := Lib.hid hbo
      have HEQ := Lib.hid heq
      clear hbo heq
      by_cases hc : rescL out = bytesOf s
      · have hq : ((strOfNums (rescL out)).toList == s.toList) = true := by rw [eqS_iff, decide_eq_true_iff]; exact HEQ.out.2 hc
        have hq2 : ((strOfNums (rescL out)).toList != s.toList) = false := by rw [bne, hq]; rfl
        have HT3 : Hid (T = some out) := by show _ = _; rw [HT2.out, if_pos hc]
        clear hc
        go_wp2_with (first | (go_at_call 20; refine (resc_any _ _ (by omega)).mono ?_; rintro e w1 ⟨rfl, hb1⟩; rw [HBO.out]))
        go_ret2
        exact ⟨by rw [HT3.out]; rfl, HB.trans (hb1.mono hle)⟩
      · have hq : ((strOfNums (rescL out)).toList == s.toList) = false := by rw [eqS_iff, decide_eq_false_iff_not]; exact fun h => hc (HEQ.out.1 h)
        have hq2 : ((strOfNums (rescL out)).toList != s.toList) = true := by rw [bne, hq]; rfl
        have HT3 : Hid (T = none) := by show _ = _; rw [HT2.out, if_neg hc]
        clear hc
        go_wp2_with (first | (go_at_call 20; refine (resc_any _ _ (by omega)).mono ?_; rintro e w1 ⟨rfl, hb1⟩; rw [HBO.out]))
        go_ret2
        exact ⟨by rw [HT3.out]; rfl, HB.trans (hb1.mono hle)⟩
end Go.Proofs.Ytoccblnjalpcdaa
