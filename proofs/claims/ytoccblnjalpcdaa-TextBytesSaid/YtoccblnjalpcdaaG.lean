/- Contracts of the reference's Hex and Unhex. -/
import Derived.Test.YtoccblnjalpcdaaF
namespace Go.Proofs.Ytoccblnjalpcdaa
open Go.RowKit Go.Proofs.YtoccblnjalpcdaaW.PrintWords
set_option linter.unusedVariables false
set_option linter.unusedSimpArgs false

theorem tdiv16 (c : Int) (h0 : 0 ≤ c) (h1 : c ≤ 255) : IntKind.u8.wrap (c.tdiv 16) = c / 16 := by
  rw [Int.tdiv_eq_ediv_of_nonneg h0]
  have : IntKind.u8.wrap (c / 16) = (c / 16) % 256 := rfl
  rw [this]; omega
theorem tmod16 (c : Int) (h0 : 0 ≤ c) (h1 : c ≤ 255) : IntKind.u8.wrap (c.tmod 16) = c % 16 := by
  rw [Int.tmod_eq_emod_of_nonneg h0]
  have : IntKind.u8.wrap (c % 16) = (c % 16) % 256 := rfl
  rw [this]; omega
theorem nibble_any' (c : Int) (w : World) (h0 : 0 ≤ c) (h1 : c ≤ 255) :
    Calls Try.prog 36 #[.int .u8 c] w fun e w' => e = .returned (.int .i64 (nibL c)) ∧ w' = w :=
  (nibble_any c w h0 h1).mono fun _ _ h => ⟨h.1, h.2.symm⟩
def hexL (l : List Int) : List Int := l.flatMap fun c => [hexDigit (c / 16), hexDigit (c % 16)]
theorem hex_snoc (s : ByteArray) (k : Nat) (h : k < s.size) : hexL ((bytesOf s).take (k + 1)) = hexL ((bytesOf s).take k) ++ [hexDigit (bt s k / 16), hexDigit (bt s k % 16)] := by
  rw [bytes_take_snoc s k h]; simp [hexL]

set_option maxHeartbeats 1000000 in
set_option maxRecDepth 100000 in
theorem hex_any (s : ByteArray) (w : World) (hs : s.size ≤ 1000000) :
    Calls Try.prog 33 #[.string s] w fun e w' => e = .returned (.string (strOfNums (hexL (bytesOf s)))) ∧ Below w.heap.size w w' := by
  obtain ⟨i0, hi, hzz⟩ := Option.map_eq_some_iff.1 info5
  simp only [Prod.mk.injEq] at hzz
  obtain ⟨hz0, hz1, hz2⟩ := hzz
  obtain ⟨wm, hrun, hown, hgr⟩ := run_make_own (P := Try.prog) w w.heap.size 22 5 i0 (.int .u8 0) 1 Try.underlying22 hi hz0 hz1 .i64 .i64 (2 * s.size) (by rw [hz2]; omega) (by simp only [maxLen]; omega) (Nat.le_refl _)
  have hrun' : (Instr.makeSlice 22 (.int .i64 0) (.int .i64 (2 * (s.size : Int)))).run Try.prog w = .ok (.slice (some ⟨w.heap.size, 0, none⟩) 0 (2 * s.size)) wm := by simpa using hrun
  have HO0 : OwnB w.heap.size w wm (.slice (some ⟨w.heap.size, 0, none⟩) 0 (2 * s.size)) [] := ⟨hown, (Below.refl _ _).grown hgr (Nat.le_refl _) (by simp)⟩
  clear hi hz0 hz1 hz2 hown hgr hrun
  go_enter Try.func33, Try.ntmps33
  go_wp2
  go_loopw [3, 4] (fun v i wr => ∃ (k : Nat) (out : List Int), k ≤ s.size ∧ i = .int .i64 k ∧ out.length ≤ 2 * k ∧ OwnB w.heap.size w wr v out ∧ Hid (hexL ((bytesOf s).take k) = out)) (fun _ i _ => s.size - (intOf i).toNat)
  case atStart => exact ⟨0, [], by omega, rfl, by simp, HO0, rfl⟩
  case round =>
    clear hrun' HO0
    obtain ⟨k, out, hk, rfl, hlen, HO, HF⟩ := hrel
    have hle : w.heap.size ≤ wr.heap.size := HO.below.size
    by_cases hlt : k < s.size
    · have HS := hex_snoc s k hlt
      rw [HF.out] at HS
      have hr := bt_range s k
      have hx0 : ((s[k]'hlt).toNat : Int) = bt s k := bt_at s k hlt
      generalize bt s k = c at *
      have HS1 := Lib.hid HS
      clear HS
      obtain ⟨A, cap, rfl⟩ := own_slice HO.own
      have q1 : 0 ≤ c / 16 := by omega
      have q2 : c / 16 < 16 := by omega
      have q3 : 0 ≤ c % 16 := by omega
      have q4 : c % 16 < 16 := by omega
      have hx1 := bt_at ⟨#[48, 49, 50, 51, 52, 53, 54, 55, 56, 57, 97, 98, 99, 100, 101, 102]⟩ (c / 16)
      have hx2 := bt_at ⟨#[48, 49, 50, 51, 52, 53, 54, 55, 56, 57, 97, 98, 99, 100, 101, 102]⟩ (c % 16)
      have qa : IntKind.u8.wrap (c.tdiv 16) = c / 16 := tdiv16 c hr.1 hr.2
      have qb : IntKind.u8.wrap (c.tmod 16) = c % 16 := tmod16 c hr.1 hr.2
      have qc : c.tmod 16 = c % 16 := Int.tmod_eq_emod_of_nonneg hr.1
      go_wp2
      go_region_law (refine stepN (w0 := w) w.heap.size rfl (.tmp 15) (.tmp 26) rfl (.slice A out.length cap) out [hexDigit (c / 16), hexDigit (c % 16)] 2 wr.heap.size rfl (by omega) rfl rfl ?cO ?cB (by omega) ?cG ?_; (case cO => exact (HO.alloc hle _).drew); (case cB => exact Nat.le_trans hle (by simp)); (case cG => (show (wr.alloc _).heap[wr.heap.size]? = _; rw [heap_alloc_new]; simp [nums, hexdig_bt _ q1 q2, hexdig_bt _ q3 q4])); intro v1 w1 HO1 hz1)
      all_goals
        go_wp2
        go_roundw
        case rel => exact ⟨k + 1, _, by omega, by go_num, by simp; omega, HO1, HS1⟩
        case measure => simp [intOf]; omega
    · have HC := own_string (P := Try.prog) Try.underlying22 Try.underlying5 Try.underlying9 HO.own
      go_wp2
      go_ret
      obtain rfl : k = s.size := by omega
      refine ⟨ret_str ?_, HO.below⟩
      have := HF.out
      rw [List.take_of_length_le (by rw [bytesOf_length]; exact Nat.le_refl _)] at this
      rw [this]

def unhexL : List Int → List Int → Option (List Int)
  | a :: b :: r, out => if nibL a < 0 ∨ nibL b < 0 then none else unhexL r (out ++ [16 * nibL a + nibL b])
  | _, out => some out

set_option maxHeartbeats 2000000 in
set_option maxRecDepth 100000 in
theorem unhex_any (s : ByteArray) (w : World) (hs : s.size ≤ 1000000) (he : (s.size : Int) % 2 = 0) :
    Calls Try.prog 31 #[.string s] w fun e w' => e = .returned (unescRes (unhexL (bytesOf s) [])) ∧ Below w.heap.size w w' := by
  generalize hR : unhexL (bytesOf s) [] = R
  have HR := Lib.hid hR
  clear hR
  have HE := Lib.hid he
  have he1 : ((s.size : Int) % 2 == 0) = true := beq_iff_eq.2 he
  have he2 : ((s.size : Int) % 2 != 0) = false := bne_eq_false_iff_eq.2 he
  clear he
  go_enter Try.func31, Try.ntmps31
  go_wp2
  go_loopw [4, 5] (fun v i wr => ∃ (k : Nat) (out : List Int), k ≤ s.size ∧ i = .int .i64 k ∧ out.length ≤ k ∧ OwnB w.heap.size w wr v out ∧ Hid (unhexL ((bytesOf s).drop k) out = R ∧ k % 2 = 0)) (fun _ i _ => s.size - (intOf i).toNat)
  case atStart => exact ⟨0, [], by omega, rfl, by simp, ⟨own_nil _ _ _ _, Below.refl _ _⟩, HR.out, rfl⟩
  case round =>
    obtain ⟨k, out, hk, rfl, hlen, HO, HF⟩ := hrel
    have hle : w.heap.size ≤ wr.heap.size := HO.below.size
    by_cases hlt : k < s.size
    · have e1 : k + 1 < s.size := by have := HE.out; have := HF.out.2; omega
      have hx0 : ((s[k]'hlt).toNat : Int) = bt s k := bt_at s k hlt
      have hx1 : ((s[k + 1]'e1).toNat : Int) = bt s ((k + 1 : Nat) : Int) := bt_at s ((k + 1 : Nat) : Int) e1
      have r0 := bt_range s k
      have r1 := bt_range s ((k + 1 : Nat) : Int)
      have HF1 := HF.out.1
      rw [bytes_drop s k hlt, bytes_drop s (k + 1) e1] at HF1
      generalize bt s ((k + 1 : Nat) : Int) = c1 at *
      generalize bt s k = c0 at *
      unfold unhexL at HF1
      have i0 := nibL_range c0
      have i1 := nibL_range c1
      have HI0 : Hid (nibL c0 = nibL c0) := rfl
      generalize hn0 : nibL c0 = x at *
      generalize hn1 : nibL c1 = y at *
      have Hn0 := Lib.hid hn0
      have Hn1 := Lib.hid hn1
      have HF2 := Lib.hid HF1
      clear HF1 hn0 hn1 HI0
      obtain ⟨A, cap, rfl⟩ := own_slice HO.own
      have s1 : IntKind.i64.wrap ((k : Int) + 1) = k + 1 := IntWalk.i64_in _ (by omega)
      have s3 : 0 ≤ (k : Int) + 1 := by omega
      have s5 : ((k : Int) + 1).toNat = k + 1 := by omega
      have s7 : (k : Int) + 1 < s.size := by omega
      go_wp2_with fail
      go_quiet ((go_at_call 36; exact Calls.quiet_of_same (nibble_any' _ _ (by omega) (by omega))))
      clear s1 s5
      simp only [Hn0.out, Hn1.out]
      by_cases hx : x < 0
      · have HN : Hid (none = R) := by show _ = _; rw [← HF2.out, if_pos (.inl hx)]
        go_wp2
        go_ret2
        exact ⟨by rw [← HN.out]; rfl, by repeat (first | exact HO.below | apply pw_below_drewN | apply below_drew)⟩
      by_cases hy : y < 0
      · have HN : Hid (none = R) := by show _ = _; rw [← HF2.out, if_pos (.inr hy)]
        go_wp2
        go_ret2
        exact ⟨by rw [← HN.out]; rfl, by repeat (first | exact HO.below | apply pw_below_drewN | apply below_drew)⟩
      have hm : (16 * x + y) % 256 = 16 * x + y := by omega
      have hm1 : 0 ≤ 16 * x + y := by omega
      have hm2 : 16 * x + y ≤ 255 := by omega
      have HF3 : Hid (unhexL (List.drop (k + 1 + 1) (bytesOf s)) (out ++ [16 * x + y]) = R) := by
        show _ = _; rw [← HF2.out, if_neg (by omega)]
      clear HF2
      have HOd : OwnB w.heap.size w (wr.drewN nq) (.slice A out.length cap) out := ⟨HO.own, pw_below_drewN HO.below _⟩
      go_wp2_with (first | (at_builtin; refine app1 w.heap.size rfl (.tmp 33) (.tmp 39) rfl (.slice A out.length cap) out (16 * x + y) rfl rfl HOd hle (by omega) ?_; intro v1 w1 HO1 hz1))
      go_roundw
      case rel => exact ⟨k + 2, _, by omega, by go_num, by simp; omega, HO1, HF3.out, by have := HF.out.2; omega⟩
      case measure => simp [intOf]; omega
    · have HC := own_string (P := Try.prog) Try.underlying22 Try.underlying5 Try.underlying9 HO.own
      go_wp2
      go_ret2
      obtain rfl : k = s.size := by omega
      refine ⟨?_, HO.below⟩
      rw [← HF.out.1, bytes_drop_end s _ (Nat.le_refl _)]; rfl
end Go.Proofs.Ytoccblnjalpcdaa
