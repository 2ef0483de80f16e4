/- Contracts of text.Escape and text.Unescape. -/
import Derived.Test.YtoccblnjalpcdaaC
import Derived.Deep.RegionLaw
import Derived.Laws.BitsAllLaws
namespace Go.Proofs.Ytoccblnjalpcdaa
open Go.RowKit Go.Proofs.YtoccblnjalpcdaaW.PrintWords
set_option linter.unusedVariables false
set_option linter.unusedSimpArgs false

def hexDigit (n : Int) : Int := if n < 10 then 48 + n else 87 + n
theorem and15 (c : Int) (h0 : 0 ≤ c) (h1 : c ≤ 255) : bits .and .u8 c 15 = c % 16 := by
  rw [u8_and c 15 h0 (by omega) (by omega) (by omega)]
  show ((c.toNat &&& 15 : Nat) : Int) = _
  rw [show (15 : Nat) = 2 ^ 4 - 1 from rfl, Nat.and_two_pow_sub_one_eq_mod]
  omega
theorem hexdig_bt (i : Int) (h0 : 0 ≤ i) (h1 : i < 16) : bt ⟨#[48, 49, 50, 51, 52, 53, 54, 55, 56, 57, 97, 98, 99, 100, 101, 102]⟩ i = hexDigit i := by
  obtain ⟨n, rfl⟩ := Int.eq_ofNat_of_zero_le h0
  have h : ∀ m : Fin 16, bt ⟨#[48, 49, 50, 51, 52, 53, 54, 55, 56, 57, 97, 98, 99, 100, 101, 102]⟩ ((m.val : Nat) : Int) = hexDigit (m.val : Int) := by decide
  exact h ⟨n, by omega⟩
def escStep (c : Int) : List Int := if plainB c then [c] else [92, hexDigit (c / 16), hexDigit (c % 16)]
def escL (l : List Int) : List Int := l.flatMap escStep
theorem esc_snoc (s : ByteArray) (k : Nat) (h : k < s.size) : escL ((bytesOf s).take (k + 1)) = escL ((bytesOf s).take k) ++ escStep (bt s k) := by
  rw [bytes_take_snoc s k h]; simp [escL]

set_option maxHeartbeats 1000000 in
set_option maxRecDepth 100000 in
theorem escape_any (s : ByteArray) (w : World) (hs : s.size ≤ 1000000) :
    Calls Try.prog 17 #[.string s] w fun e w' => e = .returned (.string (strOfNums (escL (bytesOf s)))) ∧ Below w.heap.size w w' := by
  have kb := fun W => print_bytes (P := Try.prog) 9 22 5 Try.underlying9 Try.underlying22 Try.underlying5 s W
  go_enter Try.func17, Try.ntmps17
  go_wp2
  obtain ⟨wb, hwb⟩ : ∃ wb, wb = Lib.bytesWorld w 5 s := ⟨_, rfl⟩
  have hsz : wb.heap.size = w.heap.size + 1 := by rw [hwb, Lib.bytesWorld_size]
  have hbel : Below w.heap.size w wb := by rw [hwb]; exact bytes_below (Below.refl _ _) (Nat.le_refl _) 5 s
  have hrd : ReadsInt wb .u8 (some ⟨w.heap.size, 0, none⟩) s.size (bytesOf s) := by rw [hwb]; exact bytes_reads w 5 s (by omega)
  rw [← hwb]
  clear hwb kb
  have Hsz := Lib.hid hsz
  clear hsz
  go_loopw [3, 9] (fun v i wr => ∃ (k : Nat) (out : List Int), k ≤ s.size ∧ i = .int .i64 k ∧ out.length ≤ 3 * k ∧ OwnB wb.heap.size wb wr v out ∧ Hid (escL ((bytesOf s).take k) = out)) (fun _ i _ => s.size - (intOf i).toNat)
  case atStart => exact ⟨0, [], by omega, rfl, by simp, ⟨own_nil _ _ _ _, Below.refl _ _⟩, rfl⟩
  case round =>
    obtain ⟨k, out, hk, rfl, hlen, HO, HF⟩ := hrel
    have hle : wb.heap.size ≤ wr.heap.size := HO.below.size
    by_cases hlt : k < s.size
    · have HS1 := esc_snoc s k hlt
      rw [HF.out] at HS1
      have hr := bt_range s k
      have hcell : wr.cell? ⟨w.heap.size, k, none⟩ = some (.int .u8 (bt s k)) := by
        obtain ⟨ad, hh, hc⟩ := hrd.at_ k (by omega) (by omega)
        cases hh
        rw [add_plain] at hc
        rw [HO.below.cell (p := ⟨w.heap.size, k, none⟩) (by have := Hsz.out; show w.heap.size < _; omega)]
        rw [rd_bytesOf] at hc
        simpa using hc
      generalize bt s k = c at *
      obtain ⟨A, cap, rfl⟩ := own_slice HO.own
      unfold escStep at HS1
      generalize hp : plainB c = b at *
      have HP := Lib.hid hp
      clear hp
      have HS := Lib.hid HS1
      clear HS1
      cases b
      · go_wp2_with (first | (go_at_call 30; refine (plain_any _ _).mono ?_; rintro e w' ⟨rfl, rfl⟩; rw [HP.out]))
        have q1 : 0 ≤ c / 16 := by omega
        have q2 : c / 16 < 16 := by omega
        have q3 : 0 ≤ c % 16 := by omega
        have q4 : c % 16 < 16 := by omega
        have qa := and15 c hr.1 hr.2
        have hx1 := bt_at ⟨#[48, 49, 50, 51, 52, 53, 54, 55, 56, 57, 97, 98, 99, 100, 101, 102]⟩ (c / 16)
        have hx2 := bt_at ⟨#[48, 49, 50, 51, 52, 53, 54, 55, 56, 57, 97, 98, 99, 100, 101, 102]⟩ (c % 16)
        go_region_law (refine stepN (w0 := wb) wb.heap.size rfl (.tmp 19) (.tmp 26) rfl (.slice A out.length cap) out [92, hexDigit (c / 16), hexDigit (c % 16)] 3 wr.heap.size rfl (by omega) rfl rfl ?cO ?cB (by omega) ?cG ?_; (case cO => exact (HO.alloc hle _).drew); (case cB => exact Nat.le_trans hle (by simp)); (case cG => (show (wr.alloc _).heap[wr.heap.size]? = _; rw [heap_alloc_new]; simp [nums, hexdig_bt _ q1 q2, hexdig_bt _ q3 q4])); intro v1 w1 HO1 hz1)
        all_goals
          go_wp2
          go_roundw
          case rel => exact ⟨k + 1, _, by omega, by go_num, by simp; omega, HO1, HS⟩
          case measure => simp [intOf]; omega
      · go_wp2_with (first | (go_at_call 30; refine (plain_any _ _).mono ?_; rintro e w' ⟨rfl, rfl⟩; rw [HP.out]) | (at_builtin; refine app1 wb.heap.size rfl (.tmp 15) (.tmp 17) rfl (.slice A out.length cap) out c rfl rfl HO hle (by omega) ?_; intro v1 w1 HO1 hz1))
        go_roundw
        case rel => exact ⟨k + 1, _, by omega, by go_num, by simp; omega, HO1, HS⟩
        case measure => simp [intOf]; omega
    · have HC := own_string (P := Try.prog) Try.underlying22 Try.underlying5 Try.underlying9 HO.own
      go_wp2
      go_ret
      obtain rfl : k = s.size := by omega
      refine ⟨ret_str ?_, hbel.trans (HO.below.mono (by have := Hsz.out; omega))⟩
      have := HF.out
      rw [List.take_of_length_le (by rw [bytesOf_length]; exact Nat.le_refl _)] at this
      rw [this]
end Go.Proofs.Ytoccblnjalpcdaa
