/- Contracts of the reference's Fold and MatchText. -/
import Derived.Test.YtoccblnjalpcdaaJ
namespace Go.Proofs.Ytoccblnjalpcdaa
open Go.RowKit Go.Proofs.YtoccblnjalpcdaaW.PrintWords
set_option linter.unusedVariables false
set_option linter.unusedSimpArgs false

def lastI (l : List Int) : Int := l.getD (l.length - 1) 0
def rfoldStep (out : List Int) (c : Int) : List Int := if c ≠ 32 ∨ 0 < out.length ∧ lastI out ≠ 32 then out ++ [c] else out
def rtrim (o : List Int) : List Int := if 0 < o.length ∧ lastI o = 32 then o.take (o.length - 1) else o
def rfoldL (l : List Int) : List Int := rtrim ((lowL l).foldl rfoldStep [])
theorem lowL_byt (l : List Int) (h : Byt l) : Byt (lowL l) := by
  intro x hx
  simp only [lowL, List.mem_map] at hx
  obtain ⟨c, hc, rfl⟩ := hx
  have := h c hc
  unfold lowC
  split <;> omega
theorem rfold_snoc (s : ByteArray) (k : Nat) (h : k < s.size) (st : List Int) (hf : ((bytesOf s).take k).foldl rfoldStep [] = st) :
    ((bytesOf s).take (k + 1)).foldl rfoldStep [] = rfoldStep st (bt s k) := by
  rw [bytes_take_snoc s k h, List.foldl_append, hf]; rfl
theorem OwnB.last {B : Nat} {W w : World} {A : Option Addr} {cap : Nat} {xs : List Int} (h : OwnB B W w (.slice A xs.length cap) xs) (h0 : 0 < xs.length) :
    ∃ g, A = some ⟨g, 0, none⟩ ∧ w.cell? ⟨g, xs.length - 1, none⟩ = some (.int .u8 (lastI xs)) := by
  obtain ⟨g, cap', he, _, _⟩ := h.own.form h0
  injection he with e1 e2 e3
  subst e1; subst e3
  refine ⟨g, rfl, ?_⟩
  have := (own_at h.own ((xs.length - 1 : Nat) : Int) (by omega) (by omega)).1
  simpa [rd, lastI] using this
theorem OwnB.cap {B : Nat} {W w : World} {A : Option Addr} {cap : Nat} {xs : List Int} (h : OwnB B W w (.slice A xs.length cap) xs) : xs.length ≤ cap := by
  rcases h.own.2 with ⟨h1, h2⟩ | ⟨g, cap', cur, he, _, _, hn, _⟩
  · omega
  · injection he with e1 e2 e3
    omega
theorem OwnB.shorter {B : Nat} {W w : World} {g cap : Nat} {xs : List Int} (h : OwnB B W w (.slice (some ⟨g, 0, none⟩) xs.length cap) xs) (m : Nat) (hm : m ≤ xs.length) :
    (convert 22 9 (.slice (some ⟨g, 0, none⟩) m cap)).run Try.prog w = .ok (.string (strOfNums (xs.take m))) w := by
  refine run_convert_bytes_arg w 22 5 Try.underlying22 Try.underlying5 g 0 m cap (xs.take m) (by simp; omega) (fun i hi => ?_) 9 Try.underlying9
  rw [Nat.zero_add]
  have := (own_at h.own ((i : Nat) : Int) (by omega) (by omega)).1
  simpa [rd, List.getD_eq_getElem?_getD, List.getElem?_take_of_lt hi] using this

set_option maxHeartbeats 2000000 in
set_option maxRecDepth 100000 in
theorem rfold_any (s : ByteArray) (w : World) (hs : s.size ≤ 1000000) :
    Calls Try.prog 14 #[.string s] w fun e w' => e = .returned (.string (strOfNums (rfoldL (bytesOf s)))) ∧ Below w.heap.size w w' := by
  have hbt := bytes_str (lowL (bytesOf s)) (lowL_byt _ (bytesOf_byt s))
  have htz : (strOfNums (lowL (bytesOf s))).size = s.size := by rw [str_size, lowL, List.length_map, bytesOf_length]
  have HL := Lib.hid (lower_any s w hs)
  unfold rfoldL
  rw [← hbt]
  generalize htt : strOfNums (lowL (bytesOf s)) = t at *
  clear hbt
  have hs' : t.size ≤ 1000000 := by omega
  clear htz hs htt
  generalize hR : (bytesOf t).foldl rfoldStep [] = R
  have HR := Lib.hid hR
  clear hR
  go_enter Try.func14, Try.ntmps14
  go_wp2_with (first | (go_at_call 12; refine HL.out.mono ?_; rintro e w1 ⟨rfl, hb1⟩))
  have Hb1 := Lib.hid hb1
  have hle1 : w.heap.size ≤ w1.heap.size := hb1.size
  clear hb1 HL
  go_loopw [3, 4] (fun v i wr => ∃ (k : Nat) (out : List Int), k ≤ t.size ∧ i = .int .i64 k ∧ out.length ≤ k ∧ OwnB w1.heap.size w1 wr v out ∧ Hid (((bytesOf t).take k).foldl rfoldStep [] = out)) (fun _ i _ => t.size - (intOf i).toNat)
  case atStart => exact ⟨0, [], by omega, rfl, by simp, ⟨own_nil _ _ _ _, Below.refl _ _⟩, rfl⟩
  case round =>
    obtain ⟨k, out, hk, rfl, hlen, HO, HF⟩ := hrel
    have hle : w1.heap.size ≤ wr.heap.size := HO.below.size
    obtain ⟨A, cap, rfl⟩ := own_slice HO.own
    by_cases hlt : k < t.size
    · have HS := rfold_snoc t k hlt out HF.out
      have hr := bt_range t k
      have hx0 : ((t[k]'hlt).toNat : Int) = bt t k := bt_at t k hlt
      generalize bt t k = c at *
      by_cases h32 : c = 32
      · subst h32
        by_cases h0 : 0 < out.length
        · obtain ⟨g, rfl, hcell⟩ := HO.last h0
          have i0 : ((out.length : Int) - 1).toNat = out.length - 1 := by omega
          by_cases hl : lastI out = 32
          · have HS1 : Hid (((bytesOf t).take (k + 1)).foldl rfoldStep [] = out) := by
              show _ = _; rw [HS]; unfold rfoldStep; rw [if_neg (by rintro (h | h); exact h rfl; exact h.2 hl)]
            rw [hl] at hcell
            clear HS hl
            go_wp2
            go_roundw
            case rel => exact ⟨k + 1, out, by omega, by go_num, by omega, HO, HS1⟩
            case measure => simp [intOf]; omega
          · have HS1 : Hid (((bytesOf t).take (k + 1)).foldl rfoldStep [] = out ++ [32]) := by
              show _ = _; rw [HS]; unfold rfoldStep; rw [if_pos (.inr ⟨h0, hl⟩)]
            have hl' : (lastI out != 32) = true := bne_iff_ne.2 hl
            have hl'' : (lastI out == 32) = false := beq_eq_false_iff_ne.2 hl
            clear HS hl
            go_wp2_with (first | (at_builtin; refine app1 w1.heap.size rfl (.tmp 31) (.tmp 35) rfl _ out 32 rfl rfl HO hle (by omega) ?_; intro v2 w2 HO1 hz1))
            go_roundw
            case rel => exact ⟨k + 1, _, by omega, by go_num, by simp; omega, HO1, HS1⟩
            case measure => simp [intOf]; omega
        · have HS1 : Hid (((bytesOf t).take (k + 1)).foldl rfoldStep [] = out) := by
            show _ = _; rw [HS]; unfold rfoldStep; rw [if_neg (by rintro (h | h); exact h rfl; exact h0 h.1)]
          clear HS
          go_wp2
          go_roundw
          case rel => exact ⟨k + 1, out, by omega, by go_num, by omega, HO, HS1⟩
          case measure => simp [intOf]; omega
      · have HS1 : Hid (((bytesOf t).take (k + 1)).foldl rfoldStep [] = out ++ [c]) := by
          show _ = _; rw [HS]; unfold rfoldStep; rw [if_pos (.inl h32)]
        have hl' : (c != 32) = true := bne_iff_ne.2 h32
        clear HS h32
        go_wp2_with (first | (at_builtin; refine app1 w1.heap.size rfl (.tmp 31) (.tmp 35) rfl (.slice A out.length cap) out c rfl rfl HO hle (by omega) ?_; intro v2 w2 HO1 hz1))
        go_roundw
        case rel => exact ⟨k + 1, _, by omega, by go_num, by simp; omega, HO1, HS1⟩
        case measure => simp [intOf]; omega
    · have hRo : R = out := by
        rw [← HR.out, ← HF.out, List.take_of_length_le (by rw [bytesOf_length]; omega)]
      subst hRo
      have hbelow : Hid (Below w.heap.size w wr) := Hb1.out.trans (HO.below.mono Hb1.out.size)
      by_cases h0 : 0 < R.length
      · obtain ⟨g, rfl, hcell⟩ := HO.last h0
        have i0 : ((R.length : Int) - 1).toNat = R.length - 1 := by omega
        by_cases hl : lastI R = 32
        · have HC := HO.shorter (R.length - 1) (by omega)
          have HT : Hid (rtrim R = R.take (R.length - 1)) := by show _ = _; unfold rtrim; rw [if_pos ⟨h0, hl⟩]
          rw [hl] at hcell
          clear hl
          have hcp := HO.cap
          have hcp1 : (R.length : Int) - 1 ≤ cap := by omega
          have hcp2 : 1 ≤ (R.length : Int) := by omega
          go_wp2
          go_ret
          exact ⟨ret_str (by rw [HT.out]), hbelow.out⟩
        · have HC := own_string (P := Try.prog) Try.underlying22 Try.underlying5 Try.underlying9 HO.own
          have HT : Hid (rtrim R = R) := by show _ = _; unfold rtrim; rw [if_neg (fun h => hl h.2)]
          have hl' : (lastI R != 32) = true := bne_iff_ne.2 hl
          have hl'' : (lastI R == 32) = false := beq_eq_false_iff_ne.2 hl
          clear hl
          go_wp2
          go_ret
          exact ⟨ret_str (by rw [HT.out]), hbelow.out⟩
      · have HC := own_string (P := Try.prog) Try.underlying22 Try.underlying5 Try.underlying9 HO.own
        have HT : Hid (rtrim R = R) := by show _ = _; unfold rtrim; rw [if_neg (fun h => h0 h.1)]
        go_wp2
        go_ret
        exact ⟨ret_str (by rw [HT.out]), hbelow.out⟩

def rfoldS (s : ByteArray) : ByteArray := strOfNums (rfoldL (bytesOf s))
theorem rmatch_any (s t : ByteArray) (w : World) (hs : s.size ≤ 1000000) (ht : t.size ≤ 1000000) :
    Calls Try.prog 16 #[.string s, .string t] w fun e w' => e = .returned (.bool (decide (rfoldS s = rfoldS t))) ∧ Below w.heap.size w w' := by
  go_enter Try.func16, Try.ntmps16
  go_wp2_with fail
  refine (rfold_any s _ hs).mono ?_
  rintro e w1 ⟨rfl, hb1⟩
  go_wp2_with fail
  refine (rfold_any t _ ht).mono ?_
  rintro e w2 ⟨rfl, hb2⟩
  go_wp2_with fail
  go_ret
  exact ⟨ret_bool (by rw [eqS_iff]; rfl), hb1.trans (hb2.mono hb1.size)⟩
end Go.Proofs.Ytoccblnjalpcdaa
