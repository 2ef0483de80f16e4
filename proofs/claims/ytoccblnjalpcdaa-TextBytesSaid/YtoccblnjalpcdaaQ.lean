/- What the law's pieces returns, without a program in sight. -/
import Derived.Test.YtoccblnjalpcdaaO
namespace Go.Proofs.Ytoccblnjalpcdaa
open Go.RowKit Go.Proofs.YtoccblnjalpcdaaW.PrintWords Pcs
set_option linter.unusedVariables false
set_option linter.unusedSimpArgs false

theorem rd_byt (l : List Int) (h : Byt l) (i : Int) : 0 ≤ rd l i ∧ rd l i ≤ 255 := by
  unfold rd
  rw [List.getD_eq_getElem?_getD]
  rcases Nat.lt_or_ge i.toNat l.length with hl | hl
  · rw [List.getElem?_eq_getElem hl]; exact h _ (List.getElem_mem hl)
  · rw [List.getElem?_eq_none hl]; simp
theorem rdOf_small (y : List ByteArray) (h : ∀ x ∈ y, x.size ≤ 4) (i : Int) : (rdOf ByteArray.empty y i).size ≤ 4 := by
  unfold rdOf
  rw [List.getD_eq_getElem?_getD]
  rcases Nat.lt_or_ge i.toNat y.length with hl | hl
  · rw [List.getElem?_eq_getElem hl]; exact h _ (List.getElem_mem hl)
  · rw [List.getElem?_eq_none hl]; simp

theorem pieces_l0 (l : List Int) (hl : Byt l) (d : Nat) : ∀ (k : Nat) (x : ByteArray) (i : Int), 0 ≤ i → i ≤ 40 → 40 - i = d → d < k → x.size ≤ 4 * i →
    ∃ r, certpathlaw06_pieces.l0 k l x i = some r ∧ r.size ≤ 160 := by
  induction d with
  | zero =>
    intro k x i h0 h1 hd hk hx
    obtain ⟨k, rfl⟩ : ∃ m, k = m + 1 := ⟨k - 1, by omega⟩
    refine ⟨x, ?_, by omega⟩
    simp only [certpathlaw06_pieces.l0]
    by_cases hc : i < (l.length : Int)
    · rw [if_pos hc, if_neg (by omega)]
    · rw [if_neg hc]
  | succ d ih =>
    intro k x i h0 h1 hd hk hx
    obtain ⟨k, rfl⟩ : ∃ m, k = m + 1 := ⟨k - 1, by omega⟩
    simp only [certpathlaw06_pieces.l0]
    by_cases hc : i < (l.length : Int)
    · rw [if_pos hc, if_pos (by omega)]
      simp only [Option.bind_some]
      rw [if_pos h0]
      have hb := rd_byt l hl i
      have ht : Int.tmod (rd l i) 32 = rd l i % 32 := Int.tmod_eq_emod_of_nonneg hb.1
      rw [if_pos (by rw [ht]; omega), if_pos (by rw [ht]; show _ < (32 : Int); omega)]
      have hs := rdOf_small [(⟨#[97]⟩ : ByteArray), (⟨#[65]⟩ : ByteArray), (⟨#[122]⟩ : ByteArray), (⟨#[90]⟩ : ByteArray), (⟨#[32]⟩ : ByteArray), (⟨#[32, 32]⟩ : ByteArray), (⟨#[92]⟩ : ByteArray), (⟨#[50, 99]⟩ : ByteArray), (⟨#[92, 50, 99]⟩ : ByteArray), (⟨#[92, 50, 67]⟩ : ByteArray), (⟨#[61]⟩ : ByteArray), (⟨#[44]⟩ : ByteArray), (⟨#[64]⟩ : ByteArray), (⟨#[95]⟩ : ByteArray), (⟨#[39]⟩ : ByteArray), (⟨#[195, 169]⟩ : ByteArray), (⟨#[197, 129]⟩ : ByteArray), (⟨#[195]⟩ : ByteArray), (⟨#[128]⟩ : ByteArray), (⟨#[0]⟩ : ByteArray), (⟨#[31]⟩ : ByteArray), (⟨#[127]⟩ : ByteArray), (⟨#[230, 151, 165]⟩ : ByteArray), (⟨#[237, 160, 128]⟩ : ByteArray), (⟨#[244, 143, 191, 191]⟩ : ByteArray), (⟨#[244, 144, 128, 128]⟩ : ByteArray), (⟨#[192, 128]⟩ : ByteArray), (⟨#[224, 128, 128]⟩ : ByteArray), (⟨#[91]⟩ : ByteArray), (⟨#[96]⟩ : ByteArray), (⟨#[48]⟩ : ByteArray), (⟨#[38]⟩ : ByteArray)] (by decide) (Int.tmod (rd l i) 32)
      rw [if_pos (by omega)]
      have hw : wrap64 (i + 1) = i + 1 := by unfold wrap64; omega
      rw [hw]
      exact ih k _ (i + 1) (by omega) (by omega) (by omega) (by omega) (by rw [ByteArray.size_append]; omega)
    · rw [if_neg hc]
      exact ⟨x, rfl, by omega⟩
theorem pieces_f (l : List Int) (hl : Byt l) : ∃ r, certpathlaw06_pieces.f 42 l = some r ∧ r.size ≤ 160 :=
  pieces_l0 l hl 40 42 _ 0 (by omega) (by omega) (by omega) (by omega) (by decide)
theorem pieces_any (A : Option Addr) (c : Nat) (l : List Int) (r : ByteArray) (w : World) (hr : Kd.C (Kd.int .u8) w A l.length l) (hc : l.length ≤ c) (h : certpathlaw06_pieces.f 42 l = some r) :
    Calls Try.prog 9 #[.slice A l.length c] w fun e w' => e = .returned (.string r) ∧ Below w.heap.size w w' :=
  certpathlaw06_pieces.calls 42 A c l r w hr hc h
end Go.Proofs.Ytoccblnjalpcdaa
