/- A slice of bytes that came in, as a list. -/
import Derived.Test.YtoccblnjalpcdaaQ
namespace Go.Proofs.Ytoccblnjalpcdaa
open Go.RowKit Go.Proofs.YtoccblnjalpcdaaW.PrintWords
set_option linter.unusedVariables false

theorem of_row {w : World} {a : Option Addr} {len cap : Nat} {zs : List Int}
    (h : (a = none ∧ len = 0 ∧ cap = 0 ∧ zs = []) ∨
      ∃ x, a = some x ∧ len ≤ cap ∧ cap ≤ maxLen ∧ zs.length = cap ∧ (∀ i, i < zs.length → w.cell? (x.add i) = some (.int .u8 (zs.getD i 0))) ∧ ∀ n ∈ zs, (Lit.int .u8 n).wf = true) :
    ∃ l : List Int, l.length = len ∧ Byt l ∧ l.length ≤ cap ∧ Kd.C (Kd.int .u8) w a l.length l := by
  rcases h with ⟨rfl, rfl, rfl, rfl⟩ | ⟨x, rfl, hl, hm, hz, hc, hw⟩
  · exact ⟨[], rfl, by intro x hx; simp at hx, by simp, Kd.C_of_reads (d := 0) ⟨rfl, by simp, fun h => by simp at h⟩⟩
  · have hln : (zs.take len).length = len := by simp; omega
    refine ⟨zs.take len, hln, ?_, by omega, Kd.C_of_reads (d := 0) ⟨rfl, ?_, fun h => ⟨x, rfl, fun j hj => ?_⟩⟩⟩
    · intro n hn
      have := hw n (List.mem_of_mem_take hn)
      simp [Lit.wf, IntKind.min, IntKind.max, IntKind.signed, IntKind.bits] at this
      omega
    · unfold maxLen at hm; omega
    · rw [hc j (by omega)]
      have : j < len := by omega
      simp [List.getD_eq_getElem?_getD, List.getElem?_take_of_lt this]
end Go.Proofs.Ytoccblnjalpcdaa
