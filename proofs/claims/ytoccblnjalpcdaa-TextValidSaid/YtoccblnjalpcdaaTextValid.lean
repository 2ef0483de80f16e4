/- certpathlaw06.TextValid returns true for every kind, string and slice of bytes, and they read afterwards as before. No conditions beyond the given statement's own. The frame was written by proof-skeleton.mjs. -/
import Derived.Test.YtoccblnjalpcdaaRows
import Derived.Test.YtoccblnjalpcdaaV
import Derived.WalkKit
import Derived.ProofKit
import Derived.OpenShut
import Derived.ShutString
import Derived.ChangeOld
import Derived.Below
namespace Go.Proofs.Ytoccblnjalpcdaa.textValid
open Go.Proofs.YtoccblnjalpcdaaW.PrintWords
open Go.ChangeShapes Go.WideShapes Go.ChangeAt Go.RowKit
open Go.ChangeMaps (open_string shut_string)
set_option linter.unusedVariables false

theorem own : ownKnob Try.prog.godebug = none := by kernel_rfl
theorem laidOut : laidOutB Try.prog = true := by kernel_rfl

/-- WHAT THE WALK IS TOLD OF A SLICE OF INTEGERS THAT CAME IN: it is nil; or it leads to a row of 'cap' cells, the numbers 'zs' (the first 'len' are its elements, the rest its spare room), each fitting its kind. -/
def IsRow (k : IntKind) (w : World) (a : Option Addr) (len cap : Nat) (zs : List Int) : Prop :=
  (a = none ∧ len = 0 ∧ cap = 0 ∧ zs = []) ∨
  ∃ x, a = some x ∧ len ≤ cap ∧ cap ≤ maxLen ∧ zs.length = cap ∧ (∀ i, i < zs.length → w.cell? (x.add i) = some (.int k (zs.getD i 0))) ∧ ∀ n ∈ zs, (Lit.int k n).wf = true

/-! ### STEP 1: THE WALK: the Go text returns true, AND WRITES NOTHING THAT WAS THERE: 'Below w.heap.size w w'' (Derived/Below.lean: '.refl', '.alloc', '.drew', '.setCell' at a new block, '.trans'). Open each 'IsRow' by 'rcases' AHEAD of 'go_enter'; part every test ahead of the walk. -/
set_option linter.unusedSimpArgs false
set_option maxHeartbeats 4000000 in
set_option maxRecDepth 100000 in
theorem walk (a0 : Int) (a1 : ByteArray) (a2 : Option Addr) (len2 cap2 : Nat) (z2 : List Int) (w : World) (w0 : (Lit.int .i64 a0).wf = true) (w1 : a1.size ≤ maxLen) (w2 : IsRow .u8 w a2 len2 cap2 z2) :
    Calls Try.prog 3 #[.int .i64 a0, .string a1, .slice a2 len2 cap2] w fun e w' => e = .returned (.bool true) ∧ Below w.heap.size w w' := by
  unfold maxLen at w1
  have wf0 := w0
  clear w0
  by_cases hlen : 400 < a1.size
  · go_enter Try.func3, Try.ntmps3
    go_wp2_with fail
    refine (awake_ans _).mono ?_
    rintro e x1 ⟨rfl, hb1⟩
    have s1 := hb1.size
    go_wp2_with fail
    go_ret
    exact ⟨rfl, hb1⟩
  obtain ⟨l2, rfl, hl2, hc2, k2⟩ := of_row w2
  obtain ⟨p, hp, zp⟩ := pieces_f l2 hl2
  have Hp := Lib.hid hp
  have K2 := Lib.hid k2
  clear hp k2 w2 wf0
  go_enter Try.func3, Try.ntmps3
  go_wp2_with fail
  have hB0 : Below w.heap.size w (w.alloc (.cells #[.int .i64 a0, .int .i64 12, .int .i64 19, .int .i64 22] 3)) := (Below.refl _ _).alloc (Nat.le_refl _) _
  have hz0 : w.heap.size < (w.alloc (.cells #[.int .i64 a0, .int .i64 12, .int .i64 19, .int .i64 22] 3)).heap.size := by simp
  have hcells : ∀ k : Nat, k < 4 → ∃ n : Int, (w.alloc (.cells #[.int .i64 a0, .int .i64 12, .int .i64 19, .int .i64 22] 3)).cell? ⟨w.heap.size, k, none⟩ = some (.int .i64 n) := by
    intro k hk
    rcases (show k = 0 ∨ k = 1 ∨ k = 2 ∨ k = 3 by omega) with rfl | rfl | rfl | rfl
    · exact ⟨a0, by simp⟩
    · exact ⟨12, by simp⟩
    · exact ⟨19, by simp⟩
    · exact ⟨22, by simp⟩
  have K2B := Lib.hid (Kd.C_below K2.out hB0)
  have HC := Lib.hid hcells
  clear hcells
  generalize w.alloc (.cells #[.int .i64 a0, .int .i64 12, .int .i64 19, .int .i64 22] 3) = wb at *
  have HB0 := Lib.hid hB0
  clear hB0 K2
  go_loopw [18] (fun i wr => ∃ k : Nat, k ≤ 4 ∧ i = .int .i64 k ∧ Below wb.heap.size wb wr) (fun i _ => 4 - (intOf i).toNat)
  case atStart => exact ⟨0, by omega, rfl, Below.refl _ _⟩
  case round =>
    obtain ⟨k, hk, rfl, HB⟩ := hrel
    have hle := HB.size
    have hwl : w.heap.size ≤ wb.heap.size := HB0.out.size
    by_cases hlt : k < 4
    · obtain ⟨kd, hc0⟩ := HC.out k hlt
      have hcell0 : wr.cell? ⟨w.heap.size, k, none⟩ = some (.int .i64 kd) := by rw [HB.cell (p := ⟨w.heap.size, k, none⟩) hz0]; exact hc0
      clear hc0
      have K2W := Lib.hid (Kd.C_below K2B.out HB)
      go_wp2_with fail
      refine (pieces_any _ _ l2 p _ K2W.out hc2 Hp.out).mono ?_
      rintro e x0 ⟨rfl, hb0⟩
      have s0 := hb0.size
      go_wp2_with fail
      have hcells2 : ∀ k : Nat, k < 2 → ∃ x : ByteArray, x.size ≤ 400 ∧ (x0.alloc (.cells #[.string a1, .string p] 9)).cell? ⟨x0.heap.size, k, none⟩ = some (.string x) := by
        intro k hk
        rcases (show k = 0 ∨ k = 1 by omega) with rfl | rfl
        · exact ⟨a1, by omega, by simp⟩
        · exact ⟨p, by omega, by simp⟩
      have HC2 := Lib.hid hcells2
      clear hcells2
      have hB2 : Below wb.heap.size wb (x0.alloc (.cells #[.string a1, .string p] 9)) := (HB.trans (hb0.mono hle)).alloc (by omega) _
      have hz2 : x0.heap.size < (x0.alloc (.cells #[.string a1, .string p] 9)).heap.size := by simp
      generalize x0.alloc (.cells #[.string a1, .string p] 9) = wc at *
      have HB2 := Lib.hid hB2
      have hle2 := hB2.size
      clear hB2 hb0 hcell0 K2W
      obtain ⟨wo, rfl⟩ : ∃ wo : World, wo = wr := ⟨_, rfl⟩
      go_loopw [27] (fun i wr => ∃ j : Nat, j ≤ 2 ∧ i = .int .i64 j ∧ Below wc.heap.size wc wr) (fun i _ => 2 - (intOf i).toNat)
      case atStart => exact ⟨0, by omega, rfl, Below.refl _ _⟩
      case round =>
        obtain ⟨j, hj, rfl, HBj⟩ := hrel
        have hlej := HBj.size
        by_cases hltj : j < 2
        · obtain ⟨x, hx, hc1⟩ := HC2.out j hltj
          have hcell1 : wr.cell? ⟨x0.heap.size, j, none⟩ = some (.string x) := by rw [HBj.cell (p := ⟨x0.heap.size, j, none⟩) hz2]; exact hc1
          clear hc1
          obtain ⟨b, hv⟩ := valid_facts kd x (by omega)
          go_wp2_with fail
          refine (hv.1 _).mono ?_
          rintro e x1 ⟨rfl, hb1⟩
          have s1 := hb1.size
          go_wp2_with fail
          refine (hv.2 _).mono ?_
          rintro e x2 ⟨rfl, hb2⟩
          have s2 := hb2.size
          go_wp2_with fail
          go_roundw
          case rel => exact ⟨j + 1, by omega, by go_num, (HBj.trans (hb1.mono (by omega))).trans (hb2.mono (by omega))⟩
          case measure => simp [intOf]; omega
        · go_wp2_with fail
          go_roundw
          case rel => exact ⟨k + 1, by omega, by go_num, HB2.out.trans (HBj.mono hle2)⟩
          case measure => simp [intOf]; omega
    · go_wp2_with fail
      refine (awake_ans _).mono ?_
      rintro e x1 ⟨rfl, hb1⟩
      have s1 := hb1.size
      go_wp2_with fail
      go_ret
      exact ⟨rfl, (HB0.out.trans (HB.mono hwl)).trans (hb1.mono (by omega))⟩

/-! ### THE ROW's STEP: WRITTEN OUT: LEAVE IT -/
set_option maxRecDepth 100000 in
theorem lifted (os : Os) (started : os.Started) (H : Type) (enc : TypeId × Value → H) :
    ReturnsInHanded {} Try.checked os 3 .any (Rows.textValidSpec.pre6 enc Try.prog Try.f3 Rows.textValidRow.domain false) (Rows.textValidSpec.post enc Try.prog Try.f3 false true false false) := by
  refine returnsInHanded_of_change (C := Try.checked) own started (by kernel_rfl) Try.func3
    (ChangeSpec.witness6 (enc := enc) (C := Try.checked) false ⟨#[], #[.int .i64 0, .string ByteArray.empty, .slice none 0 0], []⟩ 8 (by kernel_rfl) (by kernel_rfl) (by kernel_rfl) (by kernel_rfl)) ?_
  intro W base args ds gs before hval0 hW hcnd _
  have hval : ∀ (j : Nat) t v, Try.f3.params[j]? = some t → args[j]? = some v → Value.okWide Try.prog W .any base t v := hval0
  have hW' := hW
  obtain ⟨p, q, hA0, hV, rfl, hfz, hnd⟩ := hW
  have hA : DataW.TrodAll enc Try.prog W 0 (fun _ => true) true Try.f3.params.toList args.toList ds p := hA0
  rw [Try.params3] at hA hval
  obtain ⟨v0, vs0, d0, ds0, p0, q0, hargs, rfl, rfl, h0, r0⟩ := trodAll_cons hA
  obtain ⟨v1, vs1, d1, ds1, p1, q1, rfl, rfl, rfl, h1, r1⟩ := trodAll_cons r0
  obtain ⟨v2, vs2, d2, ds2, p2, q2, rfl, rfl, rfl, h2, r2⟩ := trodAll_cons r1
  obtain ⟨rfl, rfl, rfl⟩ := trodAll_nil r2
  obtain rfl : args = #[v0, v1, v2] := by cases args; simp_all
  obtain ⟨rfl, rfl⟩ := trodVars_none hV
  obtain ⟨a0, rfl, rfl, rfl, w0⟩ := open_int Try.underlying3 (hval 0 3 v0 rfl rfl) h0
  obtain ⟨a1, rfl, rfl, rfl, w1⟩ := open_string Try.underlying9 (hval 1 9 v1 rfl rfl) h1
  obtain ⟨a2, len2, cap2, rfl⟩ := okWide_slice Try.underlying22 (hval 2 22 v2 rfl rfl)
  have k2 := h2
  have lt2 : ∀ x ∈ p2, x.block < W.heap.size := by obtain ⟨m, hm⟩ := k2; exact DataW.trod_lt m _ _ _ hm
  obtain ⟨z2, w2⟩ : ∃ zs, IsRow .u8 W a2 len2 cap2 zs := by
    obtain ⟨fuel, hf⟩ := h2
    rcases open_ints Try.underlying22 Try.underlying5 (by kernel_rfl) hf with ⟨hcs, _⟩ | ⟨x, l, c, zs, hcs, _, hl, hm, hz, _, hcell, hwz⟩
    · simp [Value.cells] at hcs
      obtain ⟨rfl, rfl, rfl⟩ := hcs
      exact ⟨[], .inl ⟨rfl, rfl, rfl, rfl⟩⟩
    · simp [Value.cells] at hcs
      obtain ⟨rfl, rfl, rfl⟩ := hcs
      exact ⟨zs, .inr ⟨_, rfl, hl, hm, by simpa using hz, hcell, hwz⟩⟩
  clear hA0 hval0
  refine (walk a0 a1 a2 len2 cap2 z2 W w0 w1 w2).mono fun e W' ⟨he, bel⟩ => ?_
  subst he
  exact ⟨_, rfl, _, _, _, [], _, [], hW', trodAll_mk1 (shut_bool Try.underlying4 _), (trodAll_cons_mk (shut_int Try.underlying3 w0) (trodAll_cons_mk (shut_string Try.underlying9 w1) (trodAll_cons_mk (Below.trod laidOut (by kernel_rfl) (of_decide_eq_true (by kernel_rfl)) k2 bel lt2) trodAll_mk0))), rfl, bel.frame _, fun h => by cases h⟩

theorem over : Rows.textValidRow.holds Try.pinned (OpenSpec.ofChange Rows.textValidSpec) :=
  OpenClaim.holds_of_wide 3 Try.f3 rfl rfl rfl rfl rfl rfl rfl ⟨rfl, rfl, rfl, rfl, rfl⟩ rfl rfl rfl rfl rfl (by kernel_rfl) Try.func3 (by kernel_rfl)
    (of_decide_eq_true (by kernel_rfl)) (by unfold Func.isWrapper; first | (rw [if_pos (by decide +kernel)]; kernel_rfl) | (rw [if_neg (by decide +kernel)]; exact ⟨rfl, rfl⟩))
    (fun os started H enc _ => lifted os started H enc)

/-- ████ THE STATEMENT ████ -/
theorem proved : Rows.TextValidSaid := over
#print axioms proved
end Go.Proofs.Ytoccblnjalpcdaa.textValid
