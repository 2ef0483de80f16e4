/- certpathlaw06.TextEscape returns true for every string and every slice of bytes, and they read afterwards as before. No conditions beyond the given statement's own. The frame was written by proof-skeleton.mjs. -/
import Derived.Test.YtoccblnjalpcdaaRows
import Derived.Test.YtoccblnjalpcdaaV
import Derived.WalkKit
import Derived.ProofKit
import Derived.OpenShut
import Derived.ShutString
import Derived.ChangeOld
import Derived.Below
namespace Go.Proofs.Ytoccblnjalpcdaa.textEscape
open Go.Proofs.YtoccblnjalpcdaaW.PrintWords
open Go.ChangeShapes Go.WideShapes Go.ChangeAt Go.RowKit
open Go.ChangeMaps (open_string shut_string)
set_option linter.unusedVariables false

theorem own : ownKnob Try.prog.godebug = none := by kernel_rfl
theorem laidOut : laidOutB Try.prog = true := by kernel_rfl

/-- WHAT THE WALK IS TOLD OF A SLICE OF INTEGERS THAT CAME IN: it is nil; or it leads to a row of 'cap' cells, the numbers 'zs' (the first 'len' are its elements, the rest its spare room), each fitting its kind. -/
def IsRow (k : IntKind) (w : World) (a : Option Addr) (len cap : Nat) (zs : List Int) : Prop :=
  (a = none ∧ len = 0 ∧ cap = 0 ∧ zs = []) ∨
  ∃ x, a = some x ∧ len ≤ cap ∧ cap ≤ maxLen ∧ zs.length = cap ∧ (∀ i, i < zs.length → w.cell? (x.add i) = some (.int k (zs.getD i 0))) ∧ ∀ n ∈ zs, (Lit.int k n).wf = true

/-! ### STEP 1: THE WALK: the Go text returns true, AND WRITES NOTHING THAT WAS THERE: 'Below w.heap.size w w'' (Derived/Below.lean: '.refl', '.alloc', '.drew', '.setCell' at a new block, '.trans'). Open each 'IsRow' by 'rcases' AHEAD of 'go_enter'; part every test ahead of the walk. -/
set_option maxHeartbeats 4000000 in
set_option maxRecDepth 100000 in
theorem walk (a0 : ByteArray) (a1 : Option Addr) (len1 cap1 : Nat) (z1 : List Int) (w : World) (w0 : a0.size ≤ maxLen) (w1 : IsRow .u8 w a1 len1 cap1 z1) :
    Calls Try.prog 7 #[.string a0, .slice a1 len1 cap1] w fun e w' => e = .returned (.bool true) ∧ Below w.heap.size w w' := by
  unfold maxLen at w0
  by_cases hlen : 400 < a0.size
  · go_enter Try.func7, Try.ntmps7
    go_wp2_with fail
    refine (awake_ans _).mono ?_
    rintro e x1 ⟨rfl, hb1⟩
    have s1 := hb1.size
    go_wp2_with fail
    go_ret
    exact ⟨rfl, hb1⟩
  · obtain ⟨l1, rfl, hl1, hc1, k1⟩ := of_row w1
    obtain ⟨p, hp, zp⟩ := pieces_f l1 hl1
    have Hp := Lib.hid hp
    have K1 := Lib.hid k1
    clear hp k1 w1
    go_enter Try.func7, Try.ntmps7
    go_wp2_with fail
    refine (pieces_any _ _ l1 p _ K1.out hc1 Hp.out).mono ?_
    rintro e x0 ⟨rfl, hb0⟩
    go_wp2_with fail
    have hcells : ∀ k : Nat, k < 2 → ∃ x : ByteArray, x.size ≤ 400 ∧ (x0.alloc (.cells #[.string a0, .string p] 9)).cell? ⟨x0.heap.size, k, none⟩ = some (.string x) := by
      intro k hk
      rcases (show k = 0 ∨ k = 1 by omega) with rfl | rfl
      · exact ⟨a0, by omega, by simp⟩
      · exact ⟨p, by omega, by simp⟩
    have HC := Lib.hid hcells
    clear hcells
    have hB0 : Below w.heap.size w (x0.alloc (.cells #[.string a0, .string p] 9)) := hb0.alloc hb0.size _
    have hz0 : x0.heap.size < (x0.alloc (.cells #[.string a0, .string p] 9)).heap.size := by simp
    have hs0 := hb0.size
    generalize x0.alloc (.cells #[.string a0, .string p] 9) = wb at *
    have HB0 := Lib.hid hB0
    clear hB0 hb0
    go_loopw [23] (fun i wr => ∃ k : Nat, k ≤ 2 ∧ i = .int .i64 k ∧ Below wb.heap.size wb wr) (fun i _ => 2 - (intOf i).toNat)
    case atStart => exact ⟨0, by omega, rfl, Below.refl _ _⟩
    case round =>
      obtain ⟨k, hk, rfl, HB⟩ := hrel
      have hle := HB.size
      have hwl : w.heap.size ≤ wb.heap.size := HB0.out.size
      by_cases hlt : k < 2
      · obtain ⟨x, hx, hcell0⟩ := HC.out k hlt
        have hcell : wr.cell? ⟨x0.heap.size, k, none⟩ = some (.string x) := by rw [HB.cell (p := ⟨x0.heap.size, k, none⟩) hz0]; exact hcell0
        clear hcell0
        obtain ⟨E, A, ok, hF⟩ := esc_facts x hx
        cases ok
        · go_wp2_with fail
          refine (hF.esc _).mono ?_
          rintro e x1 ⟨rfl, hb1⟩
          have s1 := hb1.size
          go_wp2_with fail
          refine (hF.unesc _).mono ?_
          rintro e x2 ⟨rfl, hb2⟩
          have s2 := hb2.size
          go_wp2_with fail
          refine (hF.runesc _).mono ?_
          rintro e x3 ⟨rfl, hb3⟩
          have s3 := hb3.size
          go_wp2_with fail
          refine (hF.back _).mono ?_
          rintro e x4 ⟨rfl, hb4⟩
          have s4 := hb4.size
          go_wp2_with fail
          refine (hF.resc _).mono ?_
          rintro e x5 ⟨rfl, hb5⟩
          have s5 := hb5.size
          go_wp2_with fail
          go_roundw
          case rel => exact ⟨k + 1, by omega, by go_num, (((((HB).trans (hb1.mono (by omega))).trans (hb2.mono (by omega))).trans (hb3.mono (by omega))).trans (hb4.mono (by omega))).trans (hb5.mono (by omega))⟩
          case measure => simp [intOf]; omega
        · go_wp2_with fail
          refine (hF.esc _).mono ?_
          rintro e x1 ⟨rfl, hb1⟩
          have s1 := hb1.size
          go_wp2_with fail
          refine (hF.unesc _).mono ?_
          rintro e x2 ⟨rfl, hb2⟩
          have s2 := hb2.size
          go_wp2_with fail
          refine (hF.runesc _).mono ?_
          rintro e x3 ⟨rfl, hb3⟩
          have s3 := hb3.size
          go_wp2_with fail
          refine (hF.back _).mono ?_
          rintro e x4 ⟨rfl, hb4⟩
          have s4 := hb4.size
          go_wp2_with fail
          refine (hF.resc _).mono ?_
          rintro e x5 ⟨rfl, hb5⟩
          have s5 := hb5.size
          go_wp2_with fail
          refine (hF.again rfl _).mono ?_
          rintro e x6 ⟨rfl, hb6⟩
          have s6 := hb6.size
          go_wp2_with fail
          go_roundw
          case rel => exact ⟨k + 1, by omega, by go_num, ((((((HB).trans (hb1.mono (by omega))).trans (hb2.mono (by omega))).trans (hb3.mono (by omega))).trans (hb4.mono (by omega))).trans (hb5.mono (by omega))).trans (hb6.mono (by omega))⟩
          case measure => simp [intOf]; omega
      · go_wp2_with fail
        refine (awake_ans _).mono ?_
        rintro e x1 ⟨rfl, hb1⟩
        have s1 := hb1.size
        go_wp2_with fail
        go_ret
        exact ⟨rfl, (HB0.out.trans (HB.mono hwl)).trans (hb1.mono (by omega))⟩

/-! ### THE ROW's STEP: WRITTEN OUT: LEAVE IT -/
set_option maxRecDepth 100000 in
theorem lifted (os : Os) (started : os.Started) (H : Type) (enc : TypeId × Value → H) :
    ReturnsInHanded {} Try.checked os 7 .any (Rows.textEscapeSpec.pre6 enc Try.prog Try.f7 Rows.textEscapeRow.domain false) (Rows.textEscapeSpec.post enc Try.prog Try.f7 false true false false) := by
  refine returnsInHanded_of_change (C := Try.checked) own started (by kernel_rfl) Try.func7
    (ChangeSpec.witness6 (enc := enc) (C := Try.checked) false ⟨#[], #[.string ByteArray.empty, .slice none 0 0], []⟩ 8 (by kernel_rfl) (by kernel_rfl) (by kernel_rfl) (by kernel_rfl)) ?_
  intro W base args ds gs before hval0 hW hcnd _
  have hval : ∀ (j : Nat) t v, Try.f7.params[j]? = some t → args[j]? = some v → Value.okWide Try.prog W .any base t v := hval0
  have hW' := hW
  obtain ⟨p, q, hA0, hV, rfl, hfz, hnd⟩ := hW
  have hA : DataW.TrodAll enc Try.prog W 0 (fun _ => true) true Try.f7.params.toList args.toList ds p := hA0
  rw [Try.params7] at hA hval
  obtain ⟨v0, vs0, d0, ds0, p0, q0, hargs, rfl, rfl, h0, r0⟩ := trodAll_cons hA
  obtain ⟨v1, vs1, d1, ds1, p1, q1, rfl, rfl, rfl, h1, r1⟩ := trodAll_cons r0
  obtain ⟨rfl, rfl, rfl⟩ := trodAll_nil r1
  obtain rfl : args = #[v0, v1] := by cases args; simp_all
  obtain ⟨rfl, rfl⟩ := trodVars_none hV
  obtain ⟨a0, rfl, rfl, rfl, w0⟩ := open_string Try.underlying9 (hval 0 9 v0 rfl rfl) h0
  obtain ⟨a1, len1, cap1, rfl⟩ := okWide_slice Try.underlying22 (hval 1 22 v1 rfl rfl)
  have k1 := h1
  have lt1 : ∀ x ∈ p1, x.block < W.heap.size := by obtain ⟨m, hm⟩ := k1; exact DataW.trod_lt m _ _ _ hm
  obtain ⟨z1, w1⟩ : ∃ zs, IsRow .u8 W a1 len1 cap1 zs := by
    obtain ⟨fuel, hf⟩ := h1
    rcases open_ints Try.underlying22 Try.underlying5 (by kernel_rfl) hf with ⟨hcs, _⟩ | ⟨x, l, c, zs, hcs, _, hl, hm, hz, _, hcell, hwz⟩
    · simp [Value.cells] at hcs
      obtain ⟨rfl, rfl, rfl⟩ := hcs
      exact ⟨[], .inl ⟨rfl, rfl, rfl, rfl⟩⟩
    · simp [Value.cells] at hcs
      obtain ⟨rfl, rfl, rfl⟩ := hcs
      exact ⟨zs, .inr ⟨_, rfl, hl, hm, by simpa using hz, hcell, hwz⟩⟩
  clear hA0 hval0
  refine (walk a0 a1 len1 cap1 z1 W w0 w1).mono fun e W' ⟨he, bel⟩ => ?_
  subst he
  exact ⟨_, rfl, _, _, _, [], _, [], hW', trodAll_mk1 (shut_bool Try.underlying4 _), (trodAll_cons_mk (shut_string Try.underlying9 w0) (trodAll_cons_mk (Below.trod laidOut (by kernel_rfl) (of_decide_eq_true (by kernel_rfl)) k1 bel lt1) trodAll_mk0)), rfl, bel.frame _, fun h => by cases h⟩

theorem over : Rows.textEscapeRow.holds Try.pinned (OpenSpec.ofChange Rows.textEscapeSpec) :=
  OpenClaim.holds_of_wide 7 Try.f7 rfl rfl rfl rfl rfl rfl rfl ⟨rfl, rfl, rfl, rfl, rfl⟩ rfl rfl rfl rfl rfl (by kernel_rfl) Try.func7 (by kernel_rfl)
    (of_decide_eq_true (by kernel_rfl)) (by unfold Func.isWrapper; first | (rw [if_pos (by decide +kernel)]; kernel_rfl) | (rw [if_neg (by decide +kernel)]; exact ⟨rfl, rfl⟩))
    (fun os started H enc _ => lifted os started H enc)

/-- ████ THE STATEMENT ████ -/
theorem proved : Rows.TextEscapeSaid := over
#print axioms proved
end Go.Proofs.Ytoccblnjalpcdaa.textEscape
