/- certpathlaw06.TextFold returns true for all strings and slices of bytes, and they read afterwards as before. No conditions beyond the given statement's own. The frame was written by proof-skeleton.mjs. -/
import Derived.Test.YtoccblnjalpcdaaRows
import Derived.Test.YtoccblnjalpcdaaV
import Derived.Deep.RegionHeld3
import Derived.WalkKit
import Derived.ProofKit
import Derived.OpenShut
import Derived.ShutString
import Derived.ChangeOld
import Derived.Below
namespace Go.Proofs.Ytoccblnjalpcdaa.textFold
open Go.Proofs.YtoccblnjalpcdaaW.PrintWords
open Go.ChangeShapes Go.WideShapes Go.ChangeAt Go.RowKit
open Go.ChangeMaps (open_string shut_string)
set_option linter.unusedVariables false
set_option linter.unusedSimpArgs false

theorem own : ownKnob Try.prog.godebug = none := by kernel_rfl
theorem laidOut : laidOutB Try.prog = true := by kernel_rfl

/-- WHAT THE WALK IS TOLD OF A SLICE OF INTEGERS THAT CAME IN: it is nil; or it leads to a row of 'cap' cells, the numbers 'zs' (the first 'len' are its elements, the rest its spare room), each fitting its kind. -/
def IsRow (k : IntKind) (w : World) (a : Option Addr) (len cap : Nat) (zs : List Int) : Prop :=
  (a = none ∧ len = 0 ∧ cap = 0 ∧ zs = []) ∨
  ∃ x, a = some x ∧ len ≤ cap ∧ cap ≤ maxLen ∧ zs.length = cap ∧ (∀ i, i < zs.length → w.cell? (x.add i) = some (.int k (zs.getD i 0))) ∧ ∀ n ∈ zs, (Lit.int k n).wf = true

/-! ### STEP 1: THE WALK: the Go text returns true, AND WRITES NOTHING THAT WAS THERE: 'Below w.heap.size w w'' (Derived/Below.lean: '.refl', '.alloc', '.drew', '.setCell' at a new block, '.trans'). Open each 'IsRow' by 'rcases' AHEAD of 'go_enter'; part every test ahead of the walk. -/
set_option maxHeartbeats 4000000 in
set_option maxRecDepth 100000 in
theorem walk (a0 : ByteArray) (a1 : ByteArray) (a2 : Option Addr) (len2 cap2 : Nat) (z2 : List Int) (a3 : Option Addr) (len3 cap3 : Nat) (z3 : List Int) (w : World) (w0 : a0.size ≤ maxLen) (w1 : a1.size ≤ maxLen) (w2 : IsRow .u8 w a2 len2 cap2 z2) (w3 : IsRow .u8 w a3 len3 cap3 z3) :
    Calls Try.prog 5 #[.string a0, .string a1, .slice a2 len2 cap2, .slice a3 len3 cap3] w fun e w' => e = .returned (.bool true) ∧ Below w.heap.size w w' := by
  unfold maxLen at w0 w1
  by_cases hlen : 400 < a0.size
  · go_enter Try.func5, Try.ntmps5
    go_wp2_with fail
    refine (awake_ans _).mono ?_
    rintro e x1 ⟨rfl, hb1⟩
    go_wp2_with fail
    go_ret
    exact ⟨rfl, hb1⟩
  by_cases hlen2 : 400 < a1.size
  · go_enter Try.func5, Try.ntmps5
    go_wp2_with fail
    refine (awake_ans _).mono ?_
    rintro e x1 ⟨rfl, hb1⟩
    go_wp2_with fail
    go_ret
    exact ⟨rfl, hb1⟩
  obtain ⟨l2, rfl, hl2, hc2, k2⟩ := of_row w2
  obtain ⟨l3, rfl, hl3, hc3, k3⟩ := of_row w3
  obtain ⟨p, hp, zp⟩ := pieces_f l2 hl2
  obtain ⟨q, hq, zq⟩ := pieces_f l3 hl3
  have Hp := Lib.hid hp
  have Hq := Lib.hid hq
  have K2 := Lib.hid k2
  have K3 := Lib.hid k3
  clear hp hq k2 k3 w2 w3
  have zl : (strOfNums (lowL (bytesOf p))).size ≤ 160 := by rw [str_size, lowL, List.length_map, bytesOf_length]; exact zp
  go_enter Try.func5, Try.ntmps5
  go_wp2_with fail
  refine (pieces_any _ _ l2 p _ K2.out hc2 Hp.out).mono ?_
  rintro e x1 ⟨rfl, hb1⟩
  have s1 := hb1.size
  go_wp2_with fail
  refine (pieces_any _ _ l3 q _ (Kd.C_below K3.out hb1) hc3 Hq.out).mono ?_
  rintro e x2 ⟨rfl, hb2⟩
  have s2 := hb2.size
  go_wp2_with fail
  refine (pieces_any _ _ l2 p _ (Kd.C_below (Kd.C_below K2.out hb1) hb2) hc2 Hp.out).mono ?_
  rintro e x3 ⟨rfl, hb3⟩
  have s3 := hb3.size
  go_wp2_with fail
  refine (pieces_any _ _ l2 p _ (Kd.C_below (Kd.C_below (Kd.C_below K2.out hb1) hb2) hb3) hc2 Hp.out).mono ?_
  rintro e x4 ⟨rfl, hb4⟩
  have s4 := hb4.size
  have z1 : (⟨#[32]⟩ : ByteArray).size = 1 := rfl
  go_wp2_with fail
  refine (lower_any p _ (by omega)).mono ?_
  rintro e x5 ⟨rfl, hb5⟩
  have s5 := hb5.size
  generalize strOfNums (lowL (bytesOf p)) = lo at *
  have zlo : ((⟨#[32]⟩ : ByteArray) ++ lo).size ≤ 200 := by rw [ByteArray.size_append]; omega
  clear z1
  go_wp2_with fail
  generalize ((⟨#[32]⟩ : ByteArray) ++ lo) = lo2 at *
  have hB0 : Below w.heap.size w x5 := hb1.trans ((hb2.mono (by omega)).trans ((hb3.mono (by omega)).trans ((hb4.mono (by omega)).trans (hb5.mono (by omega)))))
  clear hb1 hb2 hb3 hb4 hb5 s1 s2 s3 s4 s5 K2 K3
  have hB1 : Below w.heap.size w (x5.alloc (.cells #[.string a0, .string a1, .string p, .string q, .string p, .string lo2] 30)) := hB0.alloc hB0.size _
  have hz0 : x5.heap.size < (x5.alloc (.cells #[.string a0, .string a1, .string p, .string q, .string p, .string lo2] 30)).heap.size := by simp
  have hcells : ∀ k : Nat, k < 3 → ∃ x y : ByteArray, x.size ≤ 400 ∧ y.size ≤ 400 ∧ (x5.alloc (.cells #[.string a0, .string a1, .string p, .string q, .string p, .string lo2] 30)).cell? ⟨x5.heap.size, 2 * k, none⟩ = some (.string x) ∧ (x5.alloc (.cells #[.string a0, .string a1, .string p, .string q, .string p, .string lo2] 30)).cell? ⟨x5.heap.size, 2 * k + 1, none⟩ = some (.string y) := by
    intro k hk
    rcases (show k = 0 ∨ k = 1 ∨ k = 2 by omega) with rfl | rfl | rfl
    · exact ⟨a0, a1, by omega, by omega, by simp, by simp⟩
    · exact ⟨p, q, by omega, by omega, by simp, by simp⟩
    · exact ⟨p, lo2, by omega, by omega, by simp, by simp⟩
  have HC := Lib.hid hcells
  clear hcells
  generalize x5.alloc (.cells #[.string a0, .string a1, .string p, .string q, .string p, .string lo2] 30) = wb at *
  have HB0 := Lib.hid hB1
  clear hB0 hB1
  go_loopw [37] (fun i wr => ∃ k : Nat, k ≤ 3 ∧ i = .int .i64 k ∧ Below wb.heap.size wb wr) (fun i _ => 3 - (intOf i).toNat)
  case atStart => exact ⟨0, by omega, rfl, Below.refl _ _⟩
  case round =>
    obtain ⟨k, hk, rfl, HB⟩ := hrel
    have hle := HB.size
    have hwl : w.heap.size ≤ wb.heap.size := HB0.out.size
    by_cases hlt : k < 3
    · obtain ⟨x, y, hx, hy, hc0, hc1⟩ := HC.out k hlt
      have hcell0 : wr.cell? ⟨x5.heap.size, 2 * k, none⟩ = some (.string x) := by rw [HB.cell (p := ⟨x5.heap.size, 2 * k, none⟩) hz0]; exact hc0
      have hcell1 : wr.cell? ⟨x5.heap.size, 2 * k + 1, none⟩ = some (.string y) := by rw [HB.cell (p := ⟨x5.heap.size, 2 * k + 1, none⟩) hz0]; exact hc1
      clear hc0 hc1
      obtain ⟨F, m, hF⟩ := fold_facts x y (by omega) (by omega)
      rcases (show k = 0 ∨ k = 1 ∨ k = 2 by omega) with rfl | rfl | rfl
      · simp only [Nat.mul_zero, Nat.zero_add, Nat.mul_one] at hcell0 hcell1
        go_wp2_with fail
        have c0 : (wr.alloc (.cells #[.string x, .string y] 30)).cell? ⟨wr.heap.size, 0, none⟩ = some (.string x) := by simp
        have c1 : (wr.alloc (.cells #[.string x, .string y] 30)).cell? ⟨wr.heap.size, 1, none⟩ = some (.string y) := by simp
        have hX : wr.heap.size < (wr.alloc (.cells #[.string x, .string y] 30)).heap.size := by simp
        have hBW : Below wb.heap.size wb (wr.alloc (.cells #[.string x, .string y] 30)) := HB.alloc hle _
        generalize wr.alloc (.cells #[.string x, .string y] 30) = W0 at *
        have HBA : Hid (Below W0.heap.size W0 W0.drew) := (Below.refl _ _).drew
        have C0 := Lib.hid c0
        have C1 := Lib.hid c1
        go_region_held3 (fun w' => w'.cell? ⟨wr.heap.size, 0, none⟩ = some (.string x) ∧ w'.cell? ⟨wr.heap.size, 1, none⟩ = some (.string y)) (first | exact ⟨(HBA.out.cell (p := ⟨wr.heap.size, 0, none⟩) hX).trans C0.out, (HBA.out.cell (p := ⟨wr.heap.size, 1, none⟩) hX).trans C1.out⟩ | go_keep) (first | (go_at_call 13; (with_reducible refine (hF.fold.at _).mono ?_); rintro e wn ⟨rfl, hb⟩; replace HBA := Lib.hid (HBA.out.trans (hb.mono HBA.out.size)); clear hb) | (go_at_call 13; (with_reducible refine (hF.again.at _).mono ?_); rintro e wn ⟨rfl, hb⟩; replace HBA := Lib.hid (HBA.out.trans (hb.mono HBA.out.size)); clear hb) | (go_at_call 14; (with_reducible refine (hF.rfold.at _).mono ?_); rintro e wn ⟨rfl, hb⟩; replace HBA := Lib.hid (HBA.out.trans (hb.mono HBA.out.size)); clear hb) | (go_at_call 15; (with_reducible refine (hF.mt.at _).mono ?_); rintro e wn ⟨rfl, hb⟩; replace HBA := Lib.hid (HBA.out.trans (hb.mono HBA.out.size)); clear hb) | (go_at_call 15; (with_reducible refine (hF.self.at _).mono ?_); rintro e wn ⟨rfl, hb⟩; replace HBA := Lib.hid (HBA.out.trans (hb.mono HBA.out.size)); clear hb) | (go_at_call 16; (with_reducible refine (hF.rmt.at _).mono ?_); rintro e wn ⟨rfl, hb⟩; replace HBA := Lib.hid (HBA.out.trans (hb.mono HBA.out.size)); clear hb))
        go_wp2_with fail
        go_roundw
        case rel => exact ⟨1, by omega, by go_num, hBW.trans (HBA.out.mono hBW.size)⟩
        case measure => simp [intOf]
      · simp only [Nat.mul_zero, Nat.zero_add, Nat.mul_one] at hcell0 hcell1
        go_wp2_with fail
        have c0 : (wr.alloc (.cells #[.string x, .string y] 30)).cell? ⟨wr.heap.size, 0, none⟩ = some (.string x) := by simp
        have c1 : (wr.alloc (.cells #[.string x, .string y] 30)).cell? ⟨wr.heap.size, 1, none⟩ = some (.string y) := by simp
        have hX : wr.heap.size < (wr.alloc (.cells #[.string x, .string y] 30)).heap.size := by simp
        have hBW : Below wb.heap.size wb (wr.alloc (.cells #[.string x, .string y] 30)) := HB.alloc hle _
        generalize wr.alloc (.cells #[.string x, .string y] 30) = W0 at *
        have HBA : Hid (Below W0.heap.size W0 W0.drew) := (Below.refl _ _).drew
        have C0 := Lib.hid c0
        have C1 := Lib.hid c1
        go_region_held3 (fun w' => w'.cell? ⟨wr.heap.size, 0, none⟩ = some (.string x) ∧ w'.cell? ⟨wr.heap.size, 1, none⟩ = some (.string y)) (first | exact ⟨(HBA.out.cell (p := ⟨wr.heap.size, 0, none⟩) hX).trans C0.out, (HBA.out.cell (p := ⟨wr.heap.size, 1, none⟩) hX).trans C1.out⟩ | go_keep) (first | (go_at_call 13; (with_reducible refine (hF.fold.at _).mono ?_); rintro e wn ⟨rfl, hb⟩; replace HBA := Lib.hid (HBA.out.trans (hb.mono HBA.out.size)); clear hb) | (go_at_call 13; (with_reducible refine (hF.again.at _).mono ?_); rintro e wn ⟨rfl, hb⟩; replace HBA := Lib.hid (HBA.out.trans (hb.mono HBA.out.size)); clear hb) | (go_at_call 14; (with_reducible refine (hF.rfold.at _).mono ?_); rintro e wn ⟨rfl, hb⟩; replace HBA := Lib.hid (HBA.out.trans (hb.mono HBA.out.size)); clear hb) | (go_at_call 15; (with_reducible refine (hF.mt.at _).mono ?_); rintro e wn ⟨rfl, hb⟩; replace HBA := Lib.hid (HBA.out.trans (hb.mono HBA.out.size)); clear hb) | (go_at_call 15; (with_reducible refine (hF.self.at _).mono ?_); rintro e wn ⟨rfl, hb⟩; replace HBA := Lib.hid (HBA.out.trans (hb.mono HBA.out.size)); clear hb) | (go_at_call 16; (with_reducible refine (hF.rmt.at _).mono ?_); rintro e wn ⟨rfl, hb⟩; replace HBA := Lib.hid (HBA.out.trans (hb.mono HBA.out.size)); clear hb))
        go_wp2_with fail
        go_roundw
        case rel => exact ⟨2, by omega, by go_num, hBW.trans (HBA.out.mono hBW.size)⟩
        case measure => simp [intOf]
      · simp only [show 2 * 2 = 4 from rfl, show 2 * 2 + 1 = 5 from rfl] at hcell0 hcell1
        go_wp2_with fail
        have c0 : (wr.alloc (.cells #[.string x, .string y] 30)).cell? ⟨wr.heap.size, 0, none⟩ = some (.string x) := by simp
        have c1 : (wr.alloc (.cells #[.string x, .string y] 30)).cell? ⟨wr.heap.size, 1, none⟩ = some (.string y) := by simp
        have hX : wr.heap.size < (wr.alloc (.cells #[.string x, .string y] 30)).heap.size := by simp
        have hBW : Below wb.heap.size wb (wr.alloc (.cells #[.string x, .string y] 30)) := HB.alloc hle _
        generalize wr.alloc (.cells #[.string x, .string y] 30) = W0 at *
        have HBA : Hid (Below W0.heap.size W0 W0.drew) := (Below.refl _ _).drew
        have C0 := Lib.hid c0
        have C1 := Lib.hid c1
        go_region_held3 (fun w' => w'.cell? ⟨wr.heap.size, 0, none⟩ = some (.string x) ∧ w'.cell? ⟨wr.heap.size, 1, none⟩ = some (.string y)) (first | exact ⟨(HBA.out.cell (p := ⟨wr.heap.size, 0, none⟩) hX).trans C0.out, (HBA.out.cell (p := ⟨wr.heap.size, 1, none⟩) hX).trans C1.out⟩ | go_keep) (first | (go_at_call 13; (with_reducible refine (hF.fold.at _).mono ?_); rintro e wn ⟨rfl, hb⟩; replace HBA := Lib.hid (HBA.out.trans (hb.mono HBA.out.size)); clear hb) | (go_at_call 13; (with_reducible refine (hF.again.at _).mono ?_); rintro e wn ⟨rfl, hb⟩; replace HBA := Lib.hid (HBA.out.trans (hb.mono HBA.out.size)); clear hb) | (go_at_call 14; (with_reducible refine (hF.rfold.at _).mono ?_); rintro e wn ⟨rfl, hb⟩; replace HBA := Lib.hid (HBA.out.trans (hb.mono HBA.out.size)); clear hb) | (go_at_call 15; (with_reducible refine (hF.mt.at _).mono ?_); rintro e wn ⟨rfl, hb⟩; replace HBA := Lib.hid (HBA.out.trans (hb.mono HBA.out.size)); clear hb) | (go_at_call 15; (with_reducible refine (hF.self.at _).mono ?_); rintro e wn ⟨rfl, hb⟩; replace HBA := Lib.hid (HBA.out.trans (hb.mono HBA.out.size)); clear hb) | (go_at_call 16; (with_reducible refine (hF.rmt.at _).mono ?_); rintro e wn ⟨rfl, hb⟩; replace HBA := Lib.hid (HBA.out.trans (hb.mono HBA.out.size)); clear hb))
        go_wp2_with fail
        go_roundw
        case rel => exact ⟨3, by omega, by go_num, hBW.trans (HBA.out.mono hBW.size)⟩
        case measure => simp [intOf]
    · go_wp2_with fail
      refine (awake_ans _).mono ?_
      rintro e x1 ⟨rfl, hb1⟩
      go_wp2_with fail
      go_ret
      exact ⟨rfl, (HB0.out.trans (HB.mono hwl)).trans (hb1.mono (by omega))⟩

/-! ### THE ROW's STEP: WRITTEN OUT: LEAVE IT -/
set_option maxRecDepth 100000 in
theorem lifted (os : Os) (started : os.Started) (H : Type) (enc : TypeId × Value → H) :
    ReturnsInHanded {} Try.checked os 5 .any (Rows.textFoldSpec.pre6 enc Try.prog Try.f5 Rows.textFoldRow.domain false) (Rows.textFoldSpec.post enc Try.prog Try.f5 false true false false) := by
  refine returnsInHanded_of_change (C := Try.checked) own started (by kernel_rfl) Try.func5
    (ChangeSpec.witness6 (enc := enc) (C := Try.checked) false ⟨#[], #[.string ByteArray.empty, .string ByteArray.empty, .slice none 0 0, .slice none 0 0], []⟩ 8 (by kernel_rfl) (by kernel_rfl) (by kernel_rfl) (by kernel_rfl)) ?_
  intro W base args ds gs before hval0 hW hcnd _
  have hval : ∀ (j : Nat) t v, Try.f5.params[j]? = some t → args[j]? = some v → Value.okWide Try.prog W .any base t v := hval0
  have hW' := hW
  obtain ⟨p, q, hA0, hV, rfl, hfz, hnd⟩ := hW
  have hA : DataW.TrodAll enc Try.prog W 0 (fun _ => true) true Try.f5.params.toList args.toList ds p := hA0
  rw [Try.params5] at hA hval
  obtain ⟨v0, vs0, d0, ds0, p0, q0, hargs, rfl, rfl, h0, r0⟩ := trodAll_cons hA
  obtain ⟨v1, vs1, d1, ds1, p1, q1, rfl, rfl, rfl, h1, r1⟩ := trodAll_cons r0
  obtain ⟨v2, vs2, d2, ds2, p2, q2, rfl, rfl, rfl, h2, r2⟩ := trodAll_cons r1
  obtain ⟨v3, vs3, d3, ds3, p3, q3, rfl, rfl, rfl, h3, r3⟩ := trodAll_cons r2
  obtain ⟨rfl, rfl, rfl⟩ := trodAll_nil r3
  obtain rfl : args = #[v0, v1, v2, v3] := by cases args; simp_all
  obtain ⟨rfl, rfl⟩ := trodVars_none hV
  obtain ⟨a0, rfl, rfl, rfl, w0⟩ := open_string Try.underlying9 (hval 0 9 v0 rfl rfl) h0
  obtain ⟨a1, rfl, rfl, rfl, w1⟩ := open_string Try.underlying9 (hval 1 9 v1 rfl rfl) h1
  obtain ⟨a2, len2, cap2, rfl⟩ := okWide_slice Try.underlying22 (hval 2 22 v2 rfl rfl)
  have k2 := h2
  have lt2 : ∀ x ∈ p2, x.block < W.heap.size := by obtain ⟨m, hm⟩ := k2; exact DataW.trod_lt m _ _ _ hm
  obtain ⟨z2, w2⟩ : ∃ zs, IsRow .u8 W a2 len2 cap2 zs := by
    obtain ⟨fuel, hf⟩ := h2
    rcases open_ints Try.underlying22 Try.underlying5 (by kernel_rfl) hf with ⟨hcs, _⟩ | ⟨x, l, c, zs, hcs, _, hl, hm, hz, _, hcell, hwz⟩
    · simp [Value.cells] at hcs
      obtain ⟨rfl, rfl, rfl⟩ := hcs
      exact ⟨[], .inl ⟨rfl, rfl, rfl, rfl⟩⟩
    · simp [Value.cells] at hcs
      obtain ⟨rfl, rfl, rfl⟩ := hcs
      exact ⟨zs, .inr ⟨_, rfl, hl, hm, by simpa using hz, hcell, hwz⟩⟩
  obtain ⟨a3, len3, cap3, rfl⟩ := okWide_slice Try.underlying22 (hval 3 22 v3 rfl rfl)
  have k3 := h3
  have lt3 : ∀ x ∈ p3, x.block < W.heap.size := by obtain ⟨m, hm⟩ := k3; exact DataW.trod_lt m _ _ _ hm
  obtain ⟨z3, w3⟩ : ∃ zs, IsRow .u8 W a3 len3 cap3 zs := by
    obtain ⟨fuel, hf⟩ := h3
    rcases open_ints Try.underlying22 Try.underlying5 (by kernel_rfl) hf with ⟨hcs, _⟩ | ⟨x, l, c, zs, hcs, _, hl, hm, hz, _, hcell, hwz⟩
    · simp [Value.cells] at hcs
      obtain ⟨rfl, rfl, rfl⟩ := hcs
      exact ⟨[], .inl ⟨rfl, rfl, rfl, rfl⟩⟩
    · simp [Value.cells] at hcs
      obtain ⟨rfl, rfl, rfl⟩ := hcs
      exact ⟨zs, .inr ⟨_, rfl, hl, hm, by simpa using hz, hcell, hwz⟩⟩
  clear hA0 hval0
  refine (walk a0 a1 a2 len2 cap2 z2 a3 len3 cap3 z3 W w0 w1 w2 w3).mono fun e W' ⟨he, bel⟩ => ?_
  subst he
  exact ⟨_, rfl, _, _, _, [], _, [], hW', trodAll_mk1 (shut_bool Try.underlying4 _), (trodAll_cons_mk (shut_string Try.underlying9 w0) (trodAll_cons_mk (shut_string Try.underlying9 w1) (trodAll_cons_mk (Below.trod laidOut (by kernel_rfl) (of_decide_eq_true (by kernel_rfl)) k2 bel lt2) (trodAll_cons_mk (Below.trod laidOut (by kernel_rfl) (of_decide_eq_true (by kernel_rfl)) k3 bel lt3) trodAll_mk0)))), rfl, bel.frame _, fun h => by cases h⟩

theorem over : Rows.textFoldRow.holds Try.pinned (OpenSpec.ofChange Rows.textFoldSpec) :=
  OpenClaim.holds_of_wide 5 Try.f5 rfl rfl rfl rfl rfl rfl rfl ⟨rfl, rfl, rfl, rfl, rfl⟩ rfl rfl rfl rfl rfl (by kernel_rfl) Try.func5 (by kernel_rfl)
    (of_decide_eq_true (by kernel_rfl)) (by unfold Func.isWrapper; first | (rw [if_pos (by decide +kernel)]; kernel_rfl) | (rw [if_neg (by decide +kernel)]; exact ⟨rfl, rfl⟩))
    (fun os started H enc _ => lifted os started H enc)

/-- ████ THE STATEMENT ████ -/
theorem proved : Rows.TextFoldSaid := over
#print axioms proved
end Go.Proofs.Ytoccblnjalpcdaa.textFold
