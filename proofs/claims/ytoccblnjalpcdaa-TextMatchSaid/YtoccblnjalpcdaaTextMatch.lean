/- certpathlaw06.TextMatch returns true for all three slices of bytes, and they read afterwards as before. No conditions beyond the given statement's own. The frame was written by proof-skeleton.mjs. -/
import Derived.Test.YtoccblnjalpcdaaRows
import Derived.Test.YtoccblnjalpcdaaR
import Derived.WalkKit
import Derived.ProofKit
import Derived.OpenShut
import Derived.ShutString
import Derived.ChangeOld
import Derived.Below
namespace Go.Proofs.Ytoccblnjalpcdaa.textMatch
open Go.Proofs.YtoccblnjalpcdaaW.PrintWords
open Go.ChangeShapes Go.WideShapes Go.ChangeAt Go.RowKit
open Go.ChangeMaps (open_string shut_string)
set_option linter.unusedVariables false

theorem own : ownKnob Try.prog.godebug = none := by kernel_rfl
theorem laidOut : laidOutB Try.prog = true := by kernel_rfl

/-- WHAT THE WALK IS TOLD OF A SLICE OF INTEGERS THAT CAME IN: it is nil; or it leads to a row of 'cap' cells, the numbers 'zs' (the first 'len' are its elements, the rest its spare room), each fitting its kind. -/
def IsRow (k : IntKind) (w : World) (a : Option Addr) (len cap : Nat) (zs : List Int) : Prop :=
  (a = none ∧ len = 0 ∧ cap = 0 ∧ zs = []) ∨
  ∃ x, a = some x ∧ len ≤ cap ∧ cap ≤ maxLen ∧ zs.length = cap ∧ (∀ i, i < zs.length → w.cell? (x.add i) = some (.int k (zs.getD i 0))) ∧ ∀ n ∈ zs, (Lit.int k n).wf = true

/-! ### STEP 1: THE WALK: the Go text returns true, AND WRITES NOTHING THAT WAS THERE: 'Below w.heap.size w w'' (Derived/Below.lean: '.refl', '.alloc', '.drew', '.setCell' at a new block, '.trans'). Open each 'IsRow' by 'rcases' AHEAD of 'go_enter'; part every test ahead of the walk. -/
set_option maxHeartbeats 4000000 in
set_option maxRecDepth 100000 in
theorem walk (a0 : Option Addr) (len0 cap0 : Nat) (z0 : List Int) (a1 : Option Addr) (len1 cap1 : Nat) (z1 : List Int) (a2 : Option Addr) (len2 cap2 : Nat) (z2 : List Int) (w : World) (w0 : IsRow .u8 w a0 len0 cap0 z0) (w1 : IsRow .u8 w a1 len1 cap1 z1) (w2 : IsRow .u8 w a2 len2 cap2 z2) :
    Calls Try.prog 6 #[.slice a0 len0 cap0, .slice a1 len1 cap1, .slice a2 len2 cap2] w fun e w' => e = .returned (.bool true) ∧ Below w.heap.size w w' := by
  obtain ⟨l0, rfl, hl0, hc0, k0⟩ := of_row w0
  obtain ⟨l1, rfl, hl1, hc1, k1⟩ := of_row w1
  obtain ⟨l2, rfl, hl2, hc2, k2⟩ := of_row w2
  obtain ⟨a, ha, za⟩ := pieces_f l0 hl0
  obtain ⟨b, hb, zb⟩ := pieces_f l1 hl1
  obtain ⟨c, hc, zc⟩ := pieces_f l2 hl2
  have Ha := Lib.hid ha
  have Hb := Lib.hid hb
  have Hc := Lib.hid hc
  clear ha hb hc w0 w1 w2
  have K0 := Lib.hid k0
  have K1 := Lib.hid k1
  have K2 := Lib.hid k2
  clear k0 k1 k2
  by_cases hlen : l0.length < 3
  · have hlen : l0.length < 3 := hlen
    go_enter Try.func6, Try.ntmps6
    go_wp2_with fail
    refine (pieces_any _ _ l0 a _ K0.out hc0 Ha.out).mono ?_
    rintro e x1 ⟨rfl, hb1⟩
    have s1 := hb1.size
    go_wp2_with fail
    refine (pieces_any _ _ l1 b _ (Kd.C_below K1.out hb1) hc1 Hb.out).mono ?_
    rintro e x2 ⟨rfl, hb2⟩
    have s2 := hb2.size
    go_wp2_with fail
    refine (pieces_any _ _ l2 c _ (Kd.C_below (Kd.C_below K2.out hb1) hb2) hc2 Hc.out).mono ?_
    rintro e x3 ⟨rfl, hb3⟩
    have s3 := hb3.size
    have zl : (strOfNums (lowL (bytesOf a))).size ≤ 160 := by rw [str_size, lowL, List.length_map, bytesOf_length]; exact za
    have z1 : (⟨#[32]⟩ : ByteArray).size = 1 := rfl
    have z2 : (⟨#[32, 32]⟩ : ByteArray).size = 2 := rfl
    go_wp2_with fail
    refine (lower_any a _ (by omega)).mono ?_
    rintro e x4 ⟨rfl, hb4⟩
    have s4 := hb4.size
    clear z1 z2
    generalize strOfNums (lowL (bytesOf a)) = c2 at *
    have zb2 : ((⟨#[32]⟩ : ByteArray) ++ a ++ (⟨#[32, 32]⟩ : ByteArray)).size ≤ 200 := by rw [ByteArray.size_append, ByteArray.size_append]; show 1 + a.size + 2 ≤ 200; omega
    go_wp2_with fail
    generalize ((⟨#[32]⟩ : ByteArray) ++ a ++ (⟨#[32, 32]⟩ : ByteArray)) = b2 at *
    go_wp2_with fail
    refine (awake_any _).mono ?_
    rintro e x5 ⟨rfl, hb5⟩
    have s5 := hb5.size
    have e1 : decide (foldS b2 = foldS a) = decide (foldS a = foldS b2) := by simp [eq_comm]
    have e2 : decide (foldS a = foldS b2) = true → decide (foldS b2 = foldS c2) = true → decide (foldS a = foldS c2) = true := by simp only [decide_eq_true_iff]; exact Eq.trans
    generalize hab : decide (foldS a = foldS b2) = ab at *
    generalize hbc : decide (foldS b2 = foldS c2) = bc at *
    generalize hac : decide (foldS a = foldS c2) = ac at *
    have HAB := Lib.hid hab
    have HBC := Lib.hid hbc
    have HAC := Lib.hid hac
    have E1 := Lib.hid e1
    have E2 := Lib.hid e2
    clear hab hbc hac e1 e2
    cases ab
    · go_wp2_with fail
      refine (match_any a a _ (by omega) (by omega)).mono ?_
      rintro e x6 ⟨rfl, hb6⟩
      rw [show decide (foldS a = foldS a) = true by simp]
      have s6 := hb6.size
      go_wp2_with fail
      refine (match_any a b2 _ (by omega) (by omega)).mono ?_
      rintro e x7 ⟨rfl, hb7⟩
      rw [HAB.out]
      have s7 := hb7.size
      go_wp2_with fail
      refine (match_any b2 a _ (by omega) (by omega)).mono ?_
      rintro e x8 ⟨rfl, hb8⟩
      rw [E1.out]
      have s8 := hb8.size
      go_wp2_with fail
      refine (match_any a b2 _ (by omega) (by omega)).mono ?_
      rintro e x9 ⟨rfl, hb9⟩
      rw [HAB.out]
      have s9 := hb9.size
      go_wp2_with fail
      go_ret
      exact ⟨rfl, (hb1).trans ((hb2.mono (by omega)).trans ((hb3.mono (by omega)).trans ((hb4.mono (by omega)).trans ((hb5.mono (by omega)).trans ((hb6.mono (by omega)).trans ((hb7.mono (by omega)).trans ((hb8.mono (by omega)).trans (hb9.mono (by omega)))))))))⟩
    · cases bc
      · go_wp2_with fail
        refine (match_any a a _ (by omega) (by omega)).mono ?_
        rintro e x6 ⟨rfl, hb6⟩
        rw [show decide (foldS a = foldS a) = true by simp]
        have s6 := hb6.size
        go_wp2_with fail
        refine (match_any a b2 _ (by omega) (by omega)).mono ?_
        rintro e x7 ⟨rfl, hb7⟩
        rw [HAB.out]
        have s7 := hb7.size
        go_wp2_with fail
        refine (match_any b2 a _ (by omega) (by omega)).mono ?_
        rintro e x8 ⟨rfl, hb8⟩
        rw [E1.out]
        have s8 := hb8.size
        go_wp2_with fail
        refine (match_any a b2 _ (by omega) (by omega)).mono ?_
        rintro e x9 ⟨rfl, hb9⟩
        rw [HAB.out]
        have s9 := hb9.size
        go_wp2_with fail
        refine (match_any b2 c2 _ (by omega) (by omega)).mono ?_
        rintro e x10 ⟨rfl, hb10⟩
        rw [HBC.out]
        have s10 := hb10.size
        go_wp2_with fail
        go_ret
        exact ⟨rfl, (hb1).trans ((hb2.mono (by omega)).trans ((hb3.mono (by omega)).trans ((hb4.mono (by omega)).trans ((hb5.mono (by omega)).trans ((hb6.mono (by omega)).trans ((hb7.mono (by omega)).trans ((hb8.mono (by omega)).trans ((hb9.mono (by omega)).trans (hb10.mono (by omega))))))))))⟩
      · obtain rfl : ac = true := E2.out rfl rfl
        go_wp2_with fail
        refine (match_any a a _ (by omega) (by omega)).mono ?_
        rintro e x6 ⟨rfl, hb6⟩
        rw [show decide (foldS a = foldS a) = true by simp]
        have s6 := hb6.size
        go_wp2_with fail
        refine (match_any a b2 _ (by omega) (by omega)).mono ?_
        rintro e x7 ⟨rfl, hb7⟩
        rw [HAB.out]
        have s7 := hb7.size
        go_wp2_with fail
        refine (match_any b2 a _ (by omega) (by omega)).mono ?_
        rintro e x8 ⟨rfl, hb8⟩
        rw [E1.out]
        have s8 := hb8.size
        go_wp2_with fail
        refine (match_any a b2 _ (by omega) (by omega)).mono ?_
        rintro e x9 ⟨rfl, hb9⟩
        rw [HAB.out]
        have s9 := hb9.size
        go_wp2_with fail
        refine (match_any b2 c2 _ (by omega) (by omega)).mono ?_
        rintro e x10 ⟨rfl, hb10⟩
        rw [HBC.out]
        have s10 := hb10.size
        go_wp2_with fail
        refine (match_any a c2 _ (by omega) (by omega)).mono ?_
        rintro e x11 ⟨rfl, hb11⟩
        rw [HAC.out]
        have s11 := hb11.size
        go_wp2_with fail
        go_ret
        exact ⟨rfl, (hb1).trans ((hb2.mono (by omega)).trans ((hb3.mono (by omega)).trans ((hb4.mono (by omega)).trans ((hb5.mono (by omega)).trans ((hb6.mono (by omega)).trans ((hb7.mono (by omega)).trans ((hb8.mono (by omega)).trans ((hb9.mono (by omega)).trans ((hb10.mono (by omega)).trans (hb11.mono (by omega)))))))))))⟩
  · have hlen : ¬ l0.length < 3 := hlen
    go_enter Try.func6, Try.ntmps6
    go_wp2_with fail
    refine (pieces_any _ _ l0 a _ K0.out hc0 Ha.out).mono ?_
    rintro e x1 ⟨rfl, hb1⟩
    have s1 := hb1.size
    go_wp2_with fail
    refine (pieces_any _ _ l1 b _ (Kd.C_below K1.out hb1) hc1 Hb.out).mono ?_
    rintro e x2 ⟨rfl, hb2⟩
    have s2 := hb2.size
    go_wp2_with fail
    refine (pieces_any _ _ l2 c _ (Kd.C_below (Kd.C_below K2.out hb1) hb2) hc2 Hc.out).mono ?_
    rintro e x3 ⟨rfl, hb3⟩
    have s3 := hb3.size
    go_wp2_with fail
    refine (awake_any _).mono ?_
    rintro e x4 ⟨rfl, hb4⟩
    have s4 := hb4.size
    have e1 : decide (foldS b = foldS a) = decide (foldS a = foldS b) := by simp [eq_comm]
    have e2 : decide (foldS a = foldS b) = true → decide (foldS b = foldS c) = true → decide (foldS a = foldS c) = true := by simp only [decide_eq_true_iff]; exact Eq.trans
    generalize hab : decide (foldS a = foldS b) = ab at *
    generalize hbc : decide (foldS b = foldS c) = bc at *
    generalize hac : decide (foldS a = foldS c) = ac at *
    have HAB := Lib.hid hab
    have HBC := Lib.hid hbc
    have HAC := Lib.hid hac
    have E1 := Lib.hid e1
    have E2 := Lib.hid e2
    clear hab hbc hac e1 e2
    cases ab
    · go_wp2_with fail
      refine (match_any a a _ (by omega) (by omega)).mono ?_
      rintro e x5 ⟨rfl, hb5⟩
      rw [show decide (foldS a = foldS a) = true by simp]
      have s5 := hb5.size
      go_wp2_with fail
      refine (match_any a b _ (by omega) (by omega)).mono ?_
      rintro e x6 ⟨rfl, hb6⟩
      rw [HAB.out]
      have s6 := hb6.size
      go_wp2_with fail
      refine (match_any b a _ (by omega) (by omega)).mono ?_
      rintro e x7 ⟨rfl, hb7⟩
      rw [E1.out]
      have s7 := hb7.size
      go_wp2_with fail
      refine (match_any a b _ (by omega) (by omega)).mono ?_
      rintro e x8 ⟨rfl, hb8⟩
      rw [HAB.out]
      have s8 := hb8.size
      go_wp2_with fail
      go_ret
      exact ⟨rfl, (hb1).trans ((hb2.mono (by omega)).trans ((hb3.mono (by omega)).trans ((hb4.mono (by omega)).trans ((hb5.mono (by omega)).trans ((hb6.mono (by omega)).trans ((hb7.mono (by omega)).trans (hb8.mono (by omega))))))))⟩
    · cases bc
      · go_wp2_with fail
        refine (match_any a a _ (by omega) (by omega)).mono ?_
        rintro e x5 ⟨rfl, hb5⟩
        rw [show decide (foldS a = foldS a) = true by simp]
        have s5 := hb5.size
        go_wp2_with fail
        refine (match_any a b _ (by omega) (by omega)).mono ?_
        rintro e x6 ⟨rfl, hb6⟩
        rw [HAB.out]
        have s6 := hb6.size
        go_wp2_with fail
        refine (match_any b a _ (by omega) (by omega)).mono ?_
        rintro e x7 ⟨rfl, hb7⟩
        rw [E1.out]
        have s7 := hb7.size
        go_wp2_with fail
        refine (match_any a b _ (by omega) (by omega)).mono ?_
        rintro e x8 ⟨rfl, hb8⟩
        rw [HAB.out]
        have s8 := hb8.size
        go_wp2_with fail
        refine (match_any b c _ (by omega) (by omega)).mono ?_
        rintro e x9 ⟨rfl, hb9⟩
        rw [HBC.out]
        have s9 := hb9.size
        go_wp2_with fail
        go_ret
        exact ⟨rfl, (hb1).trans ((hb2.mono (by omega)).trans ((hb3.mono (by omega)).trans ((hb4.mono (by omega)).trans ((hb5.mono (by omega)).trans ((hb6.mono (by omega)).trans ((hb7.mono (by omega)).trans ((hb8.mono (by omega)).trans (hb9.mono (by omega)))))))))⟩
      · obtain rfl : ac = true := E2.out rfl rfl
        go_wp2_with fail
        refine (match_any a a _ (by omega) (by omega)).mono ?_
        rintro e x5 ⟨rfl, hb5⟩
        rw [show decide (foldS a = foldS a) = true by simp]
        have s5 := hb5.size
        go_wp2_with fail
        refine (match_any a b _ (by omega) (by omega)).mono ?_
        rintro e x6 ⟨rfl, hb6⟩
        rw [HAB.out]
        have s6 := hb6.size
        go_wp2_with fail
        refine (match_any b a _ (by omega) (by omega)).mono ?_
        rintro e x7 ⟨rfl, hb7⟩
        rw [E1.out]
        have s7 := hb7.size
        go_wp2_with fail
        refine (match_any a b _ (by omega) (by omega)).mono ?_
        rintro e x8 ⟨rfl, hb8⟩
        rw [HAB.out]
        have s8 := hb8.size
        go_wp2_with fail
        refine (match_any b c _ (by omega) (by omega)).mono ?_
        rintro e x9 ⟨rfl, hb9⟩
        rw [HBC.out]
        have s9 := hb9.size
        go_wp2_with fail
        refine (match_any a c _ (by omega) (by omega)).mono ?_
        rintro e x10 ⟨rfl, hb10⟩
        rw [HAC.out]
        have s10 := hb10.size
        go_wp2_with fail
        go_ret
        exact ⟨rfl, (hb1).trans ((hb2.mono (by omega)).trans ((hb3.mono (by omega)).trans ((hb4.mono (by omega)).trans ((hb5.mono (by omega)).trans ((hb6.mono (by omega)).trans ((hb7.mono (by omega)).trans ((hb8.mono (by omega)).trans ((hb9.mono (by omega)).trans (hb10.mono (by omega))))))))))⟩

/-! ### THE ROW's STEP: WRITTEN OUT: LEAVE IT -/
set_option maxRecDepth 100000 in
theorem lifted (os : Os) (started : os.Started) (H : Type) (enc : TypeId × Value → H) :
    ReturnsInHanded {} Try.checked os 6 .any (Rows.textMatchSpec.pre6 enc Try.prog Try.f6 Rows.textMatchRow.domain false) (Rows.textMatchSpec.post enc Try.prog Try.f6 false true false false) := by
  refine returnsInHanded_of_change (C := Try.checked) own started (by kernel_rfl) Try.func6
    (ChangeSpec.witness6 (enc := enc) (C := Try.checked) false ⟨#[], #[.slice none 0 0, .slice none 0 0, .slice none 0 0], []⟩ 8 (by kernel_rfl) (by kernel_rfl) (by kernel_rfl) (by kernel_rfl)) ?_
  intro W base args ds gs before hval0 hW hcnd _
  have hval : ∀ (j : Nat) t v, Try.f6.params[j]? = some t → args[j]? = some v → Value.okWide Try.prog W .any base t v := hval0
  have hW' := hW
  obtain ⟨p, q, hA0, hV, rfl, hfz, hnd⟩ := hW
  have hA : DataW.TrodAll enc Try.prog W 0 (fun _ => true) true Try.f6.params.toList args.toList ds p := hA0
  rw [Try.params6] at hA hval
  obtain ⟨v0, vs0, d0, ds0, p0, q0, hargs, rfl, rfl, h0, r0⟩ := trodAll_cons hA
  obtain ⟨v1, vs1, d1, ds1, p1, q1, rfl, rfl, rfl, h1, r1⟩ := trodAll_cons r0
  obtain ⟨v2, vs2, d2, ds2, p2, q2, rfl, rfl, rfl, h2, r2⟩ := trodAll_cons r1
  obtain ⟨rfl, rfl, rfl⟩ := trodAll_nil r2
  obtain rfl : args = #[v0, v1, v2] := by cases args; simp_all
  obtain ⟨rfl, rfl⟩ := trodVars_none hV
  obtain ⟨a0, len0, cap0, rfl⟩ := okWide_slice Try.underlying22 (hval 0 22 v0 rfl rfl)
  have k0 := h0
  have lt0 : ∀ x ∈ p0, x.block < W.heap.size := by obtain ⟨m, hm⟩ := k0; exact DataW.trod_lt m _ _ _ hm
  obtain ⟨z0, w0⟩ : ∃ zs, IsRow .u8 W a0 len0 cap0 zs := by
    obtain ⟨fuel, hf⟩ := h0
    rcases open_ints Try.underlying22 Try.underlying5 (by kernel_rfl) hf with ⟨hcs, _⟩ | ⟨x, l, c, zs, hcs, _, hl, hm, hz, _, hcell, hwz⟩
    · simp [Value.cells] at hcs
      obtain ⟨rfl, rfl, rfl⟩ := hcs
      exact ⟨[], .inl ⟨rfl, rfl, rfl, rfl⟩⟩
    · simp [Value.cells] at hcs
      obtain ⟨rfl, rfl, rfl⟩ := hcs
      exact ⟨zs, .inr ⟨_, rfl, hl, hm, by simpa using hz, hcell, hwz⟩⟩
  obtain ⟨a1, len1, cap1, rfl⟩ := okWide_slice Try.underlying22 (hval 1 22 v1 rfl rfl)
  have k1 := h1
  have lt1 : ∀ x ∈ p1, x.block < W.heap.size := by obtain ⟨m, hm⟩ := k1; exact DataW.trod_lt m _ _ _ hm
  obtain ⟨z1, w1⟩ : ∃ zs, IsRow .u8 W a1 len1 cap1 zs := by
    obtain ⟨fuel, hf⟩ := h1
    rcases open_ints Try.underlying22 Try.underlying5 (by kernel_rfl) hf with ⟨hcs, _⟩ | ⟨x, l, c, zs, hcs, _, hl, hm, hz, _, hcell, hwz⟩
    · simp [Value.cells] at hcs
      obtain ⟨rfl, rfl, rfl⟩ := hcs
      exact ⟨[], .inl ⟨rfl, rfl, rfl, rfl⟩⟩
    · simp [Value.cells] at hcs
      obtain ⟨rfl, rfl, rfl⟩ := hcs
      exact ⟨zs, .inr ⟨_, rfl, hl, hm, by simpa using hz, hcell, hwz⟩⟩
  obtain ⟨a2, len2, cap2, rfl⟩ := okWide_slice Try.underlying22 (hval 2 22 v2 rfl rfl)
  have k2 := h2
  have lt2 : ∀ x ∈ p2, x.block < W.heap.size := by obtain ⟨m, hm⟩ := k2; exact DataW.trod_lt m _ _ _ hm
  obtain ⟨z2, w2⟩ : ∃ zs, IsRow .u8 W a2 len2 cap2 zs := by
    obtain ⟨fuel, hf⟩ := h2
    rcases open_ints Try.underlying22 Try.underlying5 (by kernel_rfl) hf with ⟨hcs, _⟩ | ⟨x, l, c, zs, hcs, _, hl, hm, hz, _, hcell, hwz⟩
    · simp [Value.cells] at hcs
      obtain ⟨rfl, rfl, rfl⟩ := hcs
      exact ⟨[], .inl ⟨rfl, rfl, rfl, rfl⟩⟩
    · simp [Value.cells] at hcs
      obtain ⟨rfl, rfl, rfl⟩ := hcs
      exact ⟨zs, .inr ⟨_, rfl, hl, hm, by simpa using hz, hcell, hwz⟩⟩
  clear hA0 hval0
  refine (walk a0 len0 cap0 z0 a1 len1 cap1 z1 a2 len2 cap2 z2 W w0 w1 w2).mono fun e W' ⟨he, bel⟩ => ?_
  subst he
  exact ⟨_, rfl, _, _, _, [], _, [], hW', trodAll_mk1 (shut_bool Try.underlying4 _), (trodAll_cons_mk (Below.trod laidOut (by kernel_rfl) (of_decide_eq_true (by kernel_rfl)) k0 bel lt0) (trodAll_cons_mk (Below.trod laidOut (by kernel_rfl) (of_decide_eq_true (by kernel_rfl)) k1 bel lt1) (trodAll_cons_mk (Below.trod laidOut (by kernel_rfl) (of_decide_eq_true (by kernel_rfl)) k2 bel lt2) trodAll_mk0))), rfl, bel.frame _, fun h => by cases h⟩

theorem over : Rows.textMatchRow.holds Try.pinned (OpenSpec.ofChange Rows.textMatchSpec) :=
  OpenClaim.holds_of_wide 6 Try.f6 rfl rfl rfl rfl rfl rfl rfl ⟨rfl, rfl, rfl, rfl, rfl⟩ rfl rfl rfl rfl rfl (by kernel_rfl) Try.func6 (by kernel_rfl)
    (of_decide_eq_true (by kernel_rfl)) (by unfold Func.isWrapper; first | (rw [if_pos (by decide +kernel)]; kernel_rfl) | (rw [if_neg (by decide +kernel)]; exact ⟨rfl, rfl⟩))
    (fun os started H enc _ => lifted os started H enc)

/-- ████ THE STATEMENT ████ -/
theorem proved : Rows.TextMatchSaid := over
#print axioms proved
end Go.Proofs.Ytoccblnjalpcdaa.textMatch
