/- certpathlaw06.TextBytes returns true for every slice of bytes, and it reads afterwards as before. No conditions beyond the given statement's own. The frame was written by proof-skeleton.mjs. -/
import Derived.Test.YtoccblnjalpcdaaRows
import Derived.Test.YtoccblnjalpcdaaV
import Derived.Deep.RegionWith
import Derived.WalkKit
import Derived.ProofKit
import Derived.OpenShut
import Derived.ShutString
import Derived.ChangeOld
import Derived.Below
namespace Go.Proofs.Ytoccblnjalpcdaa.textBytes
open Go.Proofs.YtoccblnjalpcdaaW.PrintWords
open Go.ChangeShapes Go.WideShapes Go.ChangeAt Go.RowKit
open Go.ChangeMaps (open_string shut_string)
set_option linter.unusedVariables false

theorem own : ownKnob Try.prog.godebug = none := by kernel_rfl
theorem laidOut : laidOutB Try.prog = true := by kernel_rfl

/-- WHAT THE WALK IS TOLD OF A SLICE OF INTEGERS THAT CAME IN: it is nil; or it leads to a row of 'cap' cells, the numbers 'zs' (the first 'len' are its elements, the rest its spare room), each fitting its kind. -/
def IsRow (k : IntKind) (w : World) (a : Option Addr) (len cap : Nat) (zs : List Int) : Prop :=
  (a = none ∧ len = 0 ∧ cap = 0 ∧ zs = []) ∨
  ∃ x, a = some x ∧ len ≤ cap ∧ cap ≤ maxLen ∧ zs.length = cap ∧ (∀ i, i < zs.length → w.cell? (x.add i) = some (.int k (zs.getD i 0))) ∧ ∀ n ∈ zs, (Lit.int k n).wf = true

theorem tab_cell (W : World) (n : Nat) (hn : n < 20) : ∃ v : Int, 0 ≤ v ∧ v ≤ 255 ∧ (W.alloc (.cells #[.int .u8 32, .int .u8 126, .int .u8 127, .int .u8 128, .int .u8 143, .int .u8 144, .int .u8 159, .int .u8 160, .int .u8 191, .int .u8 193, .int .u8 194, .int .u8 223, .int .u8 224, .int .u8 237, .int .u8 239, .int .u8 240, .int .u8 244, .int .u8 245, .int .u8 248, .int .u8 97] 5)).cell? ⟨W.heap.size, n, none⟩ = some (.int .u8 v) := by
  have h : ∀ m : Fin 20, ∃ v : Int, 0 ≤ v ∧ v ≤ 255 ∧ (#[.int .u8 32, .int .u8 126, .int .u8 127, .int .u8 128, .int .u8 143, .int .u8 144, .int .u8 159, .int .u8 160, .int .u8 191, .int .u8 193, .int .u8 194, .int .u8 223, .int .u8 224, .int .u8 237, .int .u8 239, .int .u8 240, .int .u8 244, .int .u8 245, .int .u8 248, .int .u8 97] : Array Value)[m.val]? = some (.int .u8 v) := by
    intro m
    have hv : ∀ m : Fin 20, 0 ≤ (([32, 126, 127, 128, 143, 144, 159, 160, 191, 193, 194, 223, 224, 237, 239, 240, 244, 245, 248, 97] : List Int).getD m.val 0) ∧ (([32, 126, 127, 128, 143, 144, 159, 160, 191, 193, 194, 223, 224, 237, 239, 240, 244, 245, 248, 97] : List Int).getD m.val 0) ≤ 255 := by decide
    refine ⟨([32, 126, 127, 128, 143, 144, 159, 160, 191, 193, 194, 223, 224, 237, 239, 240, 244, 245, 248, 97] : List Int).getD m.val 0, (hv m).1, (hv m).2, ?_⟩
    match m with
    | ⟨0, _⟩ | ⟨1, _⟩ | ⟨2, _⟩ | ⟨3, _⟩ | ⟨4, _⟩ | ⟨5, _⟩ | ⟨6, _⟩ | ⟨7, _⟩ | ⟨8, _⟩ | ⟨9, _⟩ | ⟨10, _⟩ | ⟨11, _⟩ | ⟨12, _⟩ | ⟨13, _⟩ | ⟨14, _⟩ | ⟨15, _⟩ | ⟨16, _⟩ | ⟨17, _⟩ | ⟨18, _⟩ | ⟨19, _⟩ => rfl
    | ⟨n + 20, h⟩ => exact absurd h (by omega)
  obtain ⟨v, h0, h1, h2⟩ := h ⟨n, hn⟩
  exact ⟨v, h0, h1, (cell_of_row _ _ n _ 5 (0, 0) (heap_alloc_new W _)).trans h2⟩

/-! ### STEP 1: THE WALK: the Go text returns true, AND WRITES NOTHING THAT WAS THERE: 'Below w.heap.size w w'' (Derived/Below.lean: '.refl', '.alloc', '.drew', '.setCell' at a new block, '.trans'). Open each 'IsRow' by 'rcases' AHEAD of 'go_enter'; part every test ahead of the walk. -/
set_option linter.unusedSimpArgs false
set_option maxHeartbeats 4000000 in
set_option maxRecDepth 100000 in
theorem walk (a0 : Option Addr) (len0 cap0 : Nat) (z0 : List Int) (w : World) (w0 : IsRow .u8 w a0 len0 cap0 z0) :
    Calls Try.prog 4 #[.slice a0 len0 cap0] w fun e w' => e = .returned (.bool true) ∧ Below w.heap.size w w' := by
  by_cases hlen : 12 < len0
  · go_enter Try.func4, Try.ntmps4
    go_wp2_with fail
    refine (awake_ans _).mono ?_
    rintro e x1 ⟨rfl, hb1⟩
    have s1 := hb1.size
    go_wp2_with fail
    go_ret
    exact ⟨rfl, hb1⟩
  obtain ⟨l0, rfl, hl0, hc0, k0⟩ := of_row w0
  have K0 := Lib.hid k0
  clear k0 w0
  have hmk := print_make (P := Try.prog) 22 5 .u8 1 Try.underlying22 info5 (by decide) l0.length (by omega)
  go_enter Try.func4, Try.ntmps4
  go_wp2_with fail
  have hB0 : Below w.heap.size w (w.alloc (.cells (madeCells #[.int .u8 0] l0.length) 5)) := (Below.refl _ _).alloc (Nat.le_refl _) _
  have hO0 := own_made w w.heap.size 5 .u8 l0.length (Nat.le_refl _) (by omega)
  generalize w.alloc (.cells (madeCells #[.int .u8 0] l0.length) 5) = wb at *
  clear hmk
  have HO0 := Lib.hid hO0
  have HB0 := Lib.hid hB0
  clear hO0 hB0
  go_loopw [14] (fun i wr => ∃ (k : Nat) (xs : List Int), k ≤ l0.length ∧ i = .int .i64 k ∧ Below w.heap.size w wr ∧ Hid (wr.ownsRow w.heap.size 5 1 (.slice (some ⟨w.heap.size, 0, none⟩) l0.length l0.length) l0.length (nums .u8 xs) ∧ Byt xs)) (fun i _ => l0.length - (intOf i).toNat)
  case atStart => exact ⟨0, List.replicate l0.length 0, by omega, rfl, HB0.out, HO0.out, by intro x hx; rw [List.mem_replicate] at hx; omega⟩
  case round =>
    obtain ⟨k, xs, hk, rfl, HB, HO⟩ := hrel
    have hle := HB.size
    have hxl : xs.length = l0.length := by have := HO.out.1.1; simpa [nums] using this
    by_cases hlt : k < l0.length
    · have hr := rd_byt l0 hl0 (k : Int)
      obtain ⟨ad, had, hcl⟩ := Kd.at_int (Kd.C_below K0.out HB) (k : Int) (by omega) (by omega)
      obtain ⟨hcb, hfb⟩ := own_at HO.out.1 (k : Int) (by omega) (by omega)
      simp only [Int.toNat_natCast] at hcl hcb hfb
      subst had
      generalize rd l0 (k : Int) = c at *
      have htm : IntKind.u8.wrap (c.tmod 20) = c % 20 := by rw [Int.tmod_eq_emod_of_nonneg hr.1]; show (c % 20) % 256 = _; omega
      have q1 : 0 ≤ c % 20 := by omega
      have q2 : c % 20 < 20 := by omega
      obtain ⟨v, hv0, hv1, hct⟩ := tab_cell wr (c % 20).toNat (by omega)
      have hlw : w.heap.size < wr.heap.size := own_lt HO.out.1 w.heap.size rfl
      have hAl := fun o => (Below.refl wr.heap.size wr).alloc (Nat.le_refl _) o
      have hcl2 := fun o => ((hAl o).cell (p := ad.add k) (World.block_lt_of_cell? wr _ hcl)).trans hcl
      have hcb2 := fun o => ((hAl o).cell (p := ⟨w.heap.size, k, none⟩) hlw).trans hcb
      have hfb2 := fun o => ((hAl o).frozen (p := ⟨w.heap.size, k, none⟩) hlw).trans hfb
      have HAL := Lib.hid hAl
      clear hAl
      have hst := own_store HO.out.1 (k : Int) v
      simp only [Int.toNat_natCast] at hst
      have hst2 := hst.1
      have hby : Byt (xs.set k v) := fun x hx => by
        rcases List.mem_or_eq_of_mem_set hx with h | h
        · exact HO.out.2 x h
        · rw [h]; exact ⟨hv0, hv1⟩
      have HST := Lib.hid hst2
      have HBY := Lib.hid hby
      clear hst hst2 hby
      go_wp2_with fail
      go_roundw
      case rel => exact ⟨k + 1, xs.set k v, by omega, by go_num, (HB.setCell (Nat.le_refl _) _).alloc (by simp; omega) _, HST.out.alloc _, HBY.out⟩
      case measure => simp [intOf]; omega
    · have hs : (strOfNums xs).size ≤ 12 := by rw [str_size]; omega
      obtain ⟨b, hv⟩ := valid_facts 12 (strOfNums xs) (by omega)
      have HBA : Hid (Below wr.heap.size wr wr.drew) := (Below.refl _ _).drew
      clear HO0
      go_wp2_with fail
      go_region_with (first | (go_at_call 8; refine (awake_ans _).mono ?_; rintro e wn ⟨rfl, hb⟩; replace HBA := Lib.hid (HBA.out.trans (hb.mono HBA.out.size)); clear hb; have HCV := own_string (P := Try.prog) Try.underlying22 Try.underlying5 Try.underlying9 (pw_own_below HO.out.1 HBA.out)) | (go_at_call 10; (with_reducible refine (hv.1.at _).mono ?_); rintro e wn ⟨rfl, hb⟩; replace HBA := Lib.hid (HBA.out.trans (hb.mono HBA.out.size)); clear hb; have HCV := own_string (P := Try.prog) Try.underlying22 Try.underlying5 Try.underlying9 (pw_own_below HO.out.1 HBA.out)) | (go_at_call 11; (with_reducible refine (hv.2.at _).mono ?_); rintro e wn ⟨rfl, hb⟩; replace HBA := Lib.hid (HBA.out.trans (hb.mono HBA.out.size)); clear hb; have HCV := own_string (P := Try.prog) Try.underlying22 Try.underlying5 Try.underlying9 (pw_own_below HO.out.1 HBA.out)))
      all_goals
        go_wp2_with fail
        go_ret
        exact ⟨by first | rfl | simp, HB.trans (HBA.out.mono hle)⟩

/-! ### THE ROW's STEP: WRITTEN OUT: LEAVE IT -/
set_option maxRecDepth 100000 in
theorem lifted (os : Os) (started : os.Started) (H : Type) (enc : TypeId × Value → H) :
    ReturnsInHanded {} Try.checked os 4 .any (Rows.textBytesSpec.pre6 enc Try.prog Try.f4 Rows.textBytesRow.domain false) (Rows.textBytesSpec.post enc Try.prog Try.f4 false true false false) := by
  refine returnsInHanded_of_change (C := Try.checked) own started (by kernel_rfl) Try.func4
    (ChangeSpec.witness6 (enc := enc) (C := Try.checked) false ⟨#[], #[.slice none 0 0], []⟩ 8 (by kernel_rfl) (by kernel_rfl) (by kernel_rfl) (by kernel_rfl)) ?_
  intro W base args ds gs before hval0 hW hcnd _
  have hval : ∀ (j : Nat) t v, Try.f4.params[j]? = some t → args[j]? = some v → Value.okWide Try.prog W .any base t v := hval0
  have hW' := hW
  obtain ⟨p, q, hA0, hV, rfl, hfz, hnd⟩ := hW
  have hA : DataW.TrodAll enc Try.prog W 0 (fun _ => true) true Try.f4.params.toList args.toList ds p := hA0
  rw [Try.params4] at hA hval
  obtain ⟨v0, vs0, d0, ds0, p0, q0, hargs, rfl, rfl, h0, r0⟩ := trodAll_cons hA
  obtain ⟨rfl, rfl, rfl⟩ := trodAll_nil r0
  obtain rfl : args = #[v0] := by cases args; simp_all
  obtain ⟨rfl, rfl⟩ := trodVars_none hV
  obtain ⟨a0, len0, cap0, rfl⟩ := okWide_slice Try.underlying22 (hval 0 22 v0 rfl rfl)
  have k0 := h0
  have lt0 : ∀ x ∈ p0, x.block < W.heap.size := by obtain ⟨m, hm⟩ := k0; exact DataW.trod_lt m _ _ _ hm
  obtain ⟨z0, w0⟩ : ∃ zs, IsRow .u8 W a0 len0 cap0 zs := by
    obtain ⟨fuel, hf⟩ := h0
    rcases open_ints Try.underlying22 Try.underlying5 (by kernel_rfl) hf with ⟨hcs, _⟩ | ⟨x, l, c, zs, hcs, _, hl, hm, hz, _, hcell, hwz⟩
    · simp [Value.cells] at hcs
      obtain ⟨rfl, rfl, rfl⟩ := hcs
      exact ⟨[], .inl ⟨rfl, rfl, rfl, rfl⟩⟩
    · simp [Value.cells] at hcs
      obtain ⟨rfl, rfl, rfl⟩ := hcs
      exact ⟨zs, .inr ⟨_, rfl, hl, hm, by simpa using hz, hcell, hwz⟩⟩
  clear hA0 hval0
  refine (walk a0 len0 cap0 z0 W w0).mono fun e W' ⟨he, bel⟩ => ?_
  subst he
  exact ⟨_, rfl, _, _, _, [], _, [], hW', trodAll_mk1 (shut_bool Try.underlying4 _), (trodAll_cons_mk (Below.trod laidOut (by kernel_rfl) (of_decide_eq_true (by kernel_rfl)) k0 bel lt0) trodAll_mk0), rfl, bel.frame _, fun h => by cases h⟩

theorem over : Rows.textBytesRow.holds Try.pinned (OpenSpec.ofChange Rows.textBytesSpec) :=
  OpenClaim.holds_of_wide 4 Try.f4 rfl rfl rfl rfl rfl rfl rfl ⟨rfl, rfl, rfl, rfl, rfl⟩ rfl rfl rfl rfl rfl (by kernel_rfl) Try.func4 (by kernel_rfl)
    (of_decide_eq_true (by kernel_rfl)) (by unfold Func.isWrapper; first | (rw [if_pos (by decide +kernel)]; kernel_rfl) | (rw [if_neg (by decide +kernel)]; exact ⟨rfl, rfl⟩))
    (fun os started H enc _ => lifted os started H enc)

/-- ████ THE STATEMENT ████ -/
theorem proved : Rows.TextBytesSaid := over
#print axioms proved
end Go.Proofs.Ytoccblnjalpcdaa.textBytes
