/- certpathlaw33.ValidateNames returns true for all of its arguments; they read afterwards as before. No condition beyond the given card's own. -/
import Derived.Test.YtllfnhapnndngaaGreatDoorTie
import Derived.Test.YtllfnhapnndngaaGreatDoorCards
import Derived.Test.YtllfnhapnndngaaGreatDoorGNc
import Derived.Test.YtllfnhapnndngaaGreatDoorGF
import Derived.Test.YtllfnhapnndngaaGreatDoorLM2
import Derived.WalkKit
import Derived.ProofKit
import Derived.OpenShut
import Derived.Below
import Derived.Lay
import Derived.LaidOnce
import Derived.SevenTiedAt
namespace Go.Proofs.YtllfnhapnndngaaGreatDoor.validateNames
open Go.ChangeShapes Go.WideShapes Go.ChangeAt Go.RowKit
set_option linter.unusedVariables false

theorem own : ownKnob Tryz.prog.godebug = none := by kernel_rfl
set_option maxRecDepth 1000000 in
theorem noInit : Tryz.prog.inits.idxOf? 5 = none := by kernel_rfl
set_option maxRecDepth 1000000 in
theorem shaped (os : Os) : ((World.laidAll Tryz.prog os Rows.validateNamesRow.laid).forCall (fun _ _ => 0) ⟨#[], #[.int .i64 0, .int .i64 0, .bool false, .bool false], []⟩).Shaped Tryz.prog :=
  World.shaped_of_ZipB (by kernel_rfl) (by kernel_rfl)
set_option maxRecDepth 1000000 in
theorem laidThere (os : Os) (args : Array Value) : laidMetH Tryz.prog Rows.validateNamesRow.laid ((World.laidAll Tryz.prog os Rows.validateNamesRow.laid).forCall (fun _ _ => 0) ⟨#[], args, []⟩).memory := by
  rw [MakeChecks.laidMetH_plain _ _ _ (by kernel_rfl)]
  exact laidMet_laidAll _ (by kernel_rfl) (by kernel_rfl)

set_option maxRecDepth 1000000 in
theorem lifted (os : Os) (started : os.Started) (H : Type) (enc : TypeId × Value → H) :
    ReturnsInHanded {} Tryz.checked os 5 .any (fun w args => (Rows.validateNamesSpec.pre enc Tryz.prog Tryz.f5 [] false w args ∧ laidMetH Tryz.prog Rows.validateNamesRow.laid w) ∧ sizedMet enc Tryz.prog Tryz.f5 (OpenSpec.ofChange Rows.validateNamesSpec) false w args)
      (Rows.validateNamesSpec.post enc Tryz.prog Tryz.f5 false true false false) := by
  refine returnsInHanded_of_change_and (C := Tryz.checked) (X := fun w _ => laidMetH Tryz.prog Rows.validateNamesRow.laid w) (fun _ _ _ hh h => h.of_heap hh) own started noInit Tryz.func5
    (ChangeSpec.witness_shaped (enc := enc) (C := Tryz.checked) (os := os) (X := fun w _ => laidMetH Tryz.prog Rows.validateNamesRow.laid w) false (World.laidAll Tryz.prog os Rows.validateNamesRow.laid) #[.int .i64 0, .int .i64 0, .bool false, .bool false] 8 (World.laidAll_os _ _ _)
      (shaped os) (by kernel_rfl) (by kernel_rfl) (by kernel_rfl) (laidThere os _)) ?_
  intro W base args ds gs before hval0 hW _ _ hL _
  have hval : ∀ (j : Nat) t v, Tryz.f5.params[j]? = some t → args[j]? = some v → Value.okWide Tryz.prog W .any base t v := hval0
  have hW' := hW
  obtain ⟨p, q, hA0, hV, rfl, hfz, hnd⟩ := hW
  have hA : DataW.TrodAll enc Tryz.prog W 0 (fun _ => true) true Tryz.f5.params.toList args.toList ds p := hA0
  rw [Tryz.params5] at hA hval
  obtain ⟨v0, vs0, d0, ds0, p0, q0, hargs, rfl, rfl, h0, r0⟩ := trodAll_cons hA
  obtain ⟨v1, vs1, d1, ds1, p1, q1, rfl, rfl, rfl, h1, r1⟩ := trodAll_cons r0
  obtain ⟨v2, vs2, d2, ds2, p2, q2, rfl, rfl, rfl, h2, r2⟩ := trodAll_cons r1
  obtain ⟨v3, vs3, d3, ds3, p3, q3, rfl, rfl, rfl, h3, r3⟩ := trodAll_cons r2
  obtain ⟨rfl, rfl, rfl⟩ := trodAll_nil r3
  obtain rfl : args = #[v0, v1, v2, v3] := by cases args; simp_all
  obtain ⟨rfl, rfl⟩ := trodVars_none hV
  obtain ⟨a0, rfl, rfl, rfl, w0⟩ := open_int Tryz.underlying3 (hval 0 3 v0 rfl rfl) h0
  obtain ⟨a1, rfl, rfl, rfl, w1⟩ := open_int Tryz.underlying3 (hval 1 3 v1 rfl rfl) h1
  obtain ⟨a2, rfl, rfl, rfl⟩ := open_bool Tryz.underlying4 (hval 2 4 v2 rfl rfl) h2
  obtain ⟨a3, rfl, rfl, rfl⟩ := open_bool Tryz.underlying4 (hval 3 4 v3 rfl rfl) h3
  clear hA0 hval0
  refine (E.walkM a0 a1 a2 a3 W).mono fun e W' ⟨he, bel⟩ => ?_
  subst he
  exact ⟨_, rfl, _, _, _, [], _, [], hW', trodAll_mk1 (shut_bool Tryz.underlying4 _), (trodAll_cons_mk (shut_int Tryz.underlying3 w0) (trodAll_cons_mk (shut_int Tryz.underlying3 w1) (trodAll_cons_mk (shut_bool Tryz.underlying4 _) (trodAll_cons_mk (shut_bool Tryz.underlying4 _) trodAll_mk0)))), rfl, World.keptBut_mono (fun _ h => h.elim) bel, fun h => by cases h⟩

set_option maxRecDepth 1000000 in
theorem over : Rows.validateNamesRow.holds Tryz.pinned (OpenSpec.ofChange Rows.validateNamesSpec) :=
  OpenClaim.holds_of_wide 5 Tryz.f5 rfl rfl rfl rfl rfl rfl rfl ⟨rfl, rfl, rfl, rfl, rfl⟩ rfl rfl rfl rfl rfl (by kernel_rfl) Tryz.func5 fNJoined
    (of_decide_eq_true (by kernel_rfl)) (by unfold Func.isWrapper; first | (rw [if_pos (by decide +kernel)]; kernel_rfl) | (rw [if_neg (by decide +kernel)]; exact ⟨rfl, rfl⟩))
    (fun os started H enc _ => lifted os started H enc)

theorem goesNot (g : FuncId) : (Tryz.pinned.checked.prog.funcs[g]?).any Func.goes = false := by
  have h := fGoes
  rw [Array.any_eq_false] at h
  cases hg : Tryz.pinned.checked.prog.funcs[g]? with
  | none => rfl
  | some fn =>
    obtain ⟨hlt, rfl⟩ := Array.getElem?_eq_some_iff.1 hg
    simpa using h g hlt
theorem goes : false = Rows.validateNamesRow.goesBy Tryz.pinned.checked.prog := by
  have h1 : ∀ f, Tryz.pinned.checked.prog.goes f = false := by
    intro f
    unfold Program.goes
    rw [fGoes, Bool.and_false, Bool.or_false]
    exact List.any_eq_false.2 fun g _ => by rw [goesNot]; simp
  show false = ((Tryz.pinned.checked.prog.funcNamed "certpath/certpathlaw33.ValidateNames").any Tryz.pinned.checked.prog.goes || false)
  cases Tryz.pinned.checked.prog.funcNamed "certpath/certpathlaw33.ValidateNames" with
  | none => rfl
  | some f => simp [h1]

/-- ████ THE STATEMENT ████ -/
theorem proved : Rows.ValidateNamesCardSaid :=
  Claim7.holds_tied_plain_at .later [] [.data, .pinned] true (true, "47ea05b9f053f20987e873cea3dbb3cafa7f10433abf0d649cb87bf21ca4a295") false
    over (fun _ h => by cases h) (by kernel_rfl) (fun _ h => by cases h) validateNames_row_tie rfl ⟨rfl, rfl⟩ (by kernel_rfl) rfl
    (fun f fn hf hfn => by
      obtain rfl : f = 5 := Option.some.inj ((show Tryz.prog.funcNamed "certpath/certpathlaw33.ValidateNames" = some 5 by kernel_rfl).symm.trans hf) |>.symm
      obtain rfl : fn = Tryz.f5 := (Option.some.inj (Tryz.func5.symm.trans hfn)).symm
      exact ⟨by kernel_rfl, fun j t ht => by
        rw [Tryz.params5] at ht
        have hm : t ∈ [3, 3, 4, 4] := by simpa using Array.mem_of_getElem? ht
        have hall : ([3, 3, 4, 4].all fun u => !Tryz.prog.wantsStandIn u) = true := by kernel_rfl
        exact (show Tryz.prog.wantsStandIn t = false by simpa using List.all_eq_true.1 hall t hm)⟩)
    goes
#print axioms proved
end Go.Proofs.YtllfnhapnndngaaGreatDoor.validateNames
