/- The contract of the law's pieces, as print.sh has it. -/
import Derived.Test.YtoccblnjalpcdaaProg
import Derived.Below
import Derived.Deep.Draws
import Derived.Deep.AppendLies
import Derived.Maps.AppendAt
import Derived.OwnWalk
import Derived.Laws.BytesArg
import Derived.Laws.MakeOwn
import Derived.Laws.OwnMore
import Derived.Deep.OwnRows
import Derived.Tactics
import Derived.Lib.ConvBytes
import Derived.Laws.Slices
import Derived.WalkKit
import Derived.KernelRfl
import Derived.RowKit3
import Derived.Deep.LoopGhost
import Derived.Deep.QuietTactic
import Derived.BigQuiet
import Derived.WideLaws
import Derived.Deep.DeepCutAuto
import Derived.Deep.CutBlock
import Derived.Deep.RegionHeld3
import Derived.Laws.Rows
import Derived.Lib.AppendStr
import Derived.ArgAppend
import Derived.Laws.IdiomCopy
import Derived.OrdersHeld
import Derived.Laws.BitsLemmas
import Derived.RowKit
import Derived.Test.YtoccblnjalpcdaaWWords
import Derived.Test.YtoccblnjalpcdaaWLast
import Derived.Test.YtoccblnjalpcdaaWTab
import Derived.Test.YtoccblnjalpcdaaWFour
import Derived.Test.YtoccblnjalpcdaaWQPut
import Derived.Test.YtoccblnjalpcdaaWApart
import Derived.Test.YtoccblnjalpcdaaWArr
import Derived.Test.YtoccblnjalpcdaaWZeros
import Derived.Test.YtoccblnjalpcdaaWFoot
import Derived.Test.YtoccblnjalpcdaaWKept
import Derived.Test.YtoccblnjalpcdaaWShare
import Derived.Test.YtoccblnjalpcdaaWN
import Derived.Test.YtoccblnjalpcdaaWFootNe
import Derived.Test.YtoccblnjalpcdaaWAt
import Derived.Test.YtoccblnjalpcdaaWEqStruct
import Derived.Test.YtoccblnjalpcdaaWRepsOne
import Derived.Test.YtoccblnjalpcdaaWInv
import Derived.Test.YtoccblnjalpcdaaWInvWords
import Derived.Test.YtoccblnjalpcdaaWGuard
import Derived.Test.YtoccblnjalpcdaaWNEv
import Derived.Test.YtoccblnjalpcdaaWMore
import Derived.Test.YtoccblnjalpcdaaN
namespace Go.Proofs.Ytoccblnjalpcdaa.Pcs
open Go.RowKit Go.Proofs.YtoccblnjalpcdaaW.PrintWords Go.Proofs.YtoccblnjalpcdaaW.PrintLast Go.Proofs.YtoccblnjalpcdaaW.PrintMore
attribute [local go_sem] max2_int min2_int max_two min_two max_three min_three max_four min_four   -- for this text's walks alone
set_option linter.unusedVariables false
set_option linter.unusedSimpArgs false



def errW : Option Int → Value
  | none => .nilIface
  | some c => .iface 0 (.int .i64 c)
theorem errW_none : errW none = .nilIface := rfl
theorem errW_some (c : Int) : errW (some c) = .iface 0 (.int .i64 c) := rfl

theorem info5 : (Try.prog.info? 5).map (fun i => (i.zero, i.size, i.bytes)) = some (some (.int .u8 0), 1, 1) := by kernel_rfl
theorem info9 : (Try.prog.info? 9).map (fun i => (i.zero, i.size, i.bytes)) = some (some (.string ⟨#[]⟩), 1, 16) := by kernel_rfl
/-! ### certpathlaw06_pieces: function 9 -/
def certpathlaw06_pieces.l0 : Nat → List Int → ByteArray → Int → Option (ByteArray)
  | 0, _, _, _ => none
  | k + 1, x0, x3, x4 => if x4 < (x0.length : Int) then (if x4 < 40 then ((some (([(⟨#[97]⟩ : ByteArray), (⟨#[65]⟩ : ByteArray), (⟨#[122]⟩ : ByteArray), (⟨#[90]⟩ : ByteArray), (⟨#[32]⟩ : ByteArray), (⟨#[32, 32]⟩ : ByteArray), (⟨#[92]⟩ : ByteArray), (⟨#[50, 99]⟩ : ByteArray), (⟨#[92, 50, 99]⟩ : ByteArray), (⟨#[92, 50, 67]⟩ : ByteArray), (⟨#[61]⟩ : ByteArray), (⟨#[44]⟩ : ByteArray), (⟨#[64]⟩ : ByteArray), (⟨#[95]⟩ : ByteArray), (⟨#[39]⟩ : ByteArray), (⟨#[195, 169]⟩ : ByteArray), (⟨#[197, 129]⟩ : ByteArray), (⟨#[195]⟩ : ByteArray), (⟨#[128]⟩ : ByteArray), (⟨#[0]⟩ : ByteArray), (⟨#[31]⟩ : ByteArray), (⟨#[127]⟩ : ByteArray), (⟨#[230, 151, 165]⟩ : ByteArray), (⟨#[237, 160, 128]⟩ : ByteArray), (⟨#[244, 143, 191, 191]⟩ : ByteArray), (⟨#[244, 144, 128, 128]⟩ : ByteArray), (⟨#[192, 128]⟩ : ByteArray), (⟨#[224, 128, 128]⟩ : ByteArray), (⟨#[91]⟩ : ByteArray), (⟨#[96]⟩ : ByteArray), (⟨#[48]⟩ : ByteArray), (⟨#[38]⟩ : ByteArray)] : List ByteArray) : List ByteArray)).bind fun y103 => (if 0 ≤ x4 then (if 0 ≤ (Int.tmod (rd x0 x4) 32) then (if (Int.tmod (rd x0 x4) 32) < (y103.length : Int) then (if x3.size + (rdOf ByteArray.empty y103 (Int.tmod (rd x0 x4) 32)).size ≤ 9223372036854775807 then (certpathlaw06_pieces.l0 k x0 (x3 ++ (rdOf ByteArray.empty y103 (Int.tmod (rd x0 x4) 32))) (wrap64 (x4 + 1))) else (none)) else (none)) else (none)) else (none))) else (some x3)) else (some x3)
def certpathlaw06_pieces.f (k : Nat) (l0 : List Int) : Option (ByteArray) := certpathlaw06_pieces.l0 k l0 (⟨#[]⟩ : ByteArray) 0
theorem certpathlaw06_pieces.mono_l : ∀ k, (∀ y0 y1 y2, LeO (certpathlaw06_pieces.l0 k y0 y1 y2) (certpathlaw06_pieces.l0 (k + 1) y0 y1 y2))
  | 0 => fun _ _ _ r h => by simp [certpathlaw06_pieces.l0] at h
  | k + 1 => by
    have ih0 := certpathlaw06_pieces.mono_l k
    · intro y0 y1 y2
      unfold certpathlaw06_pieces.l0
      repeat' first
      | (with_reducible exact ih0 _ _ _)
      | (with_reducible exact LeO.refl _)
      | (with_reducible exact LeO.none _)
      | (with_reducible refine LeO.ite ?_ ?_)
      | (with_reducible refine LeO.bind ?_ (fun _ => ?_))
      | exact ih0 _ _ _
      | exact LeO.none _
      | refine LeO.ite ?_ ?_
      | refine LeO.bind ?_ (fun _ => ?_)
theorem certpathlaw06_pieces.mono : ∀ a0 k, LeO (certpathlaw06_pieces.f k a0) (certpathlaw06_pieces.f (k + 1) a0) := by
  intro a0 k
  have ih0 := certpathlaw06_pieces.mono_l k
  unfold certpathlaw06_pieces.f
  repeat' first
      | (with_reducible exact ih0 _ _ _)
      | (with_reducible exact LeO.refl _)
      | (with_reducible exact LeO.none _)
      | (with_reducible refine LeO.ite ?_ ?_)
      | (with_reducible refine LeO.bind ?_ (fun _ => ?_))
      | exact ih0 _ _ _
      | exact LeO.none _
      | refine LeO.ite ?_ ?_
      | refine LeO.bind ?_ (fun _ => ?_)
set_option maxHeartbeats 8000000 in
set_option maxRecDepth 100000 in
theorem certpathlaw06_pieces.calls (k : Nat) (A0 : Option Addr) (c0 : Nat) (l0 : List Int) (r : ByteArray) (w : World) (hr0 : Kd.C (Kd.int .u8) w A0 l0.length l0) (hc0 : l0.length ≤ c0) (h : certpathlaw06_pieces.f k l0 = some r) :
    Calls Try.prog 9 #[.slice A0 l0.length c0] w fun e w' => e = .returned (.string r) ∧ Below w.heap.size w w' := by
  have HR0 := Aside0.mk hr0
  have HC0 := Aside0.mk hc0
  clear hr0 hc0
  have HB := Aside0.mk (Below.refl w.heap.size w)
  have H : (certpathlaw06_pieces.l0 k l0 (⟨#[]⟩ : ByteArray) 0) = some r := h
  clear h
  have H' := Aside0.mk H
  clear H
  go_enter Try.func9, Try.ntmps9
  go_wp2
  go_loopg [3, 4] k (fun kq v3 v4 w' => ∃ (x3_1 : ByteArray) (x4_1 : Int), v3 = .string x3_1 ∧ v4 = .int .i64 x4_1 ∧ Aside0 (certpathlaw06_pieces.l0 kq l0 x3_1 x4_1 = some r) ∧ Aside0 (kq ≤ k) ∧ Aside0 (Below w.heap.size w w'))
  case atStart => exact ⟨((⟨#[]⟩ : ByteArray)), (0), (by first | rfl | (simp; done) | (simp [*]; done)), (by first | rfl | (simp; done) | (simp [*]; done)), H', ⟨Nat.le_refl _⟩, ⟨by repeat (first | (with_reducible first | exact HB.out | apply below_alloc | apply pw_below_drewN | apply below_drew1) | exact HB.out)⟩⟩
  case round =>
    clear H'
    obtain ⟨x3_1, x4_1, rfl, rfl, HA, HK1, HB⟩ := hrel
    cases gk with
    | zero => exact absurd HA.out (by simp [certpathlaw06_pieces.l0])
    | succ k1 =>
      have H := HA.out
      clear HA
      simp only [certpathlaw06_pieces.l0] at H
      by_cases c2 : x4_1 < (l0.length : Int)
      · rw [if_pos c2] at H
        have c2b0 : decide (x4_1 < (l0.length : Int)) = true := decide_eq_true c2
        clear c2
        by_cases c3 : x4_1 < 40
        · rw [if_pos c3] at H
          have c3b0 : decide (x4_1 < 40) = true := decide_eq_true c3
          clear c3
          obtain ⟨y103, hy103⟩ : ∃ y_ : List ByteArray, y_ = (([(⟨#[97]⟩ : ByteArray), (⟨#[65]⟩ : ByteArray), (⟨#[122]⟩ : ByteArray), (⟨#[90]⟩ : ByteArray), (⟨#[32]⟩ : ByteArray), (⟨#[32, 32]⟩ : ByteArray), (⟨#[92]⟩ : ByteArray), (⟨#[50, 99]⟩ : ByteArray), (⟨#[92, 50, 99]⟩ : ByteArray), (⟨#[92, 50, 67]⟩ : ByteArray), (⟨#[61]⟩ : ByteArray), (⟨#[44]⟩ : ByteArray), (⟨#[64]⟩ : ByteArray), (⟨#[95]⟩ : ByteArray), (⟨#[39]⟩ : ByteArray), (⟨#[195, 169]⟩ : ByteArray), (⟨#[197, 129]⟩ : ByteArray), (⟨#[195]⟩ : ByteArray), (⟨#[128]⟩ : ByteArray), (⟨#[0]⟩ : ByteArray), (⟨#[31]⟩ : ByteArray), (⟨#[127]⟩ : ByteArray), (⟨#[230, 151, 165]⟩ : ByteArray), (⟨#[237, 160, 128]⟩ : ByteArray), (⟨#[244, 143, 191, 191]⟩ : ByteArray), (⟨#[244, 144, 128, 128]⟩ : ByteArray), (⟨#[192, 128]⟩ : ByteArray), (⟨#[224, 128, 128]⟩ : ByteArray), (⟨#[91]⟩ : ByteArray), (⟨#[96]⟩ : ByteArray), (⟨#[48]⟩ : ByteArray), (⟨#[38]⟩ : ByteArray)] : List ByteArray)) := ⟨_, rfl⟩
          replace H : (if 0 ≤ x4_1 then (if 0 ≤ (Int.tmod (rd l0 x4_1) 32) then (if (Int.tmod (rd l0 x4_1) 32) < (y103.length : Int) then (if x3_1.size + (rdOf ByteArray.empty y103 (Int.tmod (rd l0 x4_1) 32)).size ≤ 9223372036854775807 then (certpathlaw06_pieces.l0 k1 l0 (x3_1 ++ (rdOf ByteArray.empty y103 (Int.tmod (rd l0 x4_1) 32))) (wrap64 (x4_1 + 1))) else (none)) else (none)) else (none)) else (none)) = some r := by first | (rw [hy103]; with_reducible exact H) | (have H2_ := (Option.bind_some _ _).symm.trans H; rw [hy103]; with_reducible exact H2_) | (have H2_ := (Option.bind_some _ _).symm.trans H; with_reducible exact H2_) | with_reducible exact H | (rw [hy103]; exact H) | exact H
          have Ny103 := Aside0.mk hy103
          clear hy103
          by_cases c4 : 0 ≤ x4_1
          · rw [if_pos c4] at H
            have c4b0 : decide (0 ≤ x4_1) = true := decide_eq_true c4
            clear c4
            obtain ⟨ji5, hji5⟩ : ∃ j_ : Int, (Int.tmod (rd l0 x4_1) 32) = j_ := ⟨_, rfl⟩
            replace H : (if 0 ≤ (ji5) then (if (ji5) < (y103.length : Int) then (if x3_1.size + (rdOf ByteArray.empty y103 (ji5)).size ≤ 9223372036854775807 then (certpathlaw06_pieces.l0 k1 l0 (x3_1 ++ (rdOf ByteArray.empty y103 (ji5))) (wrap64 (x4_1 + 1))) else (none)) else (none)) else (none)) = some r := by first | (rw [hji5] at H; exact H) | (simp only [hji5] at H ⊢; exact H)
            by_cases c6 : 0 ≤ (ji5)
            · rw [if_pos c6] at H
              have c6b0 : decide (0 ≤ (ji5)) = true := decide_eq_true c6
              clear c6
              by_cases c7 : (ji5) < (y103.length : Int)
              · rw [if_pos c7] at H
                have c7b0 : decide ((ji5) < (y103.length : Int)) = true := decide_eq_true c7
                clear c7
                by_cases c8 : x3_1.size + (rdOf ByteArray.empty y103 (ji5)).size ≤ 9223372036854775807
                · rw [if_pos c8] at H
                  have c8b0 := eq_true c8
                  have c8b1 : decide (x3_1.size + (rdOf ByteArray.empty y103 (ji5)).size ≤ 9223372036854775807) = true := decide_eq_true c8
                  try have c8b2 : (9223372036854775807 < x3_1.size + (rdOf ByteArray.empty y103 (ji5)).size) = False := eq_false (Nat.not_lt.2 c8)
                  have H' := Aside0.mk H
                  clear H
                  go_wp2_with (first | ((with_reducible refine gate_dst (N := 16) rfl ?_); refine Kd.R_lit Kd.string _ 9 ?hg (N := 16) ?hd (xs := ([(⟨#[97]⟩ : ByteArray), (⟨#[65]⟩ : ByteArray), (⟨#[122]⟩ : ByteArray), (⟨#[90]⟩ : ByteArray), (⟨#[32]⟩ : ByteArray), (⟨#[32, 32]⟩ : ByteArray), (⟨#[92]⟩ : ByteArray), (⟨#[50, 99]⟩ : ByteArray), (⟨#[92, 50, 99]⟩ : ByteArray), (⟨#[92, 50, 67]⟩ : ByteArray), (⟨#[61]⟩ : ByteArray), (⟨#[44]⟩ : ByteArray), (⟨#[64]⟩ : ByteArray), (⟨#[95]⟩ : ByteArray), (⟨#[39]⟩ : ByteArray), (⟨#[195, 169]⟩ : ByteArray), (⟨#[197, 129]⟩ : ByteArray), (⟨#[195]⟩ : ByteArray), (⟨#[128]⟩ : ByteArray), (⟨#[0]⟩ : ByteArray), (⟨#[31]⟩ : ByteArray), (⟨#[127]⟩ : ByteArray), (⟨#[230, 151, 165]⟩ : ByteArray), (⟨#[237, 160, 128]⟩ : ByteArray), (⟨#[244, 143, 191, 191]⟩ : ByteArray), (⟨#[244, 144, 128, 128]⟩ : ByteArray), (⟨#[192, 128]⟩ : ByteArray), (⟨#[224, 128, 128]⟩ : ByteArray), (⟨#[91]⟩ : ByteArray), (⟨#[96]⟩ : ByteArray), (⟨#[48]⟩ : ByteArray), (⟨#[38]⟩ : ByteArray)] : List ByteArray)) (inner := [.string (⟨#[97]⟩ : ByteArray), .string (⟨#[65]⟩ : ByteArray), .string (⟨#[122]⟩ : ByteArray), .string (⟨#[90]⟩ : ByteArray), .string (⟨#[32]⟩ : ByteArray), .string (⟨#[32, 32]⟩ : ByteArray), .string (⟨#[92]⟩ : ByteArray), .string (⟨#[50, 99]⟩ : ByteArray), .string (⟨#[92, 50, 99]⟩ : ByteArray), .string (⟨#[92, 50, 67]⟩ : ByteArray), .string (⟨#[61]⟩ : ByteArray), .string (⟨#[44]⟩ : ByteArray), .string (⟨#[64]⟩ : ByteArray), .string (⟨#[95]⟩ : ByteArray), .string (⟨#[39]⟩ : ByteArray), .string (⟨#[195, 169]⟩ : ByteArray), .string (⟨#[197, 129]⟩ : ByteArray), .string (⟨#[195]⟩ : ByteArray), .string (⟨#[128]⟩ : ByteArray), .string (⟨#[0]⟩ : ByteArray), .string (⟨#[31]⟩ : ByteArray), .string (⟨#[127]⟩ : ByteArray), .string (⟨#[230, 151, 165]⟩ : ByteArray), .string (⟨#[237, 160, 128]⟩ : ByteArray), .string (⟨#[244, 143, 191, 191]⟩ : ByteArray), .string (⟨#[244, 144, 128, 128]⟩ : ByteArray), .string (⟨#[192, 128]⟩ : ByteArray), .string (⟨#[224, 128, 128]⟩ : ByteArray), .string (⟨#[91]⟩ : ByteArray), .string (⟨#[96]⟩ : ByteArray), .string (⟨#[48]⟩ : ByteArray), .string (⟨#[38]⟩ : ByteArray)]) (ok := fun _ => True) (okp := fun _ => True) ?hr ?hp (fun _ hk => hk) trivial (Below.refl _ _) (Nat.le_refl _) (by simp) ?_; (case hd => rfl); (case hg => rfl); (case hr => first | (go_simp; done) | (go_simp; rfl)); (case hp => exact (Reps.one (show Kd.M Kd.string _ _ _ (⟨#[97]⟩ : ByteArray) [.string (⟨#[97]⟩ : ByteArray)] from rfl) (Reps.one (show Kd.M Kd.string _ _ _ (⟨#[65]⟩ : ByteArray) [.string (⟨#[65]⟩ : ByteArray)] from rfl) (Reps.one (show Kd.M Kd.string _ _ _ (⟨#[122]⟩ : ByteArray) [.string (⟨#[122]⟩ : ByteArray)] from rfl) (Reps.one (show Kd.M Kd.string _ _ _ (⟨#[90]⟩ : ByteArray) [.string (⟨#[90]⟩ : ByteArray)] from rfl) (Reps.one (show Kd.M Kd.string _ _ _ (⟨#[32]⟩ : ByteArray) [.string (⟨#[32]⟩ : ByteArray)] from rfl) (Reps.one (show Kd.M Kd.string _ _ _ (⟨#[32, 32]⟩ : ByteArray) [.string (⟨#[32, 32]⟩ : ByteArray)] from rfl) (Reps.one (show Kd.M Kd.string _ _ _ (⟨#[92]⟩ : ByteArray) [.string (⟨#[92]⟩ : ByteArray)] from rfl) (Reps.one (show Kd.M Kd.string _ _ _ (⟨#[50, 99]⟩ : ByteArray) [.string (⟨#[50, 99]⟩ : ByteArray)] from rfl) (Reps.one (show Kd.M Kd.string _ _ _ (⟨#[92, 50, 99]⟩ : ByteArray) [.string (⟨#[92, 50, 99]⟩ : ByteArray)] from rfl) (Reps.one (show Kd.M Kd.string _ _ _ (⟨#[92, 50, 67]⟩ : ByteArray) [.string (⟨#[92, 50, 67]⟩ : ByteArray)] from rfl) (Reps.one (show Kd.M Kd.string _ _ _ (⟨#[61]⟩ : ByteArray) [.string (⟨#[61]⟩ : ByteArray)] from rfl) (Reps.one (show Kd.M Kd.string _ _ _ (⟨#[44]⟩ : ByteArray) [.string (⟨#[44]⟩ : ByteArray)] from rfl) (Reps.one (show Kd.M Kd.string _ _ _ (⟨#[64]⟩ : ByteArray) [.string (⟨#[64]⟩ : ByteArray)] from rfl) (Reps.one (show Kd.M Kd.string _ _ _ (⟨#[95]⟩ : ByteArray) [.string (⟨#[95]⟩ : ByteArray)] from rfl) (Reps.one (show Kd.M Kd.string _ _ _ (⟨#[39]⟩ : ByteArray) [.string (⟨#[39]⟩ : ByteArray)] from rfl) (Reps.one (show Kd.M Kd.string _ _ _ (⟨#[195, 169]⟩ : ByteArray) [.string (⟨#[195, 169]⟩ : ByteArray)] from rfl) (Reps.one (show Kd.M Kd.string _ _ _ (⟨#[197, 129]⟩ : ByteArray) [.string (⟨#[197, 129]⟩ : ByteArray)] from rfl) (Reps.one (show Kd.M Kd.string _ _ _ (⟨#[195]⟩ : ByteArray) [.string (⟨#[195]⟩ : ByteArray)] from rfl) (Reps.one (show Kd.M Kd.string _ _ _ (⟨#[128]⟩ : ByteArray) [.string (⟨#[128]⟩ : ByteArray)] from rfl) (Reps.one (show Kd.M Kd.string _ _ _ (⟨#[0]⟩ : ByteArray) [.string (⟨#[0]⟩ : ByteArray)] from rfl) (Reps.one (show Kd.M Kd.string _ _ _ (⟨#[31]⟩ : ByteArray) [.string (⟨#[31]⟩ : ByteArray)] from rfl) (Reps.one (show Kd.M Kd.string _ _ _ (⟨#[127]⟩ : ByteArray) [.string (⟨#[127]⟩ : ByteArray)] from rfl) (Reps.one (show Kd.M Kd.string _ _ _ (⟨#[230, 151, 165]⟩ : ByteArray) [.string (⟨#[230, 151, 165]⟩ : ByteArray)] from rfl) (Reps.one (show Kd.M Kd.string _ _ _ (⟨#[237, 160, 128]⟩ : ByteArray) [.string (⟨#[237, 160, 128]⟩ : ByteArray)] from rfl) (Reps.one (show Kd.M Kd.string _ _ _ (⟨#[244, 143, 191, 191]⟩ : ByteArray) [.string (⟨#[244, 143, 191, 191]⟩ : ByteArray)] from rfl) (Reps.one (show Kd.M Kd.string _ _ _ (⟨#[244, 144, 128, 128]⟩ : ByteArray) [.string (⟨#[244, 144, 128, 128]⟩ : ByteArray)] from rfl) (Reps.one (show Kd.M Kd.string _ _ _ (⟨#[192, 128]⟩ : ByteArray) [.string (⟨#[192, 128]⟩ : ByteArray)] from rfl) (Reps.one (show Kd.M Kd.string _ _ _ (⟨#[224, 128, 128]⟩ : ByteArray) [.string (⟨#[224, 128, 128]⟩ : ByteArray)] from rfl) (Reps.one (show Kd.M Kd.string _ _ _ (⟨#[91]⟩ : ByteArray) [.string (⟨#[91]⟩ : ByteArray)] from rfl) (Reps.one (show Kd.M Kd.string _ _ _ (⟨#[96]⟩ : ByteArray) [.string (⟨#[96]⟩ : ByteArray)] from rfl) (Reps.one (show Kd.M Kd.string _ _ _ (⟨#[48]⟩ : ByteArray) [.string (⟨#[48]⟩ : ByteArray)] from rfl) (Reps.one (show Kd.M Kd.string _ _ _ (⟨#[38]⟩ : ByteArray) [.string (⟨#[38]⟩ : ByteArray)] from rfl) (Reps.none _ _)))))))))))))))))))))))))))))))))); intro v104 w9 ho10 hb hg_ hnew_; clear hg_ hnew_; (first | rw [← Ny103.out] at ho10 | (simp only [Int.reduceToNat] at ho10; rw [← Ny103.out] at ho10)); have n0_ := Aside0.mk (Kd.R_lower ho10 (below_size (by repeat (first | (with_reducible first | exact HB.out | apply below_alloc | apply pw_below_drewN | apply below_drew1) | exact HB.out)))); have n1_ := Aside0.mk (below_step (by repeat (first | (with_reducible first | exact HB.out | apply below_alloc | apply pw_below_drewN | apply below_drew1) | exact HB.out)) hb); clear HB; have HO105 := n0_; have HB := n1_; clear n0_ n1_; clear hb ho10; have p106 : 0 ≤ (x4_1 : Int) := of_decide_eq_true (by first | (with_reducible assumption) | assumption); have q106 : x4_1 < (l0.length : Int) := of_decide_eq_true (by first | (with_reducible assumption) | assumption); obtain ⟨ad106, e106, hx106_0⟩ := Kd.at_int HR0.out x4_1 p106 q106; cases e106; replace hx106_0 := (HB.out.cell (World.block_lt_of_cell? w _ hx106_0)).trans hx106_0; replace p106 := eq_true p106; replace q106 := eq_true q106; obtain ⟨Ao11, co11, eo11⟩ := Kd.R_slice HO105.out; subst eo11; have p107 : 0 ≤ ((ji5) : Int) := of_decide_eq_true (by first | (with_reducible assumption) | assumption); have q107 : (ji5) < (y103.length : Int) := of_decide_eq_true (by first | (with_reducible assumption) | assumption); obtain ⟨ad107, e107, hx107_0⟩ := Kd.at_string (Kd.R_reads' HO105.out).2.2 (ji5) p107 q107; cases e107; replace p107 := eq_true p107; replace q107 := eq_true q107))
                  go_roundg k1
                  case measure => have := HK1.out; omega
                  case rel => exact ⟨(x3_1 ++ (rdOf ByteArray.empty y103 (ji5))), (wrap64 (x4_1 + 1)), (by first | rfl | (simp; done) | (simp only [← hji5] <;> (first | rfl | simp)) | (simp [*]; done)), (by first | rfl | (simp; done) | (simp [*]; done)), H', ⟨by have := HK1.out; omega⟩, ⟨by repeat (first | (with_reducible first | exact HB.out | apply below_alloc | apply pw_below_drewN | apply below_drew1) | exact HB.out)⟩⟩
                · rw [if_neg c8] at H
                  exact absurd H (by simp)
              · rw [if_neg c7] at H
                exact absurd H (by simp)
            · rw [if_neg c6] at H
              exact absurd H (by simp)
          · rw [if_neg c4] at H
            exact absurd H (by simp)
        · rw [if_neg c3] at H
          have c3b0 : decide (x4_1 < 40) = false := decide_eq_false c3
          clear c3
          obtain rfl := Option.some.inj H
          go_wp2
          go_ret
          exact ⟨by first | rfl | (simp [errW_none, errW_some] <;> rfl) | (simp [*, errW_none, errW_some] <;> rfl), by repeat (first | (with_reducible first | exact HB.out | apply below_alloc | apply pw_below_drewN | apply below_drew1) | exact HB.out)⟩
      · rw [if_neg c2] at H
        have c2b0 : decide (x4_1 < (l0.length : Int)) = false := decide_eq_false c2
        clear c2
        obtain rfl := Option.some.inj H
        go_wp2
        go_ret
        exact ⟨by first | rfl | (simp [errW_none, errW_some] <;> rfl) | (simp [*, errW_none, errW_some] <;> rfl), by repeat (first | (with_reducible first | exact HB.out | apply below_alloc | apply pw_below_drewN | apply below_drew1) | exact HB.out)⟩


end Go.Proofs.Ytoccblnjalpcdaa.Pcs
