/- ValidateErrors gives true at every number. -/
import Derived.Test.YtapinochbblfbaaGreatDoorFQ
namespace Go.Proofs.YtapinochbblfbaaGreatDoor.E
open Go Go.Proofs
set_option maxRecDepth 1000000
set_option linter.unusedVariables false
theorem zV_eq (n : Int) (b : Bool) : zV n b = Int.tmod (IntKind.i64.wrap (Int.tmod n 11 + 11)) 11 := by kernel_rfl
theorem zV_range (n : Int) (b : Bool) : 0 ≤ zV n b ∧ zV n b < 11 := by
  rw [zV_eq]
  have h1 := Int.tmod_lt_of_pos n (show (0 : Int) < 11 by omega)
  have h2 : -11 < Int.tmod n 11 := Int.lt_tmod_of_pos n (by omega)
  have h3 : IntKind.i64.wrap (Int.tmod n 11 + 11) = Int.tmod n 11 + 11 := by
    simp [IntKind.wrap, IntKind.signed, IntKind.bits]
    omega
  rw [h3]
  have h4 := Int.tmod_lt_of_pos (Int.tmod n 11 + 11) (show (0 : Int) < 11 by omega)
  have h5 := Int.tmod_nonneg 11 (show (0 : Int) ≤ Int.tmod n 11 + 11 by omega)
  exact ⟨h5, h4⟩
noncomputable def outV (o : Option (XE × Tr AV × AH)) : Bool := match o with
  | some (e, r, H) => (match e with
    | .exit _ => false
    | _ => match resL env.T H r d3.res with
      | some [.bool true] => true
      | _ => false)
  | none => false
noncomputable def postV (k : Int) (n : Int) (b : Bool) : Bool := outV (cV c2 ((rV n b).set 0 (.int .i64 k)) (hV n b))
theorem post_0_true (n : Int) : postV 0 n true = true := by kernel_rfl
theorem post_0_false (n : Int) : postV 0 n false = true := by kernel_rfl
theorem post_1_true (n : Int) : postV 1 n true = true := by kernel_rfl
theorem post_1_false (n : Int) : postV 1 n false = true := by kernel_rfl
theorem post_2_true (n : Int) : postV 2 n true = true := by kernel_rfl
theorem post_2_false (n : Int) : postV 2 n false = true := by kernel_rfl
theorem post_3_true (n : Int) : postV 3 n true = true := by kernel_rfl
theorem post_3_false (n : Int) : postV 3 n false = true := by kernel_rfl
theorem post_4_true (n : Int) : postV 4 n true = true := by kernel_rfl
theorem post_4_false (n : Int) : postV 4 n false = true := by kernel_rfl
theorem post_5_true (n : Int) : postV 5 n true = true := by kernel_rfl
theorem post_5_false (n : Int) : postV 5 n false = true := by kernel_rfl
theorem post_6_true (n : Int) : postV 6 n true = true := by kernel_rfl
theorem post_6_false (n : Int) : postV 6 n false = true := by kernel_rfl
theorem post_7_true (n : Int) : postV 7 n true = true := by kernel_rfl
theorem post_7_false (n : Int) : postV 7 n false = true := by kernel_rfl
theorem post_8_true (n : Int) : postV 8 n true = true := by kernel_rfl
theorem post_8_false (n : Int) : postV 8 n false = true := by kernel_rfl
theorem post_9_true (n : Int) : postV 9 n true = true := by kernel_rfl
theorem post_9_false (n : Int) : postV 9 n false = true := by kernel_rfl
theorem post_10_true (n : Int) : postV 10 n true = true := by kernel_rfl
theorem post_10_false (n : Int) : postV 10 n false = true := by kernel_rfl
theorem post_all (k n : Int) (b : Bool) (h0 : 0 ≤ k) (h1 : k < 11) : postV k n b = true := by
  obtain ⟨m, rfl⟩ : ∃ m : Nat, k = (m : Int) := ⟨k.toNat, by omega⟩
  match m, (by omega : m < 11) with
  | 0, _ => exact match b with | true => post_0_true n | false => post_0_false n
  | 1, _ => exact match b with | true => post_1_true n | false => post_1_false n
  | 2, _ => exact match b with | true => post_2_true n | false => post_2_false n
  | 3, _ => exact match b with | true => post_3_true n | false => post_3_false n
  | 4, _ => exact match b with | true => post_4_true n | false => post_4_false n
  | 5, _ => exact match b with | true => post_5_true n | false => post_5_false n
  | 6, _ => exact match b with | true => post_6_true n | false => post_6_false n
  | 7, _ => exact match b with | true => post_7_true n | false => post_7_false n
  | 8, _ => exact match b with | true => post_8_true n | false => post_8_false n
  | 9, _ => exact match b with | true => post_9_true n | false => post_9_false n
  | 10, _ => exact match b with | true => post_10_true n | false => post_10_false n
  | m + 11, h => exact absurd h (by omega)
theorem thenV_assoc (o : Option (XE × Tr AV × AH)) (k m : Tr AV → AH → Option (XE × Tr AV × AH)) : thenV o (fun r H => thenV (k r H) m) = thenV (thenV o k) m := by
  cases o with
  | none => rfl
  | some p =>
    obtain ⟨e, r, H⟩ := p
    cases e <;> rfl
theorem whole_eq (n : Int) (b : Bool) : cV d3.code (Tr.leaf.puts 0 [.int .i64 n, .bool b]) AH.none = cV c2 ((rV n b).set 0 (.int .i64 (zV n b))) (hV n b) := by
  rw [code_eq, cV_seq]
  have h : thenV (cV c0 (Tr.leaf.puts 0 [.int .i64 n, .bool b]) AH.none) (cV (.seq c1 c2)) = thenV (preV n b) (cV c2) := thenV_assoc _ (cV c1) (cV c2)
  rw [h, preV_eq]
  rfl
theorem hooks_none (n : Int) (b : Bool) : hooksV 3 [.int .i64 n, .bool b] AH.none = none := by kernel_rfl
theorem nt_ok : Nat.ble 2 d3.nt = true := by kernel_rfl
theorem run_succ (h : CF) (k : Nat) (f : FuncId) (xs : List AV) (H : AH) : runF h (k + 1) f xs H = match h f xs H with
    | some p => some p
    | none => (funF fnT f).bind fun d => callE env (runF h k) (fun nt => drawE env (runF h k) nt) 100000 d xs H := rfl
theorem ve_run (n : Int) (b : Bool) : ∃ H', runF hooksV 60 3 [.int .i64 n, .bool b] AH.none = some (.bool true, H') := by
  have hp := post_all (zV n b) n b (zV_range n b).1 (zV_range n b).2
  unfold postV at hp
  rw [← whole_eq] at hp
  rw [run_succ, hooks_none, d3_eq]
  show ∃ H', callE env (runF hooksV 59) (fun nt => drawE env (runF hooksV 59) nt) 100000 d3 [.int .i64 n, .bool b] AH.none = some (.bool true, H')
  have e : callE env (runF hooksV 59) (fun nt => drawE env (runF hooksV 59) nt) 100000 d3 [.int .i64 n, .bool b] AH.none = bif Nat.ble 2 d3.nt then
      (cV d3.code (Tr.leaf.puts 0 [.int .i64 n, .bool b]) AH.none).bind fun p => match p.1 with
        | .exit _ => none
        | _ => (resL env.T p.2.2 p.2.1 d3.res).bind fun l => some (resV l, p.2.2)
      else none := rfl
  rw [e, nt_ok]
  simp only [cond_true]
  unfold outV at hp
  split at hp
  · rename_i ex r H hx
    rw [hx]
    simp only [Option.bind_some]
    cases ex with
    | exit id => cases hp
    | normal =>
      dsimp only at hp ⊢
      split at hp
      · rename_i hr; rw [hr]; exact ⟨H, rfl⟩
      · cases hp
    | ret =>
      dsimp only at hp ⊢
      split at hp
      · rename_i hr; rw [hr]; exact ⟨H, rfl⟩
      · cases hp
  · cases hp
theorem walkVE (n : Int) (b : Bool) (w : World) :
    Calls Tryz.prog 3 #[.int .i64 n, .bool b] w fun e w' => e = .returned (.bool true) ∧ w.keptBut w' (fun _ => False) := by
  obtain ⟨H', h⟩ := ve_run n b
  obtain ⟨_, q⟩ := runF_ok hooksV_ok hooksV_log 60 3 _ AH.none _ H' h rho0 w #[.int .i64 n, .bool b] (rel_none w) (.cons _ _ _ _ (.int _ _) (.cons _ _ _ _ (.bool _) .nil))
  refine q.mono ?_
  rintro e w' ⟨ρ', y, rfl, r1, r2, r3⟩
  cases r1
  refine ⟨rfl, r3.os, r3.output, fun i hi => ?_⟩
  have hh : ¬ Held rho0 AH.none i := by
    rintro ⟨f, v, im, hl, hi, _⟩
    cases hi
  rw [r3.frame i hi hh]
  cases hc : w.heap[i]? with
  | none => rfl
  | some o =>
    cases o with
    | cells c t fr => exact ⟨rfl, rfl, rfl, fun _ _ => rfl⟩
    | map es clock => exact .inr ⟨rfl, rfl⟩
    | _ => rfl
end Go.Proofs.YtapinochbblfbaaGreatDoor.E
