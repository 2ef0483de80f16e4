/- The empty table; pieces of code, ranges of numbers. -/
import Derived.Test.YtllfnhapnndngaaGreatDoorFM
namespace Go.Proofs.YtllfnhapnndngaaGreatDoor.E
open Go Go.Proofs
set_option maxRecDepth 1000000
noncomputable def tabA0 : Tr (List EntD) :=
  .node none .leaf .leaf
theorem tabA0_ok : AllT (TabDOk Tryz.prog) tabA0 :=
  .bare .leaf .leaf
/-- Pieces of code, one after the other. -/
noncomputable def seqX (c : Code) : Code := match c with | .seq a _ => a | _ => .skip
noncomputable def seqY (c : Code) : Code := match c with | .seq _ b => b | _ => .skip
noncomputable def dropC (n : Nat) (c : Code) : Code := Nat.rec (motive := fun _ => Code) c (fun _ ih => seqY ih) n
noncomputable def seqsC (l : List Code) (rest : Code) : Code := List.rec (motive := fun _ => Code) rest (fun c _ ih => .seq c ih) l
noncomputable def thenW (o : Option (XE × Tr AV × AH)) (k : Tr AV → AH → Option (XE × Tr AV × AH)) : Option (XE × Tr AV × AH) := o.bind fun p => match p.1 with
  | .normal => k p.2.1 p.2.2
  | .exit id => some (.exit id, p.2)
  | .ret => some (.ret, p.2)
theorem thenW_normal (r : Tr AV) (H : AH) (k : Tr AV → AH → Option (XE × Tr AV × AH)) : thenW (some (.normal, r, H)) k = k r H := rfl
theorem thenW_assoc (o : Option (XE × Tr AV × AH)) (k m : Tr AV → AH → Option (XE × Tr AV × AH)) : thenW o (fun r H => thenW (k r H) m) = thenW (thenW o k) m := by
  cases o with
  | none => rfl
  | some p =>
    obtain ⟨e, r, H⟩ := p
    cases e <;> rfl
noncomputable def runsC (cv : Code → Tr AV → AH → Option (XE × Tr AV × AH)) (l : List Code) : Tr AV → AH → Option (XE × Tr AV × AH) :=
  List.rec (motive := fun _ => Tr AV → AH → Option (XE × Tr AV × AH)) (fun r H => some (.normal, r, H)) (fun c _ ih r H => thenW (cv c r H) ih) l
theorem runsC_ok {cv : Code → Tr AV → AH → Option (XE × Tr AV × AH)} (hs : ∀ a b r H, cv (.seq a b) r H = thenW (cv a r H) (cv b)) (l : List Code) (rest : Code) : ∀ r H, cv (seqsC l rest) r H = thenW (runsC cv l r H) (cv rest) := by
  induction l with
  | nil => intro r H; rfl
  | cons c l ih =>
    intro r H
    show cv (.seq c (seqsC l rest)) r H = thenW (thenW (cv c r H) (runsC cv l)) (cv rest)
    rw [hs, ← thenW_assoc]
    congr 1
    funext r' H'
    exact ih r' H'
theorem runF_succ (h : CF) (k : Nat) (f : FuncId) (xs : List AV) (H : AH) : runF h (k + 1) f xs H = match h f xs H with
    | some p => some p
    | none => (funF fnT f).bind fun d => callE env (runF h k) (fun nt => drawE env (runF h k) nt) 100000 d xs H := rfl
theorem mod_range (n m : Int) (h0 : 0 < m) (h1 : m < 1000) : 0 ≤ Int.tmod (IntKind.i64.wrap (Int.tmod n m + m)) m ∧ Int.tmod (IntKind.i64.wrap (Int.tmod n m + m)) m ≤ m - 1 := by
  have h2 := Int.tmod_lt_of_pos n h0
  have h3 : -m < Int.tmod n m := Int.lt_tmod_of_pos n h0
  have h4 : IntKind.i64.wrap (Int.tmod n m + m) = Int.tmod n m + m := by
    simp [IntKind.wrap, IntKind.signed, IntKind.bits]
    omega
  rw [h4]
  have h5 := Int.tmod_lt_of_pos (Int.tmod n m + m) h0
  have h6 := Int.tmod_nonneg m (show (0 : Int) ≤ Int.tmod n m + m by omega)
  exact ⟨h6, by omega⟩
theorem plus_range (k n m : Int) (h0 : 0 < m) (h1 : m < 1000) (h2 : 0 ≤ k) (h3 : k < 1000) : k ≤ IntKind.i64.wrap (k + Int.tmod (IntKind.i64.wrap (Int.tmod n m + m)) m) ∧ IntKind.i64.wrap (k + Int.tmod (IntKind.i64.wrap (Int.tmod n m + m)) m) ≤ k + (m - 1) := by
  have h := mod_range n m h0 h1
  generalize Int.tmod (IntKind.i64.wrap (Int.tmod n m + m)) m = t at *
  have h4 : IntKind.i64.wrap (k + t) = k + t := by
    simp [IntKind.wrap, IntKind.signed, IntKind.bits]
    omega
  rw [h4]
  omega
theorem walk_of {hooks : CF} (h1 : CallOk Tryz.prog hooks) (h2 : LogOk hooks) {f : FuncId} {xs : List AV} {H' : AH} (h : runF hooks 60 f xs AH.none = some (.bool true, H')) (w : World) {args : Array Value} (hx : RL rho0 xs args.toList) :
    Calls Tryz.prog f args w fun e w' => e = .returned (.bool true) ∧ w.keptBut w' (fun _ => False) := by
  obtain ⟨_, q⟩ := runF_ok h1 h2 60 f _ AH.none _ H' h rho0 w args (rel_none w) hx
  refine q.mono ?_
  rintro e w' ⟨ρ', y, rfl, r1, r2, r3⟩
  cases r1
  refine ⟨rfl, r3.os, r3.output, fun i hi => ?_⟩
  have hh : ¬ Held rho0 AH.none i := by
    rintro ⟨f, v, im, hl, hi, _⟩
    cases hi
  rw [r3.frame i hi hh]
  cases hc : w.heap[i]? with
  | none => rfl
  | some o =>
    cases o with
    | cells c t fr => exact ⟨rfl, rfl, rfl, fun _ _ => rfl⟩
    | map es clock => exact .inr ⟨rfl, rfl⟩
    | _ => rfl
end Go.Proofs.YtllfnhapnndngaaGreatDoor.E
