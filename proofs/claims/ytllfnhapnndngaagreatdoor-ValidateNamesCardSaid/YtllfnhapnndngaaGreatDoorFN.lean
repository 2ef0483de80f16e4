/- Hooks for strings.Count at one byte and for IndexByte: Go's library has no text for what these two call. -/
import Derived.Test.YtllfnhapnndngaaGreatDoorFL
import Derived.Lib.Bytealg
import Derived.Laws.Externs
namespace Go.Proofs
open Go.RowKit Go.Lib
set_option linter.unusedVariables false
set_option maxHeartbeats 1000000 in
set_option maxRecDepth 100000 in
theorem Tryz.count_one (s : ByteArray) (c : UInt8) (w : World) :
    Calls Tryz.prog 314 #[.string s, .string ⟨#[c]⟩] w fun e w' => e = .returned (.int .i64 (Lib.countByte s.data.toList c)) ∧ w' = w := by
  go_enter Tryz.func314, Tryz.ntmps314
  go_wp2
  rw [run_callFunc_extern Tryz.func352 (by kernel_rfl) (by kernel_rfl) (by kernel_rfl) (e := Extern.BytealgCount.count) (by kernel_rfl), Lib.run_countString]
  simp only [Result.andThen]
  rw [Oper.upon_value]
  go_wp2
  go_ret
  exact ⟨rfl, rfl⟩
set_option maxHeartbeats 1000000 in
set_option maxRecDepth 100000 in
theorem Tryz.index_byte (s : ByteArray) (c : Int) (w : World) :
    Calls Tryz.prog 323 #[.string s, .int .u8 c] w fun e w' => e = .returned (.int .i64 (Lib.indexByte s.data.toList c.toNat.toUInt8)) ∧ w' = w := by
  go_enter Tryz.func323, Tryz.ntmps323
  go_wp2
  rw [run_callFunc_extern Tryz.func355 (by kernel_rfl) (by kernel_rfl) (by kernel_rfl) (e := Extern.BytealgIndexByte.indexByte) (by kernel_rfl), Lib.run_indexByteString]
  simp only [Result.andThen]
  rw [Oper.upon_value]
  go_wp2
  go_ret
  exact ⟨rfl, rfl⟩
end Go.Proofs
namespace Go.Proofs.YtllfnhapnndngaaGreatDoor.E
open Go Go.Proofs
set_option linter.unusedVariables false
set_option maxRecDepth 100000
noncomputable def cntL (c : Nat) (l : List Nat) : Nat := List.rec (motive := fun _ => Nat) 0 (fun x _ ih => bif Nat.beq x c then Nat.succ ih else ih) l
noncomputable def idxL (c : Nat) (l : List Nat) : Nat → Int := List.rec (motive := fun _ => Nat → Int) (fun _ => -1) (fun x _ ih i => bif Nat.beq x c then Int.ofNat i else ih (Nat.succ i)) l
theorem u8_ne {a b : UInt8} (h : ¬ a = b) : ¬ a.toNat = b.toNat := fun e => h (UInt8.toNat_inj.1 e)
theorem cntL_eq (c : UInt8) (l : List UInt8) : cntL c.toNat (l.map (·.toNat)) = Lib.countByte l c := by
  induction l with
  | nil => rfl
  | cons b l ih =>
    show (bif Nat.beq b.toNat c.toNat then Nat.succ (cntL c.toNat (l.map (·.toNat))) else cntL c.toNat (l.map (·.toNat))) = _
    rw [ih]
    unfold Lib.countByte
    rw [List.count_cons]
    by_cases h : b = c
    · subst h; simp
    · rw [nbeq_false (u8_ne h)]; simp [h]
theorem idxL_eq (c : UInt8) (l : List UInt8) : ∀ i : Nat, idxL c.toNat (l.map (·.toNat)) i = if Lib.indexByte l c = -1 then -1 else Lib.indexByte l c + i := by
  induction l with
  | nil => intro i; rfl
  | cons b l ih =>
    intro i
    show (bif Nat.beq b.toNat c.toNat then Int.ofNat i else idxL c.toNat (l.map (·.toNat)) (i + 1)) = _
    rw [ih]
    have e : Lib.indexByte (b :: l) c = if b == c then 0 else if Lib.indexByte l c == -1 then -1 else Lib.indexByte l c + 1 := rfl
    have hge := Lib.indexByte_ge l c
    rw [e]
    by_cases h : b = c
    · subst h; simp
    · rw [nbeq_false (u8_ne h)]
      have hb : (b == c) = false := by simpa using h
      rw [hb]
      generalize Lib.indexByte l c = t at *
      by_cases h1 : t = -1
      · subst h1; simp
      · have h3 : (t == -1) = false := by simpa using h1
        have h2 : ¬ t + 1 = -1 := by omega
        rw [h3, cond_false, if_neg h1]
        simp only [Bool.false_eq_true, if_false]
        rw [if_neg h2]
        omega
noncomputable def byteN (base : CF) : CF := fun f xs H =>
  bif Nat.beq f 314 then (match xs with
    | [.str l, .str [c]] => some (.int .i64 (Int.ofNat (cntL c l)), H)
    | _ => base f xs H)
  else bif Nat.beq f 323 then (match xs with
    | [.str l, .int .u8 (Int.ofNat c)] => bif Nat.blt c 256 then some (.int .i64 (idxL c l 0), H) else none
    | _ => none)
  else base f xs H
theorem byteN_log {base : CF} (hb : LogOk base) : LogOk (byteN base) := by
  intro f xs H v H' h
  unfold byteN at h
  rcases cond_two h with h | h
  · split at h
    · cases h; exact Logged.refl _
    · exact hb _ _ _ _ _ h
  · rcases cond_two h with h | h
    · split at h
      · replace h := cond_some h
        obtain ⟨_, h⟩ := h
        cases h; exact Logged.refl _
      · cases h
    · exact hb _ _ _ _ _ h
theorem one_byte {s : ByteArray} {c : Nat} (h : bytesN s = [c]) : ∃ u : UInt8, s = ⟨#[u]⟩ ∧ u.toNat = c := by
  unfold bytesN at h
  obtain ⟨⟨l⟩⟩ := s
  match l, h with
  | [u], h => exact ⟨u, rfl, by simpa using h⟩
theorem byteN_ok {base : CF} (hb : CallOk Tryz.prog base) : CallOk Tryz.prog (byteN base) := by
  intro f xs H v H' h ρ w args hr hx
  unfold byteN at h
  cases hf : Nat.beq f 314 with
  | true =>
    rw [hf] at h
    have := Nat.eq_of_beq_eq_true hf
    subst this
    simp only [cond_true] at h
    split at h
    · rename_i l c
      cases h
      have hent : (callFunc 314 args).run Tryz.prog w = .ok (.enter 314 args) w := enters_of Tryz.func314 (by kernel_rfl) rfl args w
      refine ⟨hent, ?_⟩
      obtain ⟨avs, rfl⟩ : ∃ avs : List Value, args = avs.toArray := ⟨args.toList, by simp⟩
      have hx' : RL ρ [.str l, .str [c]] avs := by simpa using hx
      cases hx' with
      | cons _ a _ ys ha hs =>
      cases hs with
      | cons _ b _ ys hb2 hn =>
      cases hn
      cases ha with
      | str s _ hs1 =>
      cases hb2 with
      | str s2 _ hs2 =>
      obtain ⟨u, rfl, hu⟩ := one_byte hs2
      refine Calls.mono (Tryz.count_one s u w) ?_
      rintro e w' ⟨rfl, rfl⟩
      have e1 : cntL c l = Lib.countByte s.data.toList u := by rw [← hu, ← hs1]; exact cntL_eq u _
      rw [e1]
      exact ⟨ρ, _, rfl, .int _ _, hr, Stp.refl _ _ _⟩
    · exact hb _ _ _ _ _ h ρ w args hr hx
  | false =>
  rw [hf] at h
  simp only [cond_false] at h
  cases hg : Nat.beq f 323 with
  | false => rw [hg] at h; exact hb f xs H v H' h ρ w args hr hx
  | true =>
    rw [hg] at h
    have := Nat.eq_of_beq_eq_true hg
    subst this
    simp only [cond_true] at h
    split at h
    · rename_i l c
      replace h := cond_some h
      obtain ⟨hc, h⟩ := h
      rw [Nat.blt_eq] at hc
      cases h
      have hent : (callFunc 323 args).run Tryz.prog w = .ok (.enter 323 args) w := enters_of Tryz.func323 (by kernel_rfl) rfl args w
      refine ⟨hent, ?_⟩
      obtain ⟨avs, rfl⟩ : ∃ avs : List Value, args = avs.toArray := ⟨args.toList, by simp⟩
      have hx' : RL ρ [.str l, .int .u8 (Int.ofNat c)] avs := by simpa using hx
      cases hx' with
      | cons _ a _ ys ha hs =>
      cases hs with
      | cons _ b _ ys hb2 hn =>
      cases hn
      cases ha with
      | str s _ hs1 =>
      cases hb2 with
      | int _ _ =>
      refine Calls.mono (Tryz.index_byte s _ w) ?_
      rintro e w' ⟨rfl, rfl⟩
      have e2 : (c.toUInt8).toNat = c := by simp; omega
      have e1 : idxL c l 0 = Lib.indexByte s.data.toList c.toUInt8 := by
        have := idxL_eq c.toUInt8 s.data.toList 0
        rw [e2] at this
        rw [← hs1]
        refine Eq.trans this ?_
        by_cases h1 : Lib.indexByte s.data.toList c.toUInt8 = -1
        · rw [if_pos h1, h1]
        · rw [if_neg h1]; simp
      rw [e1]
      exact ⟨ρ, _, rfl, .int _ _, hr, Stp.refl _ _ _⟩
    · cases h
end Go.Proofs.YtllfnhapnndngaaGreatDoor.E
