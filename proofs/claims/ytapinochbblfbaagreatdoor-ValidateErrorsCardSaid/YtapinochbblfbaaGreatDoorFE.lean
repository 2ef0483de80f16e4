/- Hooks for one block of SHA-256. -/
import Derived.Test.YtapinochbblfbaaGreatDoorFD
namespace Go.Proofs.YtapinochbblfbaaGreatDoor.E
open Go Go.Proofs
set_option linter.unusedVariables false
set_option linter.unusedSimpArgs false
noncomputable def intsE (kind : AV → Option Int) (l : List AV) : Option (List Int) :=
  List.rec (motive := fun _ => Option (List Int)) (some []) (fun x _ ih => (kind x).bind fun n => ih.bind fun r => some (n :: r)) l
noncomputable def u32E : AV → Option Int
  | .int .u32 z => some z
  | _ => none
noncomputable def u8E : AV → Option Int
  | .int .u8 z => some z
  | _ => none
theorem intsE_ok {kind : AV → Option Int} {mk : Int → AV} (hk : ∀ x z, kind x = some z → x = mk z) {l : List AV} : ∀ {zs : List Int}, intsE kind l = some zs → l = zs.map mk := by
  induction l with
  | nil => intro zs h; cases h; rfl
  | cons x l ih =>
    intro zs h
    change ((kind x).bind fun n => (intsE kind l).bind fun r => some (n :: r)) = some zs at h
    simp only [Option.bind_eq_some_iff, Option.some.injEq] at h
    obtain ⟨n, hn, r, hr, rfl⟩ := h
    rw [hk x n hn, ih hr]; rfl
theorem u32E_ok (x : AV) (z : Int) (h : u32E x = some z) : x = .int .u32 z := by
  unfold u32E at h; split at h <;> cases h; rfl
theorem u8E_ok (x : AV) (z : Int) (h : u8E x = some z) : x = .int .u8 z := by
  unfold u8E at h; split at h <;> cases h; rfl
/-- The hooks: the reference's 'round', the program's 'block'. -/
noncomputable def shaI : CF := fun f xs H =>
  bif Nat.beq f 215 then
    (match xs with
    | [.sl g v o 8 1 c, .str b] => (rowE H g v o 8).bind fun l => (intsE u32E l).bind fun h => bif Nat.beq b.length 64 then
        some (.sl H.next 0 0 8 1 none, H.new ((roundI h (b.map Int.ofNat)).map (AV.int .u32))) else none
    | _ => none)
  else bif Nat.beq f 355 then
    (match xs with
    | [.agg hl, .sl g v o 64 1 c] => (rowE H g v o 64).bind fun l => (intsE u8E l).bind fun b => (intsE u32E hl).bind fun h => bif Nat.beq h.length 8 then
        some (.agg ((blockI h b).map (AV.int .u32)), H) else none
    | _ => none)
  else none
theorem map_range {α : Type} (l : List α) (d : α) (n : Nat) (h : l.length = n) : l = (List.range n).map fun i => (l[i]?).getD d := by
  apply List.ext_getElem?
  intro i
  rw [List.getElem?_map]
  by_cases hi : i < n
  · rw [List.getElem?_range hi, List.getElem?_eq_getElem (by omega)]
    simp
    rw [List.getElem?_eq_getElem (by omega)]
    rfl
  · rw [List.getElem?_eq_none (by omega), List.getElem?_eq_none (by simpa using hi)]
    rfl
theorem bare_u32 (l : List Int) : (l.map (AV.int .u32)).all AV.bare = true := by simp [AV.bare]
theorem bare_u8 (l : List Int) : (l.map (AV.int .u8)).all AV.bare = true := by simp [AV.bare]
theorem shaI_log : LogOk shaI := by
  intro f xs H v H' h
  unfold shaI at h
  rcases cond_two h with h | h
  · split at h
    · simp only [Option.bind_eq_some_iff] at h
      obtain ⟨l, hl, hh, hhl, h⟩ := h
      replace h := cond_some h
      obtain ⟨_, h⟩ := h
      cases h
      exact Logged.new _ _
    · cases h
  · rcases cond_two h with h | h
    · split at h
      · simp only [Option.bind_eq_some_iff] at h
        obtain ⟨l, hl, b, hb, hh, hhl, h⟩ := h
        replace h := cond_some h
        obtain ⟨_, h⟩ := h
        cases h
        exact Logged.refl _
      · cases h
    · cases h
theorem memN_false {t : Nat} {l : List Nat} (h : memN t l = false) : t ∉ l := by
  intro hm
  rw [memN_ok.2 hm] at h; cases h
theorem row_only {l : List AV} {g : Nat} {b : ABlk} {ws : List Nat} (h : (AH.row l).t.get g = some b) (hw : memN 0 ws = false) : g ∉ ws := by
  rw [(row_get h).1]; exact memN_false hw
theorem roundI_len (h b : List Int) : (roundI h b).length = 8 := rfl
theorem shaI_ok : CallOk Tryz.prog shaI := by
  have hbase : CallOk Tryz.prog (runF noHooks 5) := runF_ok noHooks_ok noHooks_log 5
  intro f xs H v H' h ρ w args hr hx
  unfold shaI at h
  cases hf : Nat.beq f 215 with
  | true =>
    rw [hf] at h
    simp only [cond_true] at h
    have := Nat.eq_of_beq_eq_true hf
    subst this
    split at h
    · rename_i g u o c b
      simp only [Option.bind_eq_some_iff] at h
      obtain ⟨l, hl, hs, hhs, h⟩ := h
      replace h := cond_some h
      obtain ⟨hb, h⟩ := h
      have hb' := Nat.eq_of_beq_eq_true hb
      cases h
      have el := intsE_ok u32E_ok hhs
      have hlen : l.length = 8 := by
        simp only [rowE, Option.bind_eq_some_iff] at hl
        obtain ⟨blk, _, hl⟩ := hl
        split at hl
        · exact (Tr.take_spec _ _ _ _ (cond_some hl).2).1
        · cases hl
      have hslen : hs.length = 8 := by rw [el] at hlen; simpa using hlen
      generalize hav : args.toList = avs at hx
      cases hx with
      | cons _ sv _ ys hsv hx =>
      cases hx with
      | cons _ bv _ ys hbv hx =>
      cases hx
      obtain ⟨im, hrc, hsc, _⟩ := rel_row hr (n := 8) (es := 1) hl (by omega) (by omega) (by rw [el]; exact bare_u32 hs) hsv
      have hrun := round_run (fun i => (b[i]?).getD 0) (fun i => (hs[i]?).getD 0)
      have e1 : (List.range 8).map (fun i => AV.int .u32 ((hs[i]?).getD 0)) = l := by
        rw [el]
        conv => rhs; rw [map_range hs 0 8 hslen]
        rw [List.map_map]; rfl
      have e2 : (List.range 64).map (fun i => (b[i]?).getD 0) = b := (map_range b 0 64 hb').symm
      have e3 : (List.range 8).map (fun i => (hs[i]?).getD 0) = hs := (map_range hs 0 8 hslen).symm
      have e4 : (List.range 64).map (fun i => Int.ofNat ((b[i]?).getD 0)) = b.map Int.ofNat := by
        conv => rhs; rw [map_range b 0 64 hb']
        rw [List.map_map]; rfl
      rw [e1, e2, e3, e4] at hrun
      cases hres : runF noHooks 5 215 [.sl 0 0 0 8 1 none, .str b] (AH.row l) with
      | none => rw [hres] at hrun; cases hrun
      | some p =>
        obtain ⟨vc, Hc'⟩ := p
        rw [hres] at hrun
        simp only [Option.map_eq_some_iff, Prod.mk.injEq] at hrun
        obtain ⟨q, hq, q1, q2, q3⟩ := hrun
        unfold rowAns at hq
        split at hq
        · rename_i k u' o' n' c' Hq heq
          cases heq
          replace hq := cond_some hq
          obtain ⟨hn', hq⟩ := hq
          have hn8 := Nat.eq_of_beq_eq_true hn'
          subst hn8
          simp only [Option.bind_eq_some_iff, Option.some.injEq] at hq
          obtain ⟨lr, hlr, rfl⟩ := hq
          dsimp only at q1 q2 q3
          subst q1
          obtain ⟨c1, c2⟩ := sub_call hbase hres rfl (fun g' b' hg' => row_only hg' q2) hrc (args := args) (by rw [hav]; exact .cons _ _ _ _ hsc (.cons _ _ _ _ (hbv.bare rfl) .nil))
          refine ⟨c1, Calls.mono c2 fun e w' hp => ?_⟩
          obtain ⟨ρ', y, rfl, g1, g2, g3, g4⟩ := hp
          have hnew : ∀ im', ρ' k u' = some im' → w.heap.size ≤ im'.cb := by
            intro im' him'
            rcases Nat.lt_or_ge im'.cb w.heap.size with hlt | hge
            · exfalso
              have hlive : Live Hc' k u' := by
                simp only [rowE, Option.bind_eq_some_iff] at hlr
                obtain ⟨blk, hblk, hlr⟩ := hlr
                split at hlr
                · replace hlr := cond_some hlr
                  obtain ⟨hlo, _⟩ := hlr
                  rw [Nat.ble_eq] at hlo
                  exact ⟨_, hblk, hlo, ((g2.blk k _ hblk).1 u' im' him').1⟩
                · cases hlr
              obtain ⟨g', u'', jm, hl', hi', he'⟩ := g4.held _ hlt ⟨k, u', im', hlive, him', rfl⟩
              obtain ⟨ws, a1, a2⟩ := g4.keep
              obtain ⟨bb, hbb, hhas⟩ := id hl'
              have hg0 := (row_get hbb).1
              subst hg0
              have hnot : 0 ∉ ws := by
                have := memN_false q2
                rw [a1] at this
                exact fun hm => this (List.mem_append_left _ hm)
              have hlive0 : Live Hc' 0 u'' := ⟨bb, (a2 0 hnot).1 bb hbb, hhas⟩
              have hk0 : k ≠ 0 := by
                intro e
                rw [e] at q3
                cases q3
              exact g2.apart k u' 0 u'' im' jm hk0 hlive hlive0 him' (g4.le _ _ _ hi') he'.symm
            · exact hge
          obtain ⟨ρ'', a1, a2, a3⟩ := hr.adopt g3 g2 hlr (bare_u32 _) (by omega) (by omega) (len := 8) (es := 1) rfl g1 hnew
          exact ⟨ρ'', y, rfl, a3, a1, a2⟩
        · cases hq
    · cases h
  | false =>
    rw [hf] at h
    simp only [cond_false] at h
    replace h := cond_some h
    obtain ⟨hf2, h⟩ := h
    have := Nat.eq_of_beq_eq_true hf2
    subst this
    split at h
    · rename_i hl' g u o c
      simp only [Option.bind_eq_some_iff] at h
      obtain ⟨l, hl, bs, hbs, hs, hhs, h⟩ := h
      replace h := cond_some h
      obtain ⟨hb, h⟩ := h
      have hslen := Nat.eq_of_beq_eq_true hb
      cases h
      have el := intsE_ok u8E_ok hbs
      have eh := intsE_ok u32E_ok hhs
      have hlen : l.length = 64 := by
        simp only [rowE, Option.bind_eq_some_iff] at hl
        obtain ⟨blk, _, hl⟩ := hl
        split at hl
        · exact (Tr.take_spec _ _ _ _ (cond_some hl).2).1
        · cases hl
      have hblen : bs.length = 64 := by rw [el] at hlen; simpa using hlen
      generalize hav : args.toList = avs at hx
      cases hx with
      | cons _ av _ ys hsv hx =>
      cases hx with
      | cons _ bv _ ys hbv hx =>
      cases hx
      obtain ⟨im, hrc, hsc, _⟩ := rel_row hr (n := 64) (es := 1) hl (by omega) (by omega) (by rw [el]; exact bare_u8 bs) hbv
      have hrun := block_run (fun i => (bs[i]?).getD 0) (fun i => (hs[i]?).getD 0)
      have e1 : (List.range 64).map (fun i => AV.int .u8 ((bs[i]?).getD 0)) = l := by
        rw [el]
        conv => rhs; rw [map_range bs 0 64 hblen]
        rw [List.map_map]; rfl
      have e1' : (List.range 8).map (fun i => AV.int .u32 ((hs[i]?).getD 0)) = hl' := by
        rw [eh]
        conv => rhs; rw [map_range hs 0 8 hslen]
        rw [List.map_map]; rfl
      have e2 : (List.range 64).map (fun i => (bs[i]?).getD 0) = bs := (map_range bs 0 64 hblen).symm
      have e3 : (List.range 8).map (fun i => (hs[i]?).getD 0) = hs := (map_range hs 0 8 hslen).symm
      rw [e1, e1', e2, e3] at hrun
      cases hres : runF noHooks 5 355 [.agg hl', .sl 0 0 0 64 1 none] (AH.row l) with
      | none => rw [hres] at hrun; cases hrun
      | some p =>
        obtain ⟨vc, Hc'⟩ := p
        rw [hres] at hrun
        simp only [Option.map_some, Option.some.injEq, Prod.mk.injEq] at hrun
        obtain ⟨q1, q2⟩ := hrun
        subst q1
        obtain ⟨c1, c2⟩ := sub_call hbase hres rfl (fun g' b' hg' => row_only hg' q2) hrc (args := args) (by rw [hav]; exact .cons _ _ _ _ (hsv.flat (by rw [eh]; exact bare_u32 hs)) (.cons _ _ _ _ hsc .nil))
        refine ⟨c1, Calls.mono c2 fun e w' hp => ?_⟩
        obtain ⟨ρ', y, rfl, g1, g2, g3, g4⟩ := hp
        obtain ⟨a1, a2⟩ := hr.stay g3
        exact ⟨ρ, y, rfl, g1.flat (bare_u32 _), a1, a2⟩
    · cases h
end Go.Proofs.YtapinochbblfbaaGreatDoor.E
