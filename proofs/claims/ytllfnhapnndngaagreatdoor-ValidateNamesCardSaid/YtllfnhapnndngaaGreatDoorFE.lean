/- Hooks for one block of SHA-256. SHA-256 in numbers, fast to compute. -/
import Derived.Test.YtllfnhapnndngaaGreatDoorFD
namespace Go.Proofs.YtllfnhapnndngaaGreatDoor.E
open Go Go.Proofs
set_option linter.unusedVariables false
set_option linter.unusedSimpArgs false
noncomputable def intsE (kind : AV → Option Int) (l : List AV) : Option (List Int) :=
  List.rec (motive := fun _ => Option (List Int)) (some []) (fun x _ ih => (kind x).bind fun n => ih.bind fun r => some (n :: r)) l
noncomputable def u32E : AV → Option Int
  | .int .u32 z => some z
  | _ => none
noncomputable def u8E : AV → Option Int
  | .int .u8 z => some z
  | _ => none
theorem intsE_ok {kind : AV → Option Int} {mk : Int → AV} (hk : ∀ x z, kind x = some z → x = mk z) {l : List AV} : ∀ {zs : List Int}, intsE kind l = some zs → l = zs.map mk := by
  induction l with
  | nil => intro zs h; cases h; rfl
  | cons x l ih =>
    intro zs h
    change ((kind x).bind fun n => (intsE kind l).bind fun r => some (n :: r)) = some zs at h
    simp only [Option.bind_eq_some_iff, Option.some.injEq] at h
    obtain ⟨n, hn, r, hr, rfl⟩ := h
    rw [hk x n hn, ih hr]; rfl
theorem u32E_ok (x : AV) (z : Int) (h : u32E x = some z) : x = .int .u32 z := by
  unfold u32E at h; split at h <;> cases h; rfl
theorem u8E_ok (x : AV) (z : Int) (h : u8E x = some z) : x = .int .u8 z := by
  unfold u8E at h; split at h <;> cases h; rfl
/-- The hooks: the reference's 'round', the program's 'block'. -/
noncomputable def shaI : CF := fun f xs H =>
  bif Nat.beq f 165 then
    (match xs with
    | [.sl g v o 8 1 c, .str b] => (rowE H g v o 8).bind fun l => (intsE u32E l).bind fun h => bif Nat.beq b.length 64 then
        some (.sl H.next 0 0 8 1 none, H.new ((roundI h (b.map Int.ofNat)).map (AV.int .u32))) else none
    | _ => none)
  else bif Nat.beq f 380 then
    (match xs with
    | [.agg hl, .sl g v o 64 1 c] => (rowE H g v o 64).bind fun l => (intsE u8E l).bind fun b => (intsE u32E hl).bind fun h => bif Nat.beq h.length 8 then
        some (.agg ((blockI h b).map (AV.int .u32)), H) else none
    | _ => none)
  else none
theorem map_range {α : Type} (l : List α) (d : α) (n : Nat) (h : l.length = n) : l = (List.range n).map fun i => (l[i]?).getD d := by
  apply List.ext_getElem?
  intro i
  rw [List.getElem?_map]
  by_cases hi : i < n
  · rw [List.getElem?_range hi, List.getElem?_eq_getElem (by omega)]
    simp
    rw [List.getElem?_eq_getElem (by omega)]
    rfl
  · rw [List.getElem?_eq_none (by omega), List.getElem?_eq_none (by simpa using hi)]
    rfl
theorem bare_u32 (l : List Int) : (l.map (AV.int .u32)).all AV.bare = true := by simp [AV.bare]
theorem bare_u8 (l : List Int) : (l.map (AV.int .u8)).all AV.bare = true := by simp [AV.bare]
theorem shaI_log : LogOk shaI := by
  intro f xs H v H' h
  unfold shaI at h
  rcases cond_two h with h | h
  · split at h
    · simp only [Option.bind_eq_some_iff] at h
      obtain ⟨l, hl, hh, hhl, h⟩ := h
      replace h := cond_some h
      obtain ⟨_, h⟩ := h
      cases h
      exact Logged.new _ _
    · cases h
  · rcases cond_two h with h | h
    · split at h
      · simp only [Option.bind_eq_some_iff] at h
        obtain ⟨l, hl, b, hb, hh, hhl, h⟩ := h
        replace h := cond_some h
        obtain ⟨_, h⟩ := h
        cases h
        exact Logged.refl _
      · cases h
    · cases h
theorem memN_false {t : Nat} {l : List Nat} (h : memN t l = false) : t ∉ l := by
  intro hm
  rw [memN_ok.2 hm] at h; cases h
theorem row_only {l : List AV} {g : Nat} {b : ABlk} {ws : List Nat} (h : (AH.row l).t.get g = some b) (hw : memN 0 ws = false) : g ∉ ws := by
  rw [(row_get h).1]; exact memN_false hw
theorem roundI_len (h b : List Int) : (roundI h b).length = 8 := rfl
theorem shaI_ok : CallOk Tryz.prog shaI := by
  have hbase : CallOk Tryz.prog (runF noHooks 5) := runF_ok noHooks_ok noHooks_log 5
  intro f xs H v H' h ρ w args hr hx
  unfold shaI at h
  cases hf : Nat.beq f 165 with
  | true =>
    rw [hf] at h
    simp only [cond_true] at h
    have := Nat.eq_of_beq_eq_true hf
    subst this
    split at h
    · rename_i g u o c b
      simp only [Option.bind_eq_some_iff] at h
      obtain ⟨l, hl, hs, hhs, h⟩ := h
      replace h := cond_some h
      obtain ⟨hb, h⟩ := h
      have hb' := Nat.eq_of_beq_eq_true hb
      cases h
      have el := intsE_ok u32E_ok hhs
      have hlen : l.length = 8 := by
        simp only [rowE, Option.bind_eq_some_iff] at hl
        obtain ⟨blk, _, hl⟩ := hl
        split at hl
        · exact (Tr.take_spec _ _ _ _ (cond_some hl).2).1
        · cases hl
      have hslen : hs.length = 8 := by rw [el] at hlen; simpa using hlen
      generalize hav : args.toList = avs at hx
      cases hx with
      | cons _ sv _ ys hsv hx =>
      cases hx with
      | cons _ bv _ ys hbv hx =>
      cases hx
      obtain ⟨im, hrc, hsc, _⟩ := rel_row hr (n := 8) (es := 1) hl (by omega) (by omega) (by rw [el]; exact bare_u32 hs) hsv
      have hrun := round_run (fun i => (b[i]?).getD 0) (fun i => (hs[i]?).getD 0)
      have e1 : (List.range 8).map (fun i => AV.int .u32 ((hs[i]?).getD 0)) = l := by
        rw [el]
        conv => rhs; rw [map_range hs 0 8 hslen]
        rw [List.map_map]; rfl
      have e2 : (List.range 64).map (fun i => (b[i]?).getD 0) = b := (map_range b 0 64 hb').symm
      have e3 : (List.range 8).map (fun i => (hs[i]?).getD 0) = hs := (map_range hs 0 8 hslen).symm
      have e4 : (List.range 64).map (fun i => Int.ofNat ((b[i]?).getD 0)) = b.map Int.ofNat := by
        conv => rhs; rw [map_range b 0 64 hb']
        rw [List.map_map]; rfl
      rw [e1, e2, e3, e4] at hrun
      cases hres : runF noHooks 5 165 [.sl 0 0 0 8 1 none, .str b] (AH.row l) with
      | none => rw [hres] at hrun; cases hrun
      | some p =>
        obtain ⟨vc, Hc'⟩ := p
        rw [hres] at hrun
        simp only [Option.map_eq_some_iff, Prod.mk.injEq] at hrun
        obtain ⟨q, hq, q1, q2, q3⟩ := hrun
        unfold rowAns at hq
        split at hq
        · rename_i k u' o' n' c' Hq heq
          cases heq
          replace hq := cond_some hq
          obtain ⟨hn', hq⟩ := hq
          have hn8 := Nat.eq_of_beq_eq_true hn'
          subst hn8
          simp only [Option.bind_eq_some_iff, Option.some.injEq] at hq
          obtain ⟨lr, hlr, rfl⟩ := hq
          dsimp only at q1 q2 q3
          subst q1
          obtain ⟨c1, c2⟩ := sub_call hbase hres rfl (fun g' b' hg' => row_only hg' q2) hrc (args := args) (by rw [hav]; exact .cons _ _ _ _ hsc (.cons _ _ _ _ (hbv.bare rfl) .nil))
          refine ⟨c1, Calls.mono c2 fun e w' hp => ?_⟩
          obtain ⟨ρ', y, rfl, g1, g2, g3, g4⟩ := hp
          have hnew : ∀ im', ρ' k u' = some im' → w.heap.size ≤ im'.cb := by
            intro im' him'
            rcases Nat.lt_or_ge im'.cb w.heap.size with hlt | hge
            · exfalso
              have hlive : Live Hc' k u' := by
                simp only [rowE, Option.bind_eq_some_iff] at hlr
                obtain ⟨blk, hblk, hlr⟩ := hlr
                split at hlr
                · replace hlr := cond_some hlr
                  obtain ⟨hlo, _⟩ := hlr
                  rw [Nat.ble_eq] at hlo
                  exact ⟨_, hblk, hlo, ((g2.blk k _ hblk).1 u' im' him').1⟩
                · cases hlr
              obtain ⟨g', u'', jm, hl', hi', he'⟩ := g4.held _ hlt ⟨k, u', im', hlive, him', rfl⟩
              obtain ⟨ws, a1, a2⟩ := g4.keep
              obtain ⟨bb, hbb, hhas⟩ := id hl'
              have hg0 := (row_get hbb).1
              subst hg0
              have hnot : 0 ∉ ws := by
                have := memN_false q2
                rw [a1] at this
                exact fun hm => this (List.mem_append_left _ hm)
              have hlive0 : Live Hc' 0 u'' := ⟨bb, (a2 0 hnot).1 bb hbb, hhas⟩
              have hk0 : k ≠ 0 := by
                intro e
                rw [e] at q3
                cases q3
              exact g2.apart k u' 0 u'' im' jm hk0 hlive hlive0 him' (g4.le _ _ _ hi') he'.symm
            · exact hge
          obtain ⟨ρ'', a1, a2, a3⟩ := hr.adopt g3 g2 hlr (bare_u32 _) (by omega) (by omega) (len := 8) (es := 1) rfl g1 hnew
          exact ⟨ρ'', y, rfl, a3, a1, a2⟩
        · cases hq
    · cases h
  | false =>
    rw [hf] at h
    simp only [cond_false] at h
    replace h := cond_some h
    obtain ⟨hf2, h⟩ := h
    have := Nat.eq_of_beq_eq_true hf2
    subst this
    split at h
    · rename_i hl' g u o c
      simp only [Option.bind_eq_some_iff] at h
      obtain ⟨l, hl, bs, hbs, hs, hhs, h⟩ := h
      replace h := cond_some h
      obtain ⟨hb, h⟩ := h
      have hslen := Nat.eq_of_beq_eq_true hb
      cases h
      have el := intsE_ok u8E_ok hbs
      have eh := intsE_ok u32E_ok hhs
      have hlen : l.length = 64 := by
        simp only [rowE, Option.bind_eq_some_iff] at hl
        obtain ⟨blk, _, hl⟩ := hl
        split at hl
        · exact (Tr.take_spec _ _ _ _ (cond_some hl).2).1
        · cases hl
      have hblen : bs.length = 64 := by rw [el] at hlen; simpa using hlen
      generalize hav : args.toList = avs at hx
      cases hx with
      | cons _ av _ ys hsv hx =>
      cases hx with
      | cons _ bv _ ys hbv hx =>
      cases hx
      obtain ⟨im, hrc, hsc, _⟩ := rel_row hr (n := 64) (es := 1) hl (by omega) (by omega) (by rw [el]; exact bare_u8 bs) hbv
      have hrun := block_run (fun i => (bs[i]?).getD 0) (fun i => (hs[i]?).getD 0)
      have e1 : (List.range 64).map (fun i => AV.int .u8 ((bs[i]?).getD 0)) = l := by
        rw [el]
        conv => rhs; rw [map_range bs 0 64 hblen]
        rw [List.map_map]; rfl
      have e1' : (List.range 8).map (fun i => AV.int .u32 ((hs[i]?).getD 0)) = hl' := by
        rw [eh]
        conv => rhs; rw [map_range hs 0 8 hslen]
        rw [List.map_map]; rfl
      have e2 : (List.range 64).map (fun i => (bs[i]?).getD 0) = bs := (map_range bs 0 64 hblen).symm
      have e3 : (List.range 8).map (fun i => (hs[i]?).getD 0) = hs := (map_range hs 0 8 hslen).symm
      rw [e1, e1', e2, e3] at hrun
      cases hres : runF noHooks 5 380 [.agg hl', .sl 0 0 0 64 1 none] (AH.row l) with
      | none => rw [hres] at hrun; cases hrun
      | some p =>
        obtain ⟨vc, Hc'⟩ := p
        rw [hres] at hrun
        simp only [Option.map_some, Option.some.injEq, Prod.mk.injEq] at hrun
        obtain ⟨q1, q2⟩ := hrun
        subst q1
        obtain ⟨c1, c2⟩ := sub_call hbase hres rfl (fun g' b' hg' => row_only hg' q2) hrc (args := args) (by rw [hav]; exact .cons _ _ _ _ (hsv.flat (by rw [eh]; exact bare_u32 hs)) (.cons _ _ _ _ hsc .nil))
        refine ⟨c1, Calls.mono c2 fun e w' hp => ?_⟩
        obtain ⟨ρ', y, rfl, g1, g2, g3, g4⟩ := hp
        obtain ⟨a1, a2⟩ := hr.stay g3
        exact ⟨ρ, y, rfl, g1.flat (bare_u32 _), a1, a2⟩
    · cases h
end Go.Proofs.YtllfnhapnndngaaGreatDoor.E
namespace Go.Proofs.YtllfnhapnndngaaGreatDoor.E
open Go Go.Proofs
set_option linter.unusedVariables false
set_option linter.unusedSimpArgs false
def U (z : Int) (n : Nat) : Prop := z = Int.ofNat n ∧ n < 4294967296
theorem wrap_u32 (z : Int) : IntKind.u32.wrap z = z % 4294967296 := by simp [IntKind.wrap, IntKind.signed, IntKind.bits]
theorem wrap_u8 (z : Int) : IntKind.u8.wrap z = z % 256 := by simp [IntKind.wrap, IntKind.signed, IntKind.bits]
theorem bv_ofInt {m : Nat} (h : m < 4294967296) : (BitVec.ofInt IntKind.u32.bits (Int.ofNat m)).toNat = m := by
  have e : IntKind.u32.bits = 32 := rfl
  rw [e]
  simp only [BitVec.toNat_ofInt]
  show ((m : Int) % ((2 ^ 32 : Nat) : Int)).toNat = m
  omega
theorem wrap_nat {m : Nat} (h : m < 4294967296) : IntKind.u32.wrap (m : Int) = Int.ofNat m := by
  rw [wrap_u32]
  show (m : Int) % 4294967296 = (m : Int)
  omega
theorem u_add {a b : Int} {m n : Nat} (h : U a m) (k : U b n) : U (uAdd a b) (Nat.mod (Nat.add m n) 4294967296) := by
  obtain ⟨rfl, h⟩ := h
  obtain ⟨rfl, k⟩ := k
  have e : Nat.mod (Nat.add m n) 4294967296 = (m + n) % 4294967296 := rfl
  refine ⟨?_, by rw [e]; omega⟩
  unfold uAdd
  rw [wrap_u32, e]
  show ((m : Int) + (n : Int)) % 4294967296 = (((m + n) % 4294967296 : Nat) : Int)
  omega
theorem u_and {a b : Int} {m n : Nat} (h : U a m) (k : U b n) : U (uAnd a b) (Nat.land m n) := by
  obtain ⟨rfl, h⟩ := h
  obtain ⟨rfl, k⟩ := k
  have hlt : Nat.land m n < 4294967296 := Nat.lt_of_le_of_lt Nat.and_le_left h
  refine ⟨?_, hlt⟩
  unfold uAnd
  rw [BitVec.toNat_and, bv_ofInt h, bv_ofInt k]
  exact wrap_nat hlt
theorem u_or {a b : Int} {m n : Nat} (h : U a m) (k : U b n) : U (uOr a b) (Nat.lor m n) := by
  obtain ⟨rfl, h⟩ := h
  obtain ⟨rfl, k⟩ := k
  have hlt : Nat.lor m n < 4294967296 := Nat.or_lt_two_pow (n := 32) h k
  refine ⟨?_, hlt⟩
  unfold uOr
  rw [BitVec.toNat_or, bv_ofInt h, bv_ofInt k]
  exact wrap_nat hlt
theorem u_xor {a b : Int} {m n : Nat} (h : U a m) (k : U b n) : U (uXor a b) (Nat.xor m n) := by
  obtain ⟨rfl, h⟩ := h
  obtain ⟨rfl, k⟩ := k
  have hlt : Nat.xor m n < 4294967296 := Nat.xor_lt_two_pow (n := 32) h k
  refine ⟨?_, hlt⟩
  unfold uXor
  rw [BitVec.toNat_xor, bv_ofInt h, bv_ofInt k]
  exact wrap_nat hlt
theorem u_not {a : Int} {m : Nat} (h : U a m) : U (uNot a) (Nat.xor 4294967295 m) :=
  u_xor (a := (bif IntKind.u32.signed then -1 else IntKind.u32.max)) (m := 4294967295) ⟨rfl, by omega⟩ h
theorem u_shl {a : Int} {m : Nat} (h : U a m) (k : Nat) (hk : k < 32) : U (uShl a (k : Int)) (Nat.mod (Nat.shiftLeft m k) 4294967296) := by
  obtain ⟨rfl, h⟩ := h
  have e : Nat.mod (Nat.shiftLeft m k) 4294967296 = (m * 2 ^ k) % 4294967296 := by
    show (m <<< k) % 4294967296 = _
    rw [Nat.shiftLeft_eq]
  refine ⟨?_, by rw [e]; omega⟩
  unfold uShl
  have e2 : min ((k : Int)).toNat IntKind.u32.bits = k := by
    have : IntKind.u32.bits = 32 := rfl
    rw [this, Int.toNat_natCast]; omega
  rw [e2, wrap_u32, e]
  show ((m : Int) * (2 : Int) ^ k) % 4294967296 = (((m * 2 ^ k) % 4294967296 : Nat) : Int)
  have e3 : ((m * 2 ^ k : Nat) : Int) = (m : Int) * (2 : Int) ^ k := by rw [Int.natCast_mul, Int.natCast_pow]; rfl
  rw [← e3]
  omega
theorem u_shr {a : Int} {m : Nat} (h : U a m) (k : Nat) (hk : k < 32) : U (uShr a (k : Int)) (Nat.shiftRight m k) := by
  obtain ⟨rfl, h⟩ := h
  have e : Nat.shiftRight m k = m / 2 ^ k := Nat.shiftRight_eq_div_pow m k
  refine ⟨?_, by rw [e]; exact Nat.lt_of_le_of_lt (Nat.div_le_self _ _) h⟩
  unfold uShr
  have e2 : min ((k : Int)).toNat IntKind.u32.bits = k := by
    have : IntKind.u32.bits = 32 := rfl
    rw [this, Int.toNat_natCast]; omega
  rw [e2, e]
  have e3 : ((2 : Int) ^ k) = ((2 ^ k : Nat) : Int) := by rw [Int.natCast_pow]; rfl
  rw [e3]
  show Int.fdiv (m : Int) ((2 ^ k : Nat) : Int) = ((m / 2 ^ k : Nat) : Int)
  rw [Int.fdiv_eq_ediv_of_nonneg _ (Int.natCast_nonneg _)]
  rfl
noncomputable def rotN (x n m : Nat) : Nat := Nat.lor (Nat.shiftRight x n) (Nat.mod (Nat.shiftLeft x m) 4294967296)
theorem u_rot {a : Int} {x : Nat} (h : U a x) (n m : Nat) (hn : n < 32) (hm : m < 32) : U (rot a (n : Int) (m : Int)) (rotN x n m) := u_or (u_shr h n hn) (u_shl h m hm)
/-! ### Words and the schedule -/
def UL (ws : List Int) (ns : List Nat) : Prop := ws = ns.map Int.ofNat ∧ ∀ n ∈ ns, n < 4294967296
noncomputable def nthN (l : List Nat) (i : Nat) : Nat := (nth l i).getD 0
theorem ul_nth {ws : List Int} {ns : List Nat} (h : UL ws ns) (i : Nat) : U (nthI ws i) (nthN ns i) := by
  obtain ⟨rfl, h⟩ := h
  unfold nthI nthN
  rw [nth_eq, nth_eq, List.getElem?_map]
  cases hi : ns[i]? with
  | none => exact ⟨rfl, by simp⟩
  | some n => exact ⟨rfl, h n (List.mem_of_getElem? hi)⟩
theorem ul_cons {ws : List Int} {ns : List Nat} {z : Int} {n : Nat} (h : U z n) (k : UL ws ns) : UL (z :: ws) (n :: ns) := by
  obtain ⟨rfl, h⟩ := h
  obtain ⟨rfl, k⟩ := k
  refine ⟨rfl, fun m hm => ?_⟩
  rcases List.mem_cons.1 hm with rfl | hm
  · exact h
  · exact k m hm
theorem ul_nil : UL [] [] := ⟨rfl, by simp⟩
noncomputable def wordN (a b c d : Nat) : Nat := Nat.lor (Nat.lor (Nat.lor (Nat.mod (Nat.shiftLeft a 24) 4294967296) (Nat.mod (Nat.shiftLeft b 16) 4294967296)) (Nat.mod (Nat.shiftLeft c 8) 4294967296)) d
noncomputable def wordsN (n : Nat) : List Nat → List Nat :=
  Nat.rec (motive := fun _ => List Nat → List Nat) (fun _ => []) (fun _ ih l => match l with | a :: b :: c :: d :: l => wordN a b c d :: ih l | _ => []) n
theorem u_byte {b : Nat} (h : b < 256) : U (uByte (Int.ofNat b)) b := ⟨wrap_nat (by omega), by omega⟩
theorem u_word {a b c d : Nat} (ha : a < 256) (hb : b < 256) (hc : c < 256) (hd : d < 256) : U (wordOf (Int.ofNat a) (Int.ofNat b) (Int.ofNat c) (Int.ofNat d)) (wordN a b c d) :=
  u_or (u_or (u_or (u_shl (u_byte ha) 24 (by omega)) (u_shl (u_byte hb) 16 (by omega))) (u_shl (u_byte hc) 8 (by omega))) (u_byte hd)
theorem ul_words (n : Nat) : ∀ l : List Nat, (∀ b ∈ l, b < 256) → UL (wordsOf n (l.map Int.ofNat)) (wordsN n l) := by
  induction n with
  | zero => intro l _; exact ul_nil
  | succ n ih =>
    intro l h
    match l, h with
    | [], _ => exact ul_nil
    | [_], _ => exact ul_nil
    | [_, _], _ => exact ul_nil
    | [_, _, _], _ => exact ul_nil
    | a :: b :: c :: d :: l, h =>
      exact ul_cons (u_word (h a (by simp)) (h b (by simp)) (h c (by simp)) (h d (by simp))) (ih l fun x hx => h x (by simp [hx]))
noncomputable def schedOneN (w : List Nat) : Nat :=
  Nat.mod (Nat.add (Nat.mod (Nat.add (Nat.mod (Nat.add (nthN w 15) (Nat.xor (Nat.xor (rotN (nthN w 14) 7 25) (rotN (nthN w 14) 18 14)) (Nat.shiftRight (nthN w 14) 3))) 4294967296) (nthN w 6)) 4294967296)
    (Nat.xor (Nat.xor (rotN (nthN w 1) 17 15) (rotN (nthN w 1) 19 13)) (Nat.shiftRight (nthN w 1) 10))) 4294967296
theorem u_sched {ws : List Int} {ns : List Nat} (h : UL ws ns) : U (schedOne ws) (schedOneN ns) :=
  u_add (u_add (u_add (ul_nth h 15) (u_xor (u_xor (u_rot (ul_nth h 14) 7 25 (by omega) (by omega)) (u_rot (ul_nth h 14) 18 14 (by omega) (by omega))) (u_shr (ul_nth h 14) 3 (by omega)))) (ul_nth h 6))
    (u_xor (u_xor (u_rot (ul_nth h 1) 17 15 (by omega) (by omega)) (u_rot (ul_nth h 1) 19 13 (by omega) (by omega))) (u_shr (ul_nth h 1) 10 (by omega)))
noncomputable def schedN (n : Nat) : List Nat → List Nat := Nat.rec (motive := fun _ => List Nat → List Nat) (fun w => w) (fun _ ih w => ih (schedOneN w :: w)) n
theorem ul_sched (n : Nat) : ∀ {ws : List Int} {ns : List Nat}, UL ws ns → UL (sched n ws) (schedN n ns) := by
  induction n with
  | zero => intro ws ns h; exact h
  | succ n ih => intro ws ns h; exact ih (ul_cons (u_sched h) h)
noncomputable def revN (l : List Nat) : List Nat → List Nat := List.rec (motive := fun _ => List Nat → List Nat) (fun k => k) (fun x _ ih k => ih (x :: k)) l
theorem ul_rev {ns : List Nat} : ∀ {ws ks : List Int} {ms : List Nat}, UL ws ns → UL ks ms → UL (revI ws ks) (revN ns ms) := by
  induction ns with
  | nil => intro ws ks ms h k; obtain ⟨rfl, _⟩ := h; exact k
  | cons n ns ih =>
    intro ws ks ms h k
    obtain ⟨rfl, hb⟩ := h
    have h1 : UL (ns.map Int.ofNat) ns := ⟨rfl, fun m hm => hb m (by simp [hm])⟩
    have h2 : UL (Int.ofNat n :: ks) (n :: ms) := ul_cons ⟨rfl, hb n (by simp)⟩ k
    have h3 := ih h1 h2
    exact h3
/-! ### Rounds -/
structure S8 where
  a : Nat
  b : Nat
  c : Nat
  d : Nat
  e : Nat
  f : Nat
  g : Nat
  h : Nat
structure US (s : St8) (t : S8) : Prop where
  a : U s.a t.a
  b : U s.b t.b
  c : U s.c t.c
  d : U s.d t.d
  e : U s.e t.e
  f : U s.f t.f
  g : U s.g t.g
  h : U s.h t.h
noncomputable def t1N (s : S8) (k w : Nat) : Nat :=
  Nat.mod (Nat.add (Nat.mod (Nat.add (Nat.mod (Nat.add (Nat.mod (Nat.add s.h (Nat.xor (Nat.xor (rotN s.e 6 26) (rotN s.e 11 21)) (rotN s.e 25 7))) 4294967296) (Nat.xor (Nat.land s.e s.f) (Nat.land (Nat.xor 4294967295 s.e) s.g))) 4294967296) k) 4294967296) w) 4294967296
noncomputable def s0N (s : S8) : Nat := Nat.xor (Nat.xor (rotN s.a 2 30) (rotN s.a 13 19)) (rotN s.a 22 10)
noncomputable def majN (s : S8) : Nat := Nat.xor (Nat.xor (Nat.land s.a s.b) (Nat.land s.a s.c)) (Nat.land s.b s.c)
theorem u_t1 {s : St8} {t : S8} (h : US s t) {k w : Int} {kn wn : Nat} (hk : U k kn) (hw : U w wn) :
    U (uAdd (uAdd (uAdd (uAdd s.h (uXor (uXor (rot s.e 6 26) (rot s.e 11 21)) (rot s.e 25 7))) (uXor (uAnd s.e s.f) (uAnd (uNot s.e) s.g))) k) w) (t1N t kn wn) :=
  u_add (u_add (u_add (u_add h.h (u_xor (u_xor (u_rot h.e 6 26 (by omega) (by omega)) (u_rot h.e 11 21 (by omega) (by omega))) (u_rot h.e 25 7 (by omega) (by omega)))) (u_xor (u_and h.e h.f) (u_and (u_not h.e) h.g))) hk) hw
theorem u_s0 {s : St8} {t : S8} (h : US s t) : U (uXor (uXor (rot s.a 2 30) (rot s.a 13 19)) (rot s.a 22 10)) (s0N t) :=
  u_xor (u_xor (u_rot h.a 2 30 (by omega) (by omega)) (u_rot h.a 13 19 (by omega) (by omega))) (u_rot h.a 22 10 (by omega) (by omega))
theorem u_maj {s : St8} {t : S8} (h : US s t) : U (uXor (uXor (uAnd s.a s.b) (uAnd s.a s.c)) (uAnd s.b s.c)) (majN t) :=
  u_xor (u_xor (u_and h.a h.b) (u_and h.a h.c)) (u_and h.b h.c)
noncomputable def rndN (s : S8) (k w : Nat) : S8 := ⟨Nat.mod (Nat.add (t1N s k w) (Nat.mod (Nat.add (s0N s) (majN s)) 4294967296)) 4294967296, s.a, s.b, s.c, Nat.mod (Nat.add s.d (t1N s k w)) 4294967296, s.e, s.f, s.g⟩
noncomputable def rndBN (s : S8) (k w : Nat) : S8 := ⟨Nat.mod (Nat.add (Nat.mod (Nat.add (t1N s k w) (s0N s)) 4294967296) (majN s)) 4294967296, s.a, s.b, s.c, Nat.mod (Nat.add s.d (t1N s k w)) 4294967296, s.e, s.f, s.g⟩
theorem us_rnd {s : St8} {t : S8} (h : US s t) {k w : Int} {kn wn : Nat} (hk : U k kn) (hw : U w wn) : US (rnd s k w) (rndN t kn wn) :=
  ⟨u_add (u_t1 h hk hw) (u_add (u_s0 h) (u_maj h)), h.a, h.b, h.c, u_add h.d (u_t1 h hk hw), h.e, h.f, h.g⟩
theorem us_rndB {s : St8} {t : S8} (h : US s t) {k w : Int} {kn wn : Nat} (hk : U k kn) (hw : U w wn) : US (rndB s k w) (rndBN t kn wn) :=
  ⟨u_add (u_add (u_t1 h hk hw) (u_s0 h)) (u_maj h), h.a, h.b, h.c, u_add h.d (u_t1 h hk hw), h.e, h.f, h.g⟩
noncomputable def rndsN (f : S8 → Nat → Nat → S8) (ks : List Nat) : List Nat → S8 → S8 :=
  List.rec (motive := fun _ => List Nat → S8 → S8) (fun _ s => s) (fun k _ ih w s => match w with | [] => s | x :: w => ih w (f s k x)) ks
theorem us_rnds (ks : List Nat) (hks : ∀ k ∈ ks, k < 4294967296) : ∀ {ws : List Int} {ns : List Nat} {s : St8} {t : S8}, UL ws ns → US s t → US (rnds (ks.map Int.ofNat) ws s) (rndsN rndN ks ns t) := by
  induction ks with
  | nil => intro ws ns s t _ h; exact h
  | cons k ks ih =>
    intro ws ns s t hw h
    obtain ⟨rfl, hb⟩ := hw
    cases ns with
    | nil => exact h
    | cons n ns => exact ih (fun k hk => hks k (by simp [hk])) ⟨rfl, fun m hm => hb m (by simp [hm])⟩ (us_rnd h ⟨rfl, hks k (by simp)⟩ ⟨rfl, hb n (by simp)⟩)
theorem us_rndsB (ks : List Nat) (hks : ∀ k ∈ ks, k < 4294967296) : ∀ {ws : List Int} {ns : List Nat} {s : St8} {t : S8}, UL ws ns → US s t → US (rndsB (ks.map Int.ofNat) ws s) (rndsN rndBN ks ns t) := by
  induction ks with
  | nil => intro ws ns s t _ h; exact h
  | cons k ks ih =>
    intro ws ns s t hw h
    obtain ⟨rfl, hb⟩ := hw
    cases ns with
    | nil => exact h
    | cons n ns => exact ih (fun k hk => hks k (by simp [hk])) ⟨rfl, fun m hm => hb m (by simp [hm])⟩ (us_rndB h ⟨rfl, hks k (by simp)⟩ ⟨rfl, hb n (by simp)⟩)
noncomputable def kTabN : List Nat := [0x428a2f98, 0x71374491, 0xb5c0fbcf, 0xe9b5dba5, 0x3956c25b, 0x59f111f1, 0x923f82a4, 0xab1c5ed5,
    0xd807aa98, 0x12835b01, 0x243185be, 0x550c7dc3, 0x72be5d74, 0x80deb1fe, 0x9bdc06a7, 0xc19bf174,
    0xe49b69c1, 0xefbe4786, 0x0fc19dc6, 0x240ca1cc, 0x2de92c6f, 0x4a7484aa, 0x5cb0a9dc, 0x76f988da,
    0x983e5152, 0xa831c66d, 0xb00327c8, 0xbf597fc7, 0xc6e00bf3, 0xd5a79147, 0x06ca6351, 0x14292967,
    0x27b70a85, 0x2e1b2138, 0x4d2c6dfc, 0x53380d13, 0x650a7354, 0x766a0abb, 0x81c2c92e, 0x92722c85,
    0xa2bfe8a1, 0xa81a664b, 0xc24b8b70, 0xc76c51a3, 0xd192e819, 0xd6990624, 0xf40e3585, 0x106aa070,
    0x19a4c116, 0x1e376c08, 0x2748774c, 0x34b0bcb5, 0x391c0cb3, 0x4ed8aa4a, 0x5b9cca4f, 0x682e6ff3,
    0x748f82ee, 0x78a5636f, 0x84c87814, 0x8cc70208, 0x90befffa, 0xa4506ceb, 0xbef9a3f7, 0xc67178f2]
theorem kTab_eq : kTab = kTabN.map Int.ofNat := rfl
theorem kTab_lt : ∀ k ∈ kTabN, k < 4294967296 := by decide
noncomputable def st8N (l : List Nat) : S8 := ⟨nthN l 0, nthN l 1, nthN l 2, nthN l 3, nthN l 4, nthN l 5, nthN l 6, nthN l 7⟩
theorem us_st8 {ws : List Int} {ns : List Nat} (h : UL ws ns) : US (st8 ws) (st8N ns) := ⟨ul_nth h 0, ul_nth h 1, ul_nth h 2, ul_nth h 3, ul_nth h 4, ul_nth h 5, ul_nth h 6, ul_nth h 7⟩
noncomputable def schedule (b : List Nat) : List Nat := revN (schedN 48 (revN (wordsN 16 b) [])) []
noncomputable def sumN (h s : S8) : List Nat := [Nat.mod (Nat.add h.a s.a) 4294967296, Nat.mod (Nat.add h.b s.b) 4294967296, Nat.mod (Nat.add h.c s.c) 4294967296, Nat.mod (Nat.add h.d s.d) 4294967296, Nat.mod (Nat.add h.e s.e) 4294967296, Nat.mod (Nat.add h.f s.f) 4294967296, Nat.mod (Nat.add h.g s.g) 4294967296, Nat.mod (Nat.add h.h s.h) 4294967296]
noncomputable def roundN (h b : List Nat) : List Nat := sumN (st8N h) (rndsN rndN kTabN (schedule b) (st8N h))
noncomputable def blockN (h b : List Nat) : List Nat := sumN (rndsN rndBN kTabN (schedule b) (st8N h)) (st8N h)
theorem ul_sum {s s' : St8} {t t' : S8} (h : US s t) (k : US s' t') : UL [uAdd s.a s'.a, uAdd s.b s'.b, uAdd s.c s'.c, uAdd s.d s'.d, uAdd s.e s'.e, uAdd s.f s'.f, uAdd s.g s'.g, uAdd s.h s'.h] (sumN t t') :=
  ul_cons (u_add h.a k.a) (ul_cons (u_add h.b k.b) (ul_cons (u_add h.c k.c) (ul_cons (u_add h.d k.d) (ul_cons (u_add h.e k.e) (ul_cons (u_add h.f k.f) (ul_cons (u_add h.g k.g) (ul_cons (u_add h.h k.h) ul_nil)))))))
theorem ul_schedule {b : List Nat} (hb : ∀ x ∈ b, x < 256) : UL (revI (sched 48 (revI (wordsOf 16 (b.map Int.ofNat)) [])) []) (schedule b) :=
  ul_rev (ul_sched 48 (ul_rev (ul_words 16 b hb) ul_nil)) ul_nil
theorem ul_round {h : List Int} {hn b : List Nat} (hh : UL h hn) (hb : ∀ x ∈ b, x < 256) : UL (roundI h (b.map Int.ofNat)) (roundN hn b) := by
  have k := us_rnds kTabN kTab_lt (ul_schedule hb) (us_st8 hh)
  rw [← kTab_eq] at k
  exact ul_sum (us_st8 hh) k
theorem ul_block {h : List Int} {hn b : List Nat} (hh : UL h hn) (hb : ∀ x ∈ b, x < 256) : UL (blockI h (b.map Int.ofNat)) (blockN hn b) := by
  have k := us_rndsB kTabN kTab_lt (ul_schedule hb) (us_st8 hh)
  rw [← kTab_eq] at k
  exact ul_sum k (us_st8 hh)
end Go.Proofs.YtllfnhapnndngaaGreatDoor.E
