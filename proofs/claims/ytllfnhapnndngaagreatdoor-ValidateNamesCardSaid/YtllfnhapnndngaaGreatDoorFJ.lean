/- Short digests and chains in numbers, and the hooks that answer with them. -/
import Derived.Test.YtllfnhapnndngaaGreatDoorFH
import Derived.Test.YtllfnhapnndngaaGreatDoorFI
namespace Go.Proofs.YtllfnhapnndngaaGreatDoor.E
open Go Go.Proofs
set_option linter.unusedVariables false
set_option linter.unusedSimpArgs false
/-! ### Values made small -/
noncomputable def forceN {α : Type} (n : Nat) (k : Nat → α) : α := Nat.rec (motive := fun _ => α) (k 0) (fun m _ => k (Nat.succ m)) n
theorem forceN_eq {α : Type} (n : Nat) (k : Nat → α) : forceN n k = k n := by cases n <;> rfl
noncomputable def forceL {α : Type} (l : List Nat) : (List Nat → α) → α :=
  List.rec (motive := fun _ => (List Nat → α) → α) (fun k => k []) (fun x _ ih k => forceN x fun y => ih fun l => k (y :: l)) l
theorem forceL_eq {α : Type} (l : List Nat) : ∀ k : List Nat → α, forceL l k = k l := by
  induction l with
  | nil => intro k; rfl
  | cons x l ih =>
    intro k
    show forceN x (fun y => forceL l fun l => k (y :: l)) = _
    rw [forceN_eq, ih]
/-! ### Lists -/
theorem appL_eq {α : Type} (l m : List α) : appL l m = l ++ m := by
  induction l with
  | nil => rfl
  | cons x l ih => show x :: appL l m = _; rw [ih]; rfl
theorem mapI_eq (l : List Nat) : mapI l = l.map Int.ofNat := by
  induction l with
  | nil => rfl
  | cons x l ih => show Int.ofNat x :: mapI l = _; rw [ih]; rfl
def B256 (l : List Nat) : Prop := ∀ b ∈ l, b < 256
theorem B256.app {l m : List Nat} (h : B256 l) (k : B256 m) : B256 (l ++ m) := fun b hb => (List.mem_append.1 hb).elim (h b) (k b)
theorem B256.cons {x : Nat} {l : List Nat} (h : x < 256) (k : B256 l) : B256 (x :: l) := fun b hb => by
  rcases List.mem_cons.1 hb with rfl | hb
  · exact h
  · exact k b hb
theorem byteI_lt (z : Int) : byteI z < 256 := Nat.mod_lt _ (by omega)
theorem byteI_nat (n : Nat) : byteI (Int.ofNat n) = n % 256 := by
  unfold byteI
  rw [wrap_u8]
  show ((n : Int) % 256).toNat % 256 = n % 256
  omega
theorem B256.b4 {n : Int} {k : List Nat} (h : B256 k) : B256 (b4I n k) := .cons (byteI_lt _) (.cons (byteI_lt _) (.cons (byteI_lt _) (.cons (byteI_lt _) h)))
/-! ### Digests -/
noncomputable def wordBN (n : Nat) (k : List Nat) : List Nat := Nat.mod (Nat.shiftRight n 24) 256 :: Nat.mod (Nat.shiftRight n 16) 256 :: Nat.mod (Nat.shiftRight n 8) 256 :: Nat.mod n 256 :: k
noncomputable def short4N (w : List Nat) : List Nat := wordBN (nthN w 0) (wordBN (nthN w 1) (wordBN (nthN w 2) (wordBN (nthN w 3) [])))
theorem word_eq {z : Int} {n : Nat} (h : U z n) {k k' : List Nat} (hk : k = k') : wordB z k = wordBN n k' := by
  subst hk
  have e : ∀ j : Nat, j < 32 → byteI (uShr z (j : Int)) = Nat.mod (Nat.shiftRight n j) 256 := fun j hj => by
    rw [(u_shr h j hj).1, byteI_nat]; rfl
  have e0 : byteI z = Nat.mod n 256 := by rw [h.1, byteI_nat]; rfl
  unfold wordB wordBN
  rw [e0]
  have h24 := e 24 (by omega)
  have h16 := e 16 (by omega)
  have h8 := e 8 (by omega)
  rw [show ((24 : Nat) : Int) = 24 from rfl] at h24
  rw [show ((16 : Nat) : Int) = 16 from rfl] at h16
  rw [show ((8 : Nat) : Int) = 8 from rfl] at h8
  rw [h24, h16, h8]
theorem short4_eq {ws : List Int} {ns : List Nat} (h : UL ws ns) : short4 ws = short4N ns :=
  word_eq (ul_nth h 0) (word_eq (ul_nth h 1) (word_eq (ul_nth h 2) (word_eq (ul_nth h 3) rfl)))
theorem word_lt (n : Nat) {k : List Nat} (h : B256 k) : B256 (wordBN n k) := .cons (Nat.mod_lt _ (by omega)) (.cons (Nat.mod_lt _ (by omega)) (.cons (Nat.mod_lt _ (by omega)) (.cons (Nat.mod_lt _ (by omega)) h)))
theorem short4N_lt (w : List Nat) : B256 (short4N w) := word_lt _ (word_lt _ (word_lt _ (word_lt _ (by intro b hb; cases hb))))
noncomputable def initN : List Nat := [0x6a09e667, 0xbb67ae85, 0x3c6ef372, 0xa54ff53a, 0x510e527f, 0x9b05688c, 0x1f83d9ab, 0x5be0cd19]
theorem ul_init : UL initI initN := ⟨rfl, by decide⟩
noncomputable def shortA (pad m : List Nat) : List Nat := short4N (roundN initN (appL m pad))
noncomputable def shortB (pad m : List Nat) : List Nat := short4N (blockN initN (appL m pad))
theorem pad39_lt : B256 pad39 := by intro b hb; simp [pad39] at hb; omega
theorem padS_lt : B256 padS := by intro b hb; simp [padS] at hb; omega
theorem shortA_eq {pad m : List Nat} (hp : B256 pad) (hm : B256 m) : short4 (roundI initI (mapI (appL m pad))) = shortA pad m := by
  rw [mapI_eq]
  exact short4_eq (ul_round ul_init (by rw [appL_eq]; exact hm.app hp))
theorem shortB_eq {pad m : List Nat} (hp : B256 pad) (hm : B256 m) : short4 (blockI initI (mapI (appL m pad))) = shortB pad m := by
  rw [mapI_eq]
  exact short4_eq (ul_block ul_init (by rw [appL_eq]; exact hm.app hp))
/-- A chain, its steps made small. -/
noncomputable def chainN (f : List Nat → List Nat) (pre : List Nat) (n : Nat) : Nat → List Nat → List Nat :=
  Nat.rec (motive := fun _ => Nat → List Nat → List Nat) (fun _ v => v) (fun _ ih p v => forceL (f (appL pre (Nat.mod p 256 :: v))) fun v' => ih (Nat.succ p) v') n
noncomputable def preOf (id : List Nat) (leaf c : Int) : List Nat := 67 :: appL id (b4I leaf [byteI c])
theorem preOf_lt {id : List Nat} (h : B256 id) (leaf c : Int) : B256 (preOf id leaf c) := by
  unfold preOf
  rw [appL_eq]
  exact .cons (by omega) (h.app (B256.b4 (.cons (byteI_lt _) (by intro b hb; cases hb))))
theorem pre_app (id : List Nat) (leaf c : Int) (p : Nat) (v : List Nat) : appL (preOf id leaf c) (Nat.mod p 256 :: v) = 67 :: appL id (b4I leaf (byteI c :: byteI (Int.ofNat p) :: v)) := by
  rw [byteI_nat]
  unfold preOf
  rw [appL_eq, appL_eq, appL_eq]
  unfold b4I
  simp
  rfl
theorem chainI_eq {id : List Nat} (hid : B256 id) (leaf c : Int) (n : Nat) : ∀ p v, B256 v → chainI id leaf c n p v = chainN (shortA pad39) (preOf id leaf c) n p v := by
  induction n with
  | zero => intro p v _; rfl
  | succ n ih =>
    intro p v hv
    have hpre := preOf_lt hid leaf c
    have hm : B256 (appL (preOf id leaf c) (Nat.mod p 256 :: v)) := by rw [appL_eq]; exact hpre.app (.cons (Nat.mod_lt _ (by omega)) hv)
    show chainI id leaf c n (p + 1) (stepI id leaf c p v) = forceL (shortA pad39 (appL (preOf id leaf c) (Nat.mod p 256 :: v))) fun v' => chainN (shortA pad39) (preOf id leaf c) n (p + 1) v'
    rw [forceL_eq]
    have e : stepI id leaf c p v = shortA pad39 (appL (preOf id leaf c) (Nat.mod p 256 :: v)) := by
      rw [← shortA_eq pad39_lt hm, pre_app]; rfl
    rw [e]
    exact ih (p + 1) _ (short4N_lt _)
theorem chainB_eq {id : List Nat} (hid : B256 id) (leaf c : Int) (n : Nat) : ∀ p v, B256 v → chainB id leaf c n p v = chainN (shortB pad39) (preOf id leaf c) n p v := by
  induction n with
  | zero => intro p v _; rfl
  | succ n ih =>
    intro p v hv
    have hpre := preOf_lt hid leaf c
    have hm : B256 (appL (preOf id leaf c) (Nat.mod p 256 :: v)) := by rw [appL_eq]; exact hpre.app (.cons (Nat.mod_lt _ (by omega)) hv)
    show chainB id leaf c n (p + 1) (stepB id leaf c p v) = forceL (shortB pad39 (appL (preOf id leaf c) (Nat.mod p 256 :: v))) fun v' => chainN (shortB pad39) (preOf id leaf c) n (p + 1) v'
    rw [forceL_eq]
    have e : stepB id leaf c p v = shortB pad39 (appL (preOf id leaf c) (Nat.mod p 256 :: v)) := by
      rw [← shortB_eq pad39_lt hm, pre_app]; rfl
    rw [e]
    exact ih (p + 1) _ (short4N_lt _)
noncomputable def secretN (seed : List Nat) (leaf c : Int) : List Nat := shortA padS (83 :: appL seed (b4I leaf [byteI c]))
theorem secretI_eq {seed : List Nat} (h : B256 seed) (leaf c : Int) : secretI seed leaf c = secretN seed leaf c :=
  shortA_eq padS_lt (by rw [appL_eq]; exact .cons (by omega) (h.app (B256.b4 (.cons (byteI_lt _) (by intro b hb; cases hb)))))
/-! ### The hooks -/
theorem bytesN_lt (s : ByteArray) : B256 (bytesN s) := by
  intro b hb
  unfold bytesN at hb
  obtain ⟨u, _, rfl⟩ := List.mem_map.1 hb
  exact u.toNat_lt
theorem str_lt {ρ : Rho} {l : List Nat} {y : Value} (h : R ρ (.str l) y) : B256 l := by
  cases h with | str s _ hs => subst hs; exact bytesN_lt s
noncomputable def oneW (x : AV) (k : Nat → Option (List Nat)) : Option (List Nat) :=
  match x with
  | .int .u32 (.ofNat n) => bif Nat.blt n 4294967296 then forceN n k else none
  | _ => none
noncomputable def oneB (x : AV) (k : Nat → Option (List Nat)) : Option (List Nat) :=
  match x with
  | .int .u8 (.ofNat n) => bif Nat.blt n 256 then forceN n k else none
  | _ => none
noncomputable def wordsU (l : List AV) : Option (List Nat) :=
  List.rec (motive := fun _ => Option (List Nat)) (some []) (fun x _ ih => oneW x fun m => ih.bind fun r => some (m :: r)) l
noncomputable def bytesU (l : List AV) : Option (List Nat) :=
  List.rec (motive := fun _ => Option (List Nat)) (some []) (fun x _ ih => oneB x fun m => ih.bind fun r => some (m :: r)) l
theorem wordsU_ok {l : List AV} : ∀ {ns : List Nat}, wordsU l = some ns → intsE u32E l = some (ns.map Int.ofNat) ∧ ∀ n ∈ ns, n < 4294967296 := by
  induction l with
  | nil => intro ns h; cases h; exact ⟨rfl, by simp⟩
  | cons x l ih =>
    intro ns h
    replace h : oneW x (fun m => (wordsU l).bind fun r => some (m :: r)) = some ns := h
    unfold oneW at h
    split at h
    · rename_i n
      replace h := cond_some h
      obtain ⟨hc, h⟩ := h
      rw [Nat.blt_eq] at hc
      rw [forceN_eq] at h
      simp only [Option.bind_eq_some_iff, Option.some.injEq] at h
      obtain ⟨r, hr, rfl⟩ := h
      obtain ⟨h1, h2⟩ := ih hr
      refine ⟨?_, fun m hm => ?_⟩
      · have e : intsE u32E (.int .u32 (Int.ofNat n) :: l) = (u32E (.int .u32 (Int.ofNat n))).bind (fun n => (intsE u32E l).bind fun r => some (n :: r)) := rfl
        rw [e, h1]; rfl
      · rcases List.mem_cons.1 hm with rfl | hm
        · exact hc
        · exact h2 m hm
    · cases h
theorem bytesU_ok {l : List AV} : ∀ {ns : List Nat}, bytesU l = some ns → intsE u8E l = some (ns.map Int.ofNat) ∧ B256 ns := by
  induction l with
  | nil => intro ns h; cases h; exact ⟨rfl, by intro b hb; cases hb⟩
  | cons x l ih =>
    intro ns h
    replace h : oneB x (fun m => (bytesU l).bind fun r => some (m :: r)) = some ns := h
    unfold oneB at h
    split at h
    · rename_i n
      replace h := cond_some h
      obtain ⟨hc, h⟩ := h
      rw [Nat.blt_eq] at hc
      rw [forceN_eq] at h
      simp only [Option.bind_eq_some_iff, Option.some.injEq] at h
      obtain ⟨r, hr, rfl⟩ := h
      obtain ⟨h1, h2⟩ := ih hr
      refine ⟨?_, .cons hc h2⟩
      have e : intsE u8E (.int .u8 (Int.ofNat n) :: l) = (u8E (.int .u8 (Int.ofNat n))).bind (fun n => (intsE u8E l).bind fun r => some (n :: r)) := rfl
      rw [e, h1]; rfl
    · cases h
noncomputable def lt256 (l : List Nat) : Bool := List.rec (motive := fun _ => Bool) true (fun x _ ih => bif Nat.blt x 256 then ih else false) l
theorem lt256_ok {l : List Nat} (h : lt256 l = true) : B256 l := by
  induction l with
  | nil => intro b hb; cases hb
  | cons x l ih =>
    change (bif Nat.blt x 256 then lt256 l else false) = true at h
    cases hc : Nat.blt x 256 <;> rw [hc] at h
    · cases h
    · rw [Nat.blt_eq] at hc; exact .cons hc (ih h)
noncomputable def u32N (n : Nat) : AV := .int .u32 (Int.ofNat n)
/-- Blocks, when all is known. -/
noncomputable def shaN : CF := fun f xs H =>
  bif Nat.beq f 165 then
    (match xs with
    | [.sl g v o 8 1 c, .str b] => (rowE H g v o 8).bind fun l => (wordsU l).bind fun h => bif Nat.beq b.length 64 && lt256 b then
        forceL (roundN h b) fun r => some (.sl H.next 0 0 8 1 none, H.new (r.map u32N)) else none
    | _ => none)
  else bif Nat.beq f 380 then
    (match xs with
    | [.agg hl, .sl g v o 64 1 c] => (rowE H g v o 64).bind fun l => (bytesU l).bind fun b => (wordsU hl).bind fun h => bif Nat.beq h.length 8 then
        forceL (blockN h b) fun r => some (.agg (r.map u32N), H) else none
    | _ => none)
  else none
theorem shaI_round (g v o : Nat) (c : Option Nat) (b : List Nat) (H : AH) : shaI 165 [.sl g v o 8 1 c, .str b] H = (rowE H g v o 8).bind fun l => (intsE u32E l).bind fun h => bif Nat.beq b.length 64 then
        some (.sl H.next 0 0 8 1 none, H.new ((roundI h (b.map Int.ofNat)).map (AV.int .u32))) else none := rfl
theorem shaI_block (hl : List AV) (g v o : Nat) (c : Option Nat) (H : AH) : shaI 380 [.agg hl, .sl g v o 64 1 c] H = (rowE H g v o 64).bind fun l => (intsE u8E l).bind fun b => (intsE u32E hl).bind fun h => bif Nat.beq h.length 8 then
        some (.agg ((blockI h b).map (AV.int .u32)), H) else none := rfl
theorem map_u32N (r : List Nat) : (r.map Int.ofNat).map (AV.int .u32) = r.map u32N := by rw [List.map_map]; rfl
theorem shaN_shaI {f : FuncId} {xs : List AV} {H H' : AH} {v : AV} (h : shaN f xs H = some (v, H')) : shaI f xs H = some (v, H') := by
  unfold shaN at h
  cases hf : Nat.beq f 165 with
  | true =>
    rw [hf] at h
    simp only [cond_true] at h
    have := Nat.eq_of_beq_eq_true hf
    subst this
    split at h
    · simp only [Option.bind_eq_some_iff] at h
      obtain ⟨l, hl, ns, hns, h⟩ := h
      replace h := cond_some h
      obtain ⟨hb, h⟩ := h
      simp only [Bool.and_eq_true] at hb
      rw [forceL_eq] at h
      obtain ⟨h1, h2⟩ := wordsU_ok hns
      rw [shaI_round, hl, Option.bind_some, h1, Option.bind_some, hb.1]
      simp only [cond_true]
      rw [(ul_round (hn := ns) ⟨rfl, h2⟩ (lt256_ok hb.2)).1, map_u32N]
      exact h
    · cases h
  | false =>
    rw [hf] at h
    simp only [cond_false] at h
    replace h := cond_some h
    obtain ⟨hf2, h⟩ := h
    have := Nat.eq_of_beq_eq_true hf2
    subst this
    split at h
    · simp only [Option.bind_eq_some_iff] at h
      obtain ⟨l, hl, bs, hbs, ns, hns, h⟩ := h
      replace h := cond_some h
      obtain ⟨hb, h⟩ := h
      rw [forceL_eq] at h
      obtain ⟨h1, h2⟩ := wordsU_ok hns
      obtain ⟨k1, k2⟩ := bytesU_ok hbs
      rw [shaI_block, hl, Option.bind_some, k1, Option.bind_some, h1, Option.bind_some, List.length_map, hb]
      simp only [cond_true]
      rw [(ul_block (hn := ns) ⟨rfl, h2⟩ k2).1, map_u32N]
      exact h
    · cases h
theorem shaN_ok : CallOk Tryz.prog shaN := fun f xs H v H' h => shaI_ok f xs H v H' (shaN_shaI h)
theorem shaN_log : LogOk shaN := fun f xs H v H' h => shaI_log f xs H v H' (shaN_shaI h)
noncomputable def walkN : CF := fun f xs H =>
  bif Nat.beq f 110 then
    (match xs with
    | [.str id, .int .i64 leaf, .int .i64 c, .int .i64 (.ofNat a), .int .i64 (.ofNat d), .str v] => bif Nat.beq id.length 16 && (Nat.beq v.length 16 && (Nat.beq a 0 && Nat.blt d 16)) then
        forceL (preOf id leaf c) fun pre => forceL (chainN (shortA pad39) pre d 0 v) fun r => some (.str r, H) else none
    | _ => none)
  else bif Nat.beq f 339 then
    (match xs with
    | [.str id, .int .i64 leaf, .int .i64 c, .int .i64 (.ofNat a), .int .i64 (.ofNat d), .str v] => bif Nat.beq id.length 16 && (Nat.beq v.length 16 && (Nat.beq d 15 && Nat.blt a 16)) then
        forceL (preOf id leaf c) fun pre => forceL (chainN (shortB pad39) pre (15 - a) a v) fun r => some (.str r, H) else none
    | _ => none)
  else bif Nat.beq f 111 then
    (match xs with
    | [.str seed, .int .i64 leaf, .int .i64 c] => bif Nat.beq seed.length 32 then forceL (secretN seed leaf c) fun r => some (.str r, H) else none
    | _ => none)
  else shaN f xs H
theorem walkN_log : LogOk walkN := by
  intro f xs H v H' h
  unfold walkN at h
  rcases cond_two h with h | h
  · split at h
    · replace h := cond_some h
      obtain ⟨_, h⟩ := h
      rw [forceL_eq, forceL_eq] at h
      cases h; exact Logged.refl _
    · cases h
  · rcases cond_two h with h | h
    · split at h
      · replace h := cond_some h
        obtain ⟨_, h⟩ := h
        rw [forceL_eq, forceL_eq] at h
        cases h; exact Logged.refl _
      · cases h
    · rcases cond_two h with h | h
      · split at h
        · replace h := cond_some h
          obtain ⟨_, h⟩ := h
          rw [forceL_eq] at h
          cases h; exact Logged.refl _
        · cases h
      · exact shaN_log _ _ _ _ _ h
theorem strOf_some {x : Option (AV × AH)} {l : List Nat} (h : strOf x = some l) : ∃ H', x = some (.str l, H') := by
  unfold strOf at h
  split at h
  · cases h; exact ⟨_, rfl⟩
  · cases h
theorem walkN_ok : CallOk Tryz.prog walkN := by
  have hb8 : CallOk Tryz.prog (runF shaI 8) := runF_ok shaI_ok shaI_log 8
  have hb9 : CallOk Tryz.prog (runF shaI 9) := runF_ok shaI_ok shaI_log 9
  intro f xs H v H' h ρ w args hr hx
  unfold walkN at h
  cases hf : Nat.beq f 110 with
  | true =>
    rw [hf] at h
    simp only [cond_true] at h
    have := Nat.eq_of_beq_eq_true hf
    subst this
    split at h
    · rename_i id leaf c a d vv
      replace h := cond_some h
      obtain ⟨hc, h⟩ := h
      simp only [Bool.and_eq_true, Nat.beq_eq, Nat.blt_eq] at hc
      obtain ⟨g1, g2, rfl, g4⟩ := hc
      rw [forceL_eq, forceL_eq] at h
      cases h
      have hid : B256 id := by
        generalize args.toList = vs at hx
        cases hx with | cons _ _ _ _ hh _ => exact str_lt hh
      have hvv : B256 vv := by
        generalize args.toList = vs at hx
        cases hx with | cons _ _ _ _ _ hx => cases hx with | cons _ _ _ _ _ hx => cases hx with | cons _ _ _ _ _ hx => cases hx with | cons _ _ _ _ _ hx => cases hx with | cons _ _ _ _ _ hx => cases hx with | cons _ _ _ _ hh _ => exact str_lt hh
      have hrun := walkA_run (fun i => (id[i]?).getD 0) (fun i => (vv[i]?).getD 0) leaf c d g4
      rw [← map_range id 0 16 g1, ← map_range vv 0 16 g2, chainI_eq hid leaf c d 0 vv hvv] at hrun
      obtain ⟨Hc, he⟩ := strOf_some hrun
      exact flat_call hb8 he rfl rfl hr hx
    · cases h
  | false =>
    rw [hf] at h
    simp only [cond_false] at h
    cases hf2 : Nat.beq f 339 with
    | true =>
      rw [hf2] at h
      simp only [cond_true] at h
      have := Nat.eq_of_beq_eq_true hf2
      subst this
      split at h
      · rename_i id leaf c a d vv
        replace h := cond_some h
        obtain ⟨hc, h⟩ := h
        simp only [Bool.and_eq_true, Nat.beq_eq, Nat.blt_eq] at hc
        obtain ⟨g1, g2, rfl, g4⟩ := hc
        rw [forceL_eq, forceL_eq] at h
        cases h
        have hid : B256 id := by
          generalize args.toList = vs at hx
          cases hx with | cons _ _ _ _ hh _ => exact str_lt hh
        have hvv : B256 vv := by
          generalize args.toList = vs at hx
          cases hx with | cons _ _ _ _ _ hx => cases hx with | cons _ _ _ _ _ hx => cases hx with | cons _ _ _ _ _ hx => cases hx with | cons _ _ _ _ _ hx => cases hx with | cons _ _ _ _ _ hx => cases hx with | cons _ _ _ _ hh _ => exact str_lt hh
        have hrun := walkB_run (fun i => (id[i]?).getD 0) (fun i => (vv[i]?).getD 0) leaf c a g4
        rw [← map_range id 0 16 g1, ← map_range vv 0 16 g2, chainB_eq hid leaf c (15 - a) a vv hvv] at hrun
        obtain ⟨Hc, he⟩ := strOf_some hrun
        exact flat_call hb9 he rfl rfl hr hx
      · cases h
    | false =>
      rw [hf2] at h
      simp only [cond_false] at h
      cases hf3 : Nat.beq f 111 with
      | true =>
        rw [hf3] at h
        simp only [cond_true] at h
        have := Nat.eq_of_beq_eq_true hf3
        subst this
        split at h
        · rename_i seed leaf c
          replace h := cond_some h
          obtain ⟨hc, h⟩ := h
          have g1 := Nat.eq_of_beq_eq_true hc
          rw [forceL_eq] at h
          cases h
          have hseed : B256 seed := by
            generalize args.toList = vs at hx
            cases hx with | cons _ _ _ _ hh _ => exact str_lt hh
          have hrun := secret_run (fun i => (seed[i]?).getD 0) leaf c
          rw [← map_range seed 0 32 g1, secretI_eq hseed] at hrun
          obtain ⟨Hc, he⟩ := strOf_some hrun
          exact flat_call hb8 he rfl rfl hr hx
        · cases h
      | false =>
        rw [hf3] at h
        simp only [cond_false] at h
        exact shaN_ok f xs H v H' h ρ w args hr hx
end Go.Proofs.YtllfnhapnndngaaGreatDoor.E
