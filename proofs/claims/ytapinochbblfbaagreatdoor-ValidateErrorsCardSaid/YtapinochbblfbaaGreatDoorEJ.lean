/- len, copy, the conversions, and rows that are made. The conversions. Records and rows built out of parts; new rows of zeros. Equality of records, and the operators of two operands together. Operations that make a block and do no more. -/
import Derived.Test.YtapinochbblfbaaGreatDoorEF
import Derived.Laws.BytesString
import Derived.Laws.StructEq
import Derived.Laws.MakeOwn
namespace Go.Proofs.YtapinochbblfbaaGreatDoor.E
open Go
set_option linter.unusedVariables false
set_option linter.unusedSimpArgs false
section
variable {P : Program} {T : TypeId → Option TI} {w : World} {ρ : Rho} {H : AH}
/-! ### len -/
noncomputable def lenE (T : TypeId → Option TI) (H : AH) (t : TypeId) (x : AV) : Option AV :=
  (T t).bind fun i => match i.td, x with
    | .string, .str l => some (.int .i64 (Int.ofNat l.length))
    | .slice _, .nils => some (.int .i64 0)
    | .slice _, .sl _ _ _ len _ _ => some (.int .i64 (Int.ofNat len))
    | .array n _, _ => some (.int .i64 (Int.ofNat n))
    | .map _ _, .nilm => some (.int .i64 0)
    | .map _ _, .map f => (H.t.get f).bind fun b => match b with
      | .map es _ => some (.int .i64 (Int.ofNat es.length))
      | _ => none
    | _, _ => none
theorem RM.length {l : List (AV × AV)} {es : List MapEntry} {n : Nat} (h : RM ρ l es n) : l.length = es.length := by
  induction h with
  | nil n => rfl
  | cons k v e l es n hk hv h ih => simp [ih]
theorem run_len_ok (hT : Types P T) (hr : Rel ρ H w) {t ty : TypeId} {x z : AV} {y : Value} (h : lenE T H t x = some z) (hx : R ρ x y) : ∃ u, (Builtin.len_ #[t] ty #[y]).run P w = .ok u w ∧ R ρ z u := by
  simp only [lenE, Option.bind_eq_some_iff] at h
  obtain ⟨i, hi, h⟩ := h
  obtain ⟨d, hd, hok⟩ := run_under (P := P) (w := w) hT hi
  split at h
  · rename_i htd
    rw [htd] at hok
    cases hok
    cases h
    cases hx with
    | str s _ hs =>
      subst hs
      exact ⟨.int .i64 s.size, by simp [Builtin.len_, hd, goInt], by rw [bytesN_length]; exact .int _ _⟩
  · rename_i e htd
    rw [htd] at hok
    cases hok
    cases h
    cases hx
    exact ⟨.int .i64 0, by simp [Builtin.len_, hd, goInt], .int _ _⟩
  · rename_i e f v o len es c htd
    rw [htd] at hok
    cases hok
    cases h
    cases hx with
    | sl => exact ⟨.int .i64 len, by simp [Builtin.len_, hd, goInt], .int _ _⟩
    | sle => exact ⟨.int .i64 0, by simp [Builtin.len_, hd, goInt], .int _ _⟩
  · rename_i n e htd
    rw [htd] at hok
    cases hok
    cases h
    exact ⟨.int .i64 n, by simp [Builtin.len_, hd, goInt], .int _ _⟩
  · rename_i k e htd
    rw [htd] at hok
    cases hok
    cases h
    cases hx
    exact ⟨.int .i64 0, by simp [Builtin.len_, hd, goInt], .int _ _⟩
  · rename_i k e f htd
    rw [htd] at hok
    cases hok
    simp only [Option.bind_eq_some_iff] at h
    obtain ⟨b, hb, h⟩ := h
    split at h
    · rename_i es clock
      cases h
      cases hx with
      | map _ im him =>
        obtain ⟨as, ck, h1, h3, _⟩ := hr.blk f _ hb im him
        refine ⟨.int .i64 as.size, ?_, ?_⟩
        · have : (getObj im.cb).run P w = .ok (.map as ck) w := by simp [getObj, Sem.run, h1]
          simp [Builtin.len_, hd, goInt, this]
        · have := h3.length
          simp only [Array.length_toList] at this
          rw [this]; exact .int _ _
    · cases h
  · cases h

/-! ### copy -/
noncomputable def copyE (T : TypeId → Option TI) (H : AH) (t : TypeId) (dst src : AV) : Option (AV × AH) :=
  (T t).bind fun i => match i.td with
    | .slice e => (T e).bind fun j => match dst with
      | .sl f v o len es c => bif Nat.beq es j.size then
          (srcE H j.size src).bind fun p =>
            bif Nat.ble 1 p.1 && Nat.ble p.1 len then
              (H.t.get f).bind fun b => match b with
                | .cells lo hi n cs => bif Nat.beq v hi && Nat.ble lo hi then some (.int .i64 (Int.ofNat p.1), H.put f hi n (cs.puts o p.2)) else none
                | _ => none
            else none
        else none
      | _ => none
    | _ => none
theorem run_copy_ok (hT : Types P T) (hr : Rel ρ H w) {t tx ty : TypeId} {s x z : AV} {sv xv : Value} {H' : AH} (h : copyE T H t s x = some (z, H')) (hs : R ρ s sv) (hx : R ρ x xv) :
    ∃ w' u, (Builtin.copy_ #[t, tx] ty #[sv, xv]).run P w = .ok u w' ∧ R ρ z u ∧ Rel ρ H' w' ∧ Stp ρ H w ρ H' w' := by
  simp only [copyE, Option.bind_eq_some_iff] at h
  obtain ⟨i, hi, h⟩ := h
  obtain ⟨d, hd, hok⟩ := run_under (P := P) (w := w) hT hi
  split at h
  · rename_i e htd
    rw [htd] at hok
    cases hok
    simp only [Option.bind_eq_some_iff] at h
    obtain ⟨j, hj, h⟩ := h
    have hS : (sizeOf e).run P w = .ok j.size w := run_sizeOf hT hj
    split at h
    · rename_i f v o len es c
      replace h := cond_some h
      obtain ⟨hes, h⟩ := h
      rw [Nat.beq_eq] at hes
      simp only [Option.bind_eq_some_iff] at h
      obtain ⟨⟨n, l⟩, hsrc, h⟩ := h
      replace h := cond_some h
      obtain ⟨hnl, h⟩ := h
      simp only [Bool.and_eq_true, Nat.ble_eq] at hnl
      obtain ⟨hn1, hnl⟩ := hnl
      simp only [Option.bind_eq_some_iff] at h
      obtain ⟨b, hb, h⟩ := h
      split at h
      · rename_i lo hi' nn cs
        replace h := cond_some h
        obtain ⟨hc2, h⟩ := h
        simp only [Bool.and_eq_true, Nat.ble_eq, Nat.beq_eq] at hc2
        obtain ⟨rfl, hlo⟩ := hc2
        simp only [Option.some.injEq, Prod.mk.injEq] at h
        obtain ⟨rfl, rfl⟩ := h
        obtain ⟨ys, hrun, hl, hll, h1⟩ := src_ok (P := P) hr hsrc hx
        have hlen := (hrun w rfl).1
        have hfirst := (hrun w rfl).2
        have hmin : Nat.min n len = n := Nat.min_eq_left hnl
        cases hs with
        | sl _ _ _ _ _ _ im cap him hl1 hs' hrm hcap =>
          have hmul : n * es ≤ len * es := Nat.mul_le_mul_right _ hnl
          rw [← hes] at hll
          obtain ⟨cs0, el, fr, e1, e2, e3, e4, e5⟩ := hr.store him hb hlo hl h1 (o := o) (by omega)
          refine ⟨_, _, ?_, .int _ _, e4, e5⟩
          have hst := run_storeCells (P := P) im.cb (im.base + o) el fr ys 0 cs0 w e1 e3 (by simpa using e2) (hl.oneCell h1)
          simp only [Nat.add_zero] at hst
          simp [Builtin.copy_, hd, hlen, hmin, hS, hfirst, goInt, hst]
        | sle _ _ _ _ _ im off him hc0 =>
          omega
      · cases h
    · cases h
  · cases h
end
end Go.Proofs.YtapinochbblfbaaGreatDoor.E
namespace Go.Proofs.YtapinochbblfbaaGreatDoor.E
open Go
set_option linter.unusedVariables false
set_option linter.unusedSimpArgs false
section
variable {P : Program} {T : TypeId → Option TI} {w : World} {ρ : Rho} {H : AH}
noncomputable def byteE : AV → Option Nat
  | .int .u8 z => some (Nat.mod z.toNat 256)
  | _ => none
theorem byteE_ok {x : AV} {n : Nat} (h : byteE x = some n) : ∃ z : Int, x = .int .u8 z ∧ n = z.toNat % 256 := by
  unfold byteE at h
  split at h
  · cases h; exact ⟨_, rfl, rfl⟩
  · cases h
/-- The bytes that cells hold. -/
noncomputable def bytesE (l : List AV) : Option (List Nat) :=
  List.rec (motive := fun _ => Option (List Nat)) (some []) (fun x _ ih => (byteE x).bind fun n => ih.bind fun r => some (n :: r)) l
theorem bytesE_ok : ∀ {l : List AV} {bs : List Nat}, bytesE l = some bs → ∀ {vs : List Value}, RL ρ l vs → ∃ zs : List Int, vs = zs.map (Value.int .u8) ∧ bs = zs.map fun z => z.toNat % 256 := by
  intro l
  induction l with
  | nil => intro bs h vs hl; cases h; cases hl; exact ⟨[], rfl, rfl⟩
  | cons x l ih =>
    intro bs h vs hl
    change ((byteE x).bind fun n => (bytesE l).bind fun r => some (n :: r)) = some bs at h
    simp only [Option.bind_eq_some_iff, Option.some.injEq] at h
    obtain ⟨n, hn, r, hr, rfl⟩ := h
    obtain ⟨z, rfl, rfl⟩ := byteE_ok hn
    cases hl with
    | cons _ y _ ys hy hs =>
      obtain ⟨zs, rfl, rfl⟩ := ih hr hs
      cases hy
      exact ⟨z :: zs, rfl, rfl⟩
theorem bytesN_push (s : ByteArray) (b : UInt8) : bytesN (s.push b) = bytesN s ++ [b.toNat] := by
  simp [bytesN, ByteArray.data_push]
theorem bytesN_fold (zs : List Int) : ∀ s : ByteArray, bytesN (zs.foldl (fun r n => r.push (UInt8.ofNat n.toNat)) s) = bytesN s ++ zs.map fun z => z.toNat % 256 := by
  induction zs with
  | nil => intro s; simp
  | cons z zs ih =>
    intro s
    simp only [List.map_cons, List.foldl_cons]
    rw [ih, bytesN_push, UInt8.toNat_ofNat']
    simp
noncomputable def convE (T : TypeId → Option TI) (H : AH) (src dst : TypeId) (x : AV) : Option (AV × AH) :=
  (T src).bind fun i => (T dst).bind fun k => match x with
    | .int _ n => (match k.td with
      | .int kd => some (.int kd (kd.wrap n), H)
      | _ => none)
    | .str l => (match k.td with
      | .string => some (.str l, H)
      | .slice e => (T e).bind fun j => (match j.td with
        | .int .u8 => bif Nat.ble l.length 1000000 then some (.sl H.next 0 0 l.length 1 none, H.new (l.map fun b => .int .u8 (Int.ofNat b))) else none
        | _ => none)
      | _ => none)
    | .nils => (match i.td, k.td with
      | .slice e, .string => (T e).bind fun j => (match j.td with
        | .int .u8 => some (.str [], H)
        | _ => none)
      | _, _ => none)
    | .sl f v o len es c => (match i.td, k.td with
      | .slice e, .string => (T e).bind fun j => (match j.td with
        | .int .u8 => (srcE H 1 (.sl f v o len es c)).bind fun p => (bytesE p.2).bind fun bs => some (.str bs, H)
        | _ => none)
      | _, _ => none)
    | _ => none
theorem push_modify {α : Type} (h : Array α) (o : α) (f : α → α) : (h.push o).modify h.size f = h.push (f o) := by
  apply Array.ext_getElem?
  intro i
  rw [Array.getElem?_modify, Array.getElem?_push, Array.getElem?_push]
  by_cases e : i = h.size
  · subst e; simp
  · rw [if_neg e, if_neg e, if_neg (fun h => e h.symm)]
theorem run_conv_ok (hT : Types P T) (hr : Rel ρ H w) {src dst : TypeId} {x z : AV} {y : Value} {H' : AH} (h : convE T H src dst x = some (z, H')) (hx : R ρ x y) :
    ∃ ρ' w' u, (convert src dst y).run P w = .ok u w' ∧ R ρ' z u ∧ Rel ρ' H' w' ∧ Stp ρ H w ρ' H' w' := by
  simp only [convE, Option.bind_eq_some_iff] at h
  obtain ⟨i, hi, k, hk, h⟩ := h
  obtain ⟨d, hd, hok⟩ := run_under (P := P) (w := w) hT hi
  obtain ⟨dk, hdk, hokk⟩ := run_under (P := P) (w := w) hT hk
  split at h
  · split at h
    · rename_i kd htd
      rw [htd] at hokk
      cases hokk
      cases h
      cases hx
      exact ⟨ρ, w, _, by simp [convert, hd, hdk, Conv.intToInt], .int _ _, hr, Stp.refl _ _ _⟩
    · cases h
  · rename_i l
    split at h
    · rename_i htd
      rw [htd] at hokk
      cases hokk
      cases h
      cases hx with
      | str s _ hs => exact ⟨ρ, w, .string s, by simp [convert, hd, hdk], .str _ _ hs, hr, Stp.refl _ _ _⟩
    · rename_i e htd
      rw [htd] at hokk
      cases hokk
      simp only [Option.bind_eq_some_iff] at h
      obtain ⟨j, hj, h⟩ := h
      obtain ⟨de, hde, hoke⟩ := run_under (P := P) (w := w) hT hj
      split at h
      · rename_i htde
        rw [htde] at hoke
        cases hoke
        replace h := cond_some h
        obtain ⟨hlen, h⟩ := h
        rw [Nat.ble_eq] at hlen
        cases h
        cases hx with
        | str s _ hs =>
          subst hs
          have hq : (Question.appendCap s.size 0 e).forced = false := rfl
          have hge : s.size ≤ grownCap w s.size 0 e := grownCap_ge _ _ _ _
          obtain ⟨cs, hcs⟩ : ∃ cs : Array Value, cs = (s.data.map fun b => Value.int .u8 b.toNat) ++ Array.replicate (grownCap w s.size 0 e - s.size) (.int .u8 0) := ⟨_, rfl⟩
          have hsz : cs.size = grownCap w s.size 0 e := by
            rw [hcs]; simp; have : s.data.size = s.size := rfl; omega
          have hrun : (convert src dst (.string s)).run P w = .ok (.slice (some ⟨w.heap.size, 0, none⟩) s.size (grownCap w s.size 0 e)) ((w.drew.alloc (.cells cs e)).freeze ⟨w.heap.size, cs.size, none⟩ 1) := by
            have hsh : (w.drew.alloc (.cells cs e)).shape? w.heap.size = some (e, cs.size) := by
              have := heap_alloc_new w.drew (.cells cs e)
              unfold World.shape?
              rw [show w.heap.size = w.drew.heap.size from rfl, this]
            have hcs' : cs = (s.data.map fun b => Value.int .u8 b.toNat) ++ Array.replicate ((Question.appendCap s.size 0 e).cut (w.tape w.drawn (Question.appendCap s.size 0 e)) - s.size) (.int .u8 0) := hcs
            simp [convert, hd, hdk, hde, Conv.stringToBytes, hq, newRow, markStringish, ← hcs', hsh]
            rfl
          have hheap : ((w.drew.alloc (.cells cs e)).freeze ⟨w.heap.size, cs.size, none⟩ 1).heap = w.heap.push (.cells cs e (cs.size, cs.size + 1)) := by
            unfold World.freeze
            rw [if_neg (by decide)]
            have e0 : (w.drew.alloc (.cells cs e)).heap = w.heap.push (.cells cs e) := rfl
            simp only [e0]
            rw [push_modify]
            simp
          obtain ⟨ρ', a, b, c⟩ := hr.alloc (w' := (w.drew.alloc (.cells cs e)).freeze ⟨w.heap.size, cs.size, none⟩ 1) (l := (bytesN s).map fun b => .int .u8 (Int.ofNat b)) (by intro x hx; simp only [List.mem_map] at hx; obtain ⟨_, _, rfl⟩ := hx; rfl)
            (bytes_cells s) (cs := cs) (el := e) (fr := (cs.size, cs.size + 1))
            (by
              intro j y hj
              rw [hcs]
              have hlt : j < (s.data.map fun b => Value.int .u8 b.toNat).size := by
                rcases Nat.lt_or_ge j (s.data.map fun b => Value.int .u8 b.toNat).size with h | h
                · exact h
                · rw [Array.getElem?_toList, Array.getElem?_eq_none h] at hj; cases hj
              rw [Array.getElem?_append, if_pos hlt]
              simpa using hj)
            (by intro o h1 h2; simpa using h1) hheap rfl rfl rfl
          refine ⟨ρ', _, _, hrun, ?_, a, b⟩
          have := R.sl (ρ := ρ') H.next 0 0 s.size 1 none _ (grownCap w s.size 0 e) c hge (by simp [bytesN_length]) (by show 0 + _ * 1 ≤ _ + (_ - _); simp only [List.length_map, bytesN_length, hsz]; omega) (by intro n hn; cases hn)
          rw [bytesN_length]
          simpa using this
      · cases h
    · cases h
  · split at h
    · rename_i e htd htk
      rw [htd] at hok
      rw [htk] at hokk
      cases hok
      cases hokk
      simp only [Option.bind_eq_some_iff] at h
      obtain ⟨j, hj, h⟩ := h
      obtain ⟨de, hde, hoke⟩ := run_under (P := P) (w := w) hT hj
      split at h
      · rename_i htde
        rw [htde] at hoke
        cases hoke
        cases h
        cases hx
        exact ⟨ρ, w, .string .empty, by simp [convert, hd, hdk, hde, Conv.bytesToString], .str _ _ rfl, hr, Stp.refl _ _ _⟩
      · cases h
    · cases h
  · rename_i f v o len es c
    split at h
    · rename_i e htd htk
      rw [htd] at hok
      rw [htk] at hokk
      cases hok
      cases hokk
      simp only [Option.bind_eq_some_iff] at h
      obtain ⟨j, hj, h⟩ := h
      obtain ⟨de, hde, hoke⟩ := run_under (P := P) (w := w) hT hj
      split at h
      · rename_i htde
        rw [htde] at hoke
        cases hoke
        simp only [Option.bind_eq_some_iff, Option.some.injEq, Prod.mk.injEq] at h
        obtain ⟨⟨n, l⟩, hsrc, bs, hbs, rfl, rfl⟩ := h
        obtain ⟨ys, hrun, hl, hll, h1⟩ := src_ok (P := P) hr hsrc hx
        obtain ⟨zs, e1, rfl⟩ := bytesE_ok hbs hl
        have hl1 := (hrun w rfl).1
        have hl2 := (hrun w rfl).2
        have hfin : ∀ (a : Addr) (cap : Nat), n = len → (loadCells a len).run P w = .ok ys.toArray w → (convert src dst (.slice (some a) len cap)).run P w = .ok (.string (zs.foldl (fun r n => r.push (UInt8.ofNat n.toNat)) ByteArray.empty)) w := by
          intro a cap hn hload
          rw [e1] at hload
          have := run_bytesToString w a len cap zs hload
          simp [convert, hd, hdk, hde, this]
        have hR : R ρ (.str (zs.map fun z => z.toNat % 256)) (.string (zs.foldl (fun r n => r.push (UInt8.ofNat n.toNat)) ByteArray.empty)) := .str _ _ (by rw [bytesN_fold]; rfl)
        cases hx with
        | sl _ _ _ _ _ _ im cap him hl1' hs' hrm hcap =>
          have hn : len = n := by simpa [Builtin.lenOf] using hl1
          subst hn
          exact ⟨ρ, w, _, hfin _ cap rfl (by simpa [Builtin.firstCells] using hl2), hR, hr, Stp.refl _ _ _⟩
        | sle _ _ _ _ _ im off him hc0 =>
          have hn : 0 = n := by simpa [Builtin.lenOf] using hl1
          subst hn
          exact ⟨ρ, w, _, hfin _ 0 rfl (by simpa [Builtin.firstCells] using hl2), hR, hr, Stp.refl _ _ _⟩
      · cases h
    · cases h
  · cases h
end
end Go.Proofs.YtapinochbblfbaaGreatDoor.E
namespace Go.Proofs.YtapinochbblfbaaGreatDoor.E
open Go
set_option linter.unusedVariables false
set_option linter.unusedSimpArgs false
section
variable {P : Program} {T : TypeId → Option TI} {w : World} {ρ : Rho} {H : AH}
/-- A stretch of a list overwritten. -/
noncomputable def putL (l : List AV) (off : Nat) (xs : List AV) : List AV := takeL off l ++ xs ++ dropL (off + xs.length) l
theorem zip_put (vs : List Value) : ∀ (cells : Array Value) (off k : Nat), (vs.zipIdx k).foldl (fun cs (c, j) => cs.setIfInBounds (off + j) c) cells = putAll cells (off + k) vs := by
  induction vs with
  | nil => intro cells off k; rfl
  | cons v vs ih =>
    intro cells off k
    simp only [List.zipIdx_cons, List.foldl_cons, putAll]
    rw [ih]; rfl
theorem putAll_list (vs : List Value) (cells : Array Value) (off : Nat) (h : off + vs.length ≤ cells.size) : (putAll cells off vs).toList = cells.toList.take off ++ vs ++ cells.toList.drop (off + vs.length) := by
  apply List.ext_getElem?
  intro i
  rw [Array.getElem?_toList]
  by_cases h1 : i < off
  · rw [putAll_out _ _ _ _ (.inl h1), List.append_assoc, List.getElem?_append_left (by simp; omega), List.getElem?_take, if_pos h1, Array.getElem?_toList]
  · by_cases h2 : i < off + vs.length
    · have := putAll_in vs cells off (i - off) h (by omega)
      rw [show off + (i - off) = i by omega] at this
      rw [this, List.append_assoc, List.getElem?_append_right (by simp; omega), List.getElem?_append_left (by simp; omega)]
      congr 1; simp; omega
    · rw [putAll_out _ _ _ _ (.inr (by omega)), List.getElem?_append_right (by simp; omega), List.getElem?_drop, Array.getElem?_toList]
      congr 1; simp; omega
noncomputable def fillE (place : Nat → Option (Nat × Nat)) (parts : List (Nat × AV)) : List AV → Option (List AV) :=
  List.rec (motive := fun _ => List AV → Option (List AV)) (fun l => some l) (fun p _ ih l =>
    (place p.1).bind fun q => bif Nat.beq p.2.cells.length q.2 && Nat.ble (q.1 + q.2) l.length then ih (putL l q.1 p.2.cells) else none) parts
inductive RP (ρ : Rho) : List (Nat × AV) → List (Nat × Value) → Prop where
  | nil : RP ρ [] []
  | cons (k : Nat) (x : AV) (y : Value) (l : List (Nat × AV)) (m : List (Nat × Value)) (h : R ρ x y) (hs : RP ρ l m) : RP ρ ((k, x) :: l) ((k, y) :: m)
theorem fill_ok {place : Nat → Option (Nat × Nat)} : ∀ {parts : List (Nat × AV)} {vps : List (Nat × Value)}, RP ρ parts vps → ∀ {l l' : List AV} {cs : Array Value}, fillE place parts l = some l' → RL ρ l cs.toList →
    ∃ cs', Instr.fill place cs vps = some cs' ∧ RL ρ l' cs'.toList := by
  intro parts
  induction parts with
  | nil => intro vps hp l l' cs h hl; cases hp; cases h; exact ⟨cs, rfl, hl⟩
  | cons p parts ih =>
    intro vps hp l l' cs h hl
    cases hp with
    | cons k x y _ m hxy hs =>
      change ((place k).bind fun q => bif Nat.beq x.cells.length q.2 && Nat.ble (q.1 + q.2) l.length then fillE place parts (putL l q.1 x.cells) else none) = some l' at h
      simp only [Option.bind_eq_some_iff] at h
      obtain ⟨⟨off, size⟩, hpl, h⟩ := h
      replace h := cond_some h
      obtain ⟨hc, h⟩ := h
      simp only [Bool.and_eq_true, Nat.beq_eq, Nat.ble_eq] at hc
      have hxc := hxy.cells
      have hlen := hxc.length
      have hll := hl.length
      have hsz : y.cells.size = size := by rw [← Array.length_toList, ← hlen]; exact hc.1
      have hcz : cs.size = l.length := by rw [hll]; simp
      have hput : RL ρ (putL l off x.cells) (putAll cs off y.cells.toList).toList := by
        rw [putAll_list _ _ _ (by simp; omega), putL, takeL_eq, dropL_eq, hlen]
        exact ((hl.take off).append hxc).append (hl.drop _)
      obtain ⟨cs', h1, h2⟩ := ih hs h hput
      refine ⟨cs', ?_, h2⟩
      have hz : y.cells.zipIdx.foldl (fun cs (c, j) => cs.setIfInBounds (off + j) c) cs = putAll cs off y.cells.toList := by
        have h0 := zip_put y.cells.toList cs off 0
        rw [Nat.add_zero] at h0
        rw [← h0, ← Array.foldl_toList]; simp
      simp only [Instr.fill, hpl]
      rw [if_neg (by simp [hsz]; omega), hz]
      exact h1
end
end Go.Proofs.YtapinochbblfbaaGreatDoor.E
namespace Go.Proofs.YtapinochbblfbaaGreatDoor.E
open Go
set_option linter.unusedVariables false
set_option linter.unusedSimpArgs false
section
variable {P : Program} {T : TypeId → Option TI} {w : World} {ρ : Rho} {H : AH}

/-- The records of these types can be held against one another. -/
structure Eqs (P : Program) (S : TypeId → Bool) : Prop where
  ok : ∀ t, S t = true → P.stoodInHeld t = false ∧ P.eqGuardType P.depth t = false ∧ ∀ f ∈ (P.fieldsOf t).toList, f.name ≠ "_"

noncomputable def eqFs (T : TypeId → Option TI) (eq : TypeId → AV → AV → Option Bool) (xs ys : List AV) (fs : List (Nat × TypeId)) : Option Bool :=
  List.rec (motive := fun _ => Option Bool) (some true) (fun f _ ih => (partE T f.2 xs f.1).bind fun a => (partE T f.2 ys f.1).bind fun b => (eq f.2 a b).bind fun r => bif r then ih else some false) fs
noncomputable def eqE (T : TypeId → Option TI) (S : TypeId → Bool) (n : Nat) : TypeId → AV → AV → Option Bool :=
  Nat.rec (motive := fun _ => TypeId → AV → AV → Option Bool) (fun _ _ _ => none) (fun _ ih t x y => (T t).bind fun i => match i.td with
    | .bool => match x, y with | .bool a, .bool b => some (a == b) | _, _ => none
    | .int _ => match x, y with | .int j a, .int k b => bif decide (j = k) then some (decide (a = b)) else none | _, _ => none
    | .string => match x, y with | .str a, .str b => some (eqL a b) | _, _ => none
    | .struct fs => match x, y with | .agg a, .agg b => bif S t then eqFs T ih a b fs else none | _, _ => none
    | .pointer _ => match x, y with
      | .nilp, .nilp => some true
      | .ptr _ _ _ _, .nilp => some false
      | .nilp, .ptr _ _ _ _ => some false
      | _, _ => none
    | .slice _ => match x, y with
      | .nils, .nils => some true
      | .sl _ _ _ _ _ _, .nils => some false
      | .nils, .sl _ _ _ _ _ _ => some false
      | _, _ => none
    | .map _ _ => match x, y with
      | .nilm, .nilm => some true
      | .map _, .nilm => some false
      | .nilm, .map _ => some false
      | _, _ => none
    | .func => match x, y with
      | .nilf, .nilf => some true
      | .fn _ _ _, .nilf => some false
      | .nilf, .fn _ _ _ => some false
      | _, _ => none
    | .iface => match x, y with
      | .ifc _ _, .nili => some false
      | .nili, .ifc _ _ => some false
      | _, _ => none
    | _ => none) n
theorem eqE_succ (T : TypeId → Option TI) (S : TypeId → Bool) (n : Nat) (t : TypeId) (x y : AV) : eqE T S (n + 1) t x y = (T t).bind fun i => match i.td with
    | .bool => match x, y with | .bool a, .bool b => some (a == b) | _, _ => none
    | .int _ => match x, y with | .int j a, .int k b => bif decide (j = k) then some (decide (a = b)) else none | _, _ => none
    | .string => match x, y with | .str a, .str b => some (eqL a b) | _, _ => none
    | .struct fs => match x, y with | .agg a, .agg b => bif S t then eqFs T (eqE T S n) a b fs else none | _, _ => none
    | .pointer _ => match x, y with
      | .nilp, .nilp => some true
      | .ptr _ _ _ _, .nilp => some false
      | .nilp, .ptr _ _ _ _ => some false
      | _, _ => none
    | .slice _ => match x, y with
      | .nils, .nils => some true
      | .sl _ _ _ _ _ _, .nils => some false
      | .nils, .sl _ _ _ _ _ _ => some false
      | _, _ => none
    | .map _ _ => match x, y with
      | .nilm, .nilm => some true
      | .map _, .nilm => some false
      | .nilm, .map _ => some false
      | _, _ => none
    | .func => match x, y with
      | .nilf, .nilf => some true
      | .fn _ _ _, .nilf => some false
      | .nilf, .fn _ _ _ => some false
      | _, _ => none
    | .iface => match x, y with
      | .ifc _ _, .nili => some false
      | .nili, .ifc _ _ => some false
      | _, _ => none
    | _ => none := rfl
theorem eqFs_cons (eq : TypeId → AV → AV → Option Bool) (xs ys : List AV) (f : Nat × TypeId) (fs : List (Nat × TypeId)) :
    eqFs T eq xs ys (f :: fs) = (partE T f.2 xs f.1).bind fun a => (partE T f.2 ys f.1).bind fun b => (eq f.2 a b).bind fun r => bif r then eqFs T eq xs ys fs else some false := rfl
theorem eqFs_ok (hT : Types P T) {eq : TypeId → AV → AV → Option Bool} {d : Nat}
    (heq : ∀ t x y r, eq t x y = some r → ∀ x' y', R ρ x x' → R ρ y y' → (Op.equalIn d t x' y').run P w = .ok r w)
    {xs ys : List AV} {xv yv : List Value} (hx : RL ρ xs xv) (hy : RL ρ ys yv) (fs : List Field) : ∀ {r : Bool}, (∀ f ∈ fs, f.name ≠ "_") → eqFs T eq xs ys (fs.map fun f => (f.offset, f.type)) = some r →
      (Op.eqFields d xv.toArray yv.toArray fs).run P w = .ok r w := by
  induction fs with
  | nil => intro r _ h; cases h; rfl
  | cons f fs ih =>
    intro r hn h
    rw [List.map_cons, eqFs_cons] at h
    simp only [Option.bind_eq_some_iff] at h
    obtain ⟨a, ha, b, hb, r', hr, h⟩ := h
    obtain ⟨a', ra, Ra⟩ := run_part_ok (w := w) hT ha hx
    obtain ⟨b', rb, Rb⟩ := run_part_ok (w := w) hT hb hy
    have he := heq _ _ _ _ hr _ _ Ra Rb
    have hnf := hn f (by simp)
    have hrest := fun r h' => ih (r := r) (fun f hf => hn f (by simp [hf])) h'
    simp only [Op.eqFields, if_pos hnf, Sem.run_bind, ra, rb, he, Result.andThen_ok]
    cases r' with
    | true => simp only [Bool.not_true, Bool.false_eq_true, if_false]; exact hrest _ h
    | false => cases h; rfl
theorem equalIn_ok (hT : Types P T) {S : TypeId → Bool} (hS : Eqs P S) (n : Nat) : ∀ (d : Nat), n ≤ d → ∀ t x y r, eqE T S n t x y = some r → ∀ x' y', R ρ x x' → R ρ y y' → (Op.equalIn d t x' y').run P w = .ok r w := by
  induction n with
  | zero => intro d _ t x y r h; cases h
  | succ n ih =>
    intro d hd t x y r h x' y' hx hy
    obtain ⟨d, rfl⟩ : ∃ e, d = e + 1 := ⟨d - 1, by omega⟩
    rw [eqE_succ] at h
    simp only [Option.bind_eq_some_iff] at h
    obtain ⟨i, hi, h⟩ := h
    obtain ⟨u, j, z, hu, hok, _⟩ := hT.ok t i hi
    cases htd : i.td <;> rw [htd] at h hok <;> dsimp only at h <;> simp only [TD.Ok] at hok
    case bool =>
      subst hok
      split at h <;> first | cases h | skip
      cases hx; cases hy
      exact run_equalIn_bool' w d t _ _ hu
    case int k =>
      subst hok
      split at h <;> first | cases h | skip
      replace h := cond_some h
      obtain ⟨hc, h⟩ := h
      have hc' := of_decide_eq_true hc
      subst hc'
      cases h; cases hx; cases hy
      rw [run_equalIn_int w d t _ k _ _ hu]
      congr 1
    case string =>
      subst hok
      split at h <;> first | cases h | skip
      cases hx with | str s l hs =>
      cases hy with | str s' l' hs' =>
      subst hs hs'
      rw [run_equalIn_string w d t _ _ hu, list_u8_beq]
    case struct fs =>
      obtain ⟨gs, rfl, hg⟩ := hok
      split at h <;> first | cases h | skip
      replace h := cond_some h
      obtain ⟨hc, h⟩ := h
      obtain ⟨h1, h2, h3⟩ := hS.ok t hc
      have hf : P.fieldsOf t = gs := by simp [Program.fieldsOf, hu]
      cases hx with | agg l vs hl =>
      cases hy with | agg l' vs' hl' =>
      rw [run_equalIn_agg w d t _ _ (by rw [hf]; exact hu) h1]
      rw [hf] at h3 ⊢
      rw [← hg] at h
      exact eqFs_ok hT (fun t x y r h x' y' hx hy => ih d (by omega) t x y r h x' y' hx hy) hl hl' gs.toList h3 h
    case pointer e =>
      subst hok
      split at h <;> first | cases h | skip
      all_goals cases hx
      all_goals cases hy
      all_goals simp [Op.equalIn, run_underlying hu]
    case slice e =>
      subst hok
      split at h <;> first | cases h | skip
      all_goals cases hx
      all_goals cases hy
      all_goals simp [Op.equalIn, run_underlying hu]
    case map k e =>
      subst hok
      split at h <;> first | cases h | skip
      all_goals cases hx
      all_goals cases hy
      all_goals simp [Op.equalIn, run_underlying hu]
    case func =>
      obtain ⟨a, b, c, rfl⟩ := hok
      split at h <;> first | cases h | skip
      all_goals cases hx
      all_goals cases hy
      all_goals simp [Op.equalIn, run_underlying hu]
    case iface =>
      obtain ⟨m, rfl⟩ := hok
      split at h <;> first | cases h | skip
      all_goals cases hx
      all_goals cases hy
      all_goals simp [Op.equalIn, run_underlying hu]
    all_goals cases h

/-! ### Operators of two operands -/
def AV.eqs : AV → Bool
  | .int _ _ | .str _ => false
  | _ => true
def AV.nilI : AV → Bool
  | .nili => true
  | _ => false
noncomputable def binE (T : TypeId → Option TI) (S : TypeId → Bool) (op : BinOp) (t : TypeId) (x y : AV) : Option AV :=
  match x, y with
  | .int j a, .int k b => match op with
    | .shl => shiftE .shl j a b
    | .shr => shiftE .shr j a b
    | op => bif decide (j = k) then intE op j a b else none
  | .str a, .str b => strE op a b
  | x, y => bif x.eqs && !(x.nilI && y.nilI) then match op with
    | .eql => (eqE T S 6 t x y).map fun r => .bool r
    | .neq => (eqE T S 6 t x y).map fun r => .bool !r
    | _ => none
    else none
theorem run_binOp_eq {t : TypeId} {x : AV} {x' y' : Value} {r : Bool} (hx : R ρ x x') (hq : x.eqs = true) (he : (Op.equal t x' y').run P w = .ok r w) :
    (binOp .eql t x' y').run P w = .ok (.bool r) w ∧ (binOp .neq t x' y').run P w = .ok (.bool !r) w := by
  have h1 : (binOp .eql t x' y') = (do pure (.bool (← Op.equal t x' y')) : Sem Value) := by cases hx <;> simp [AV.eqs] at hq <;> simp [binOp]
  have h2 : (binOp .neq t x' y') = (do pure (.bool (!(← Op.equal t x' y'))) : Sem Value) := by cases hx <;> simp [AV.eqs] at hq <;> simp [binOp]
  rw [h1, h2]
  simp [he]
theorem eqE_agg {S : TypeId → Bool} {n : Nat} {t : TypeId} {l l' : List AV} {r : Bool} (h : eqE T S n t (.agg l) (.agg l') = some r) : S t = true := by
  cases n with
  | zero => cases h
  | succ n =>
    rw [eqE_succ] at h
    simp only [Option.bind_eq_some_iff] at h
    obtain ⟨i, hi, h⟩ := h
    cases htd : i.td <;> rw [htd] at h <;> dsimp only at h
    case struct fs => exact (cond_some h).1
    all_goals cases h
theorem run_guard {S : TypeId → Bool} (hS : Eqs P S) {op : BinOp} {t : TypeId} {X Y : Operand} {x y : AV} {x' y' : Value} (hx : R ρ x x') (hy : R ρ y y') (h1 : ∀ l l', x = .agg l → y = .agg l' → S t = true) (h2 : (x.nilI && y.nilI) = false) :
    (eqGuard op t X Y x' y').run P w = .ok () w := by
  cases hx <;> cases hy <;> (try (simp [AV.nilI] at h2; done)) <;> (try (cases op <;> rfl)) <;> skip
  have hg := (hS.ok t (h1 _ _ rfl rfl)).2.1
  cases op <;> simp [eqGuard, hg]
theorem run_bin_ok (hT : Types P T) {S : TypeId → Bool} (hS : Eqs P S) {op : BinOp} {t : TypeId} {X Y : Operand} {x y z : AV} {x' y' : Value} (h : binE T S op t x y = some z) (hx : R ρ x x') (hy : R ρ y y') :
    ∃ u, (do eqGuard op t X Y x' y'; binOp op t x' y').run P w = .ok u w ∧ R ρ z u := by
  unfold binE at h
  split at h
  · cases hx; cases hy
    have hg : ∀ j k a b, (eqGuard op t X Y (.int j a) (.int k b)).run P w = .ok () w := fun j k a b => run_guard (ρ := ρ) hS (.int j a) (.int k b) (by intro l l' e; cases e) rfl
    simp only [Sem.run_bind, hg, Result.andThen_ok]
    split at h
    · exact shift_ok h t
    · exact shift_ok h t
    · replace h := cond_some h
      obtain ⟨hc, h⟩ := h
      have hc' := of_decide_eq_true hc
      subst hc'
      exact int_ok h t
  · cases hx with | str s l hs =>
    cases hy with | str s' l' hs' =>
    subst hs hs'
    have hg : (eqGuard op t X Y (.string s) (.string s')).run P w = .ok () w := run_guard (ρ := ρ) hS (.str s _ rfl) (.str s' _ rfl) (by intro l l' e; cases e) rfl
    simp only [Sem.run_bind, hg, Result.andThen_ok]
    exact str_ok h t
  · replace h := cond_some h
    obtain ⟨hc, h⟩ := h
    simp only [Bool.and_eq_true, Bool.not_eq_true'] at hc
    obtain ⟨hq, hn⟩ := hc
    split at h
    · rw [Option.map_eq_some_iff] at h
      obtain ⟨r, hr, rfl⟩ := h
      have he := equalIn_ok (w := w) hT hS 6 10000 (by omega) _ _ _ _ hr _ _ hx hy
      have hb := (run_binOp_eq hx hq he).1
      have hg : (eqGuard .eql t X Y x' y').run P w = .ok () w := run_guard hS hx hy (by rintro l l' rfl rfl; exact eqE_agg hr) hn
      refine ⟨_, ?_, .bool _⟩
      simp only [Sem.run_bind, hg, Result.andThen_ok]
      exact hb
    · rw [Option.map_eq_some_iff] at h
      obtain ⟨r, hr, rfl⟩ := h
      have he := equalIn_ok (w := w) hT hS 6 10000 (by omega) _ _ _ _ hr _ _ hx hy
      have hb := (run_binOp_eq hx hq he).2
      have hg : (eqGuard .neq t X Y x' y').run P w = .ok () w := run_guard hS hx hy (by rintro l l' rfl rfl; exact eqE_agg hr) hn
      refine ⟨_, ?_, .bool _⟩
      simp only [Sem.run_bind, hg, Result.andThen_ok]
      exact hb
    · cases h
end
end Go.Proofs.YtapinochbblfbaaGreatDoor.E
namespace Go.Proofs.YtapinochbblfbaaGreatDoor.E
open Go
set_option linter.unusedVariables false
set_option linter.unusedSimpArgs false
theorem RL.of_get {ρ : Rho} : ∀ {l : List AV} {vs : List Value}, l.length = vs.length → (∀ (i : Nat) (x : AV) (y : Value), l[i]? = some x → vs[i]? = some y → R ρ x y) → RL ρ l vs := by
  intro l
  induction l with
  | nil => intro vs h _; cases vs with | nil => exact .nil | cons v vs => simp at h
  | cons a l ih =>
    intro vs h hg
    cases vs with
    | nil => simp at h
    | cons v vs =>
      refine .cons _ _ _ _ (hg 0 a v (by simp) (by simp)) (ih (by simpa using h) fun i x y hx hy => hg (i + 1) x y (by simpa using hx) (by simpa using hy))
/-- A row of zeros. -/
noncomputable def rowZ (zl : List AV) (n : Nat) : List AV :=
  Nat.rec (motive := fun _ => Nat → List AV) (fun _ => []) (fun _ ih i => (nth zl (Nat.mod i zl.length)).getD .nilp :: ih (Nat.succ i)) n 0
noncomputable def rowZ' (zl : List AV) (n : Nat) : Nat → List AV :=
  Nat.rec (motive := fun _ => Nat → List AV) (fun _ => []) (fun _ ih i => (nth zl (Nat.mod i zl.length)).getD .nilp :: ih (Nat.succ i)) n
theorem rowZ'_len (zl : List AV) (n : Nat) : ∀ i, (rowZ' zl n i).length = n := by
  induction n with
  | zero => intro i; rfl
  | succ n ih => intro i; show (_ :: rowZ' zl n (i + 1)).length = _; simp [ih]
theorem rowZ'_get (zl : List AV) (n : Nat) : ∀ i j, j < n → (rowZ' zl n i)[j]? = some ((zl[(i + j) % zl.length]?).getD .nilp) := by
  induction n with
  | zero => intro i j h; omega
  | succ n ih =>
    intro i j h
    show ((nth zl (i % zl.length)).getD .nilp :: rowZ' zl n (i + 1))[j]? = _
    cases j with
    | zero => simp [nth_eq]
    | succ j => rw [List.getElem?_cons_succ, ih _ _ (by omega)]; congr 4; omega
theorem rowZ_len (zl : List AV) (n : Nat) : (rowZ zl n).length = n := rowZ'_len zl n 0
theorem rowZ_ok {ρ : Rho} {zl : List AV} {cs : Array Value} (h : RL ρ zl cs.toList) (n : Nat) (h0 : n = 0 ∨ 0 < zl.length) : RL ρ (rowZ zl n) ((Array.range n).map (cs[· % cs.size]!)).toList := by
  have hl := h.length
  refine .of_get (by simp [rowZ_len]) fun i x y hx hy => ?_
  have hi : i < n := by
    rcases Nat.lt_or_ge i n with h | h
    · exact h
    · rw [List.getElem?_eq_none (by rw [rowZ_len]; exact h)] at hx; cases hx
  have hx' : x = (zl[i % zl.length]?).getD .nilp := by
    have := rowZ'_get zl n 0 i hi
    rw [Nat.zero_add] at this
    have h2 : (rowZ zl n)[i]? = some x := hx
    rw [show rowZ zl n = rowZ' zl n 0 from rfl, this] at h2
    exact (Option.some.inj h2).symm
  have hy' : y = cs[i % cs.size]! := by
    rw [Array.getElem?_toList] at hy
    rw [Array.getElem?_map, Array.getElem?_range, if_pos hi] at hy
    simpa using hy.symm
  have hpos : 0 < zl.length := by rcases h0 with h0 | h0 <;> omega
  have hlt : i % zl.length < zl.length := Nat.mod_lt _ hpos
  have hsz : cs.size = zl.length := by rw [hl]; simp
  obtain ⟨v, hv, hR⟩ := h.get (i % zl.length) _ (List.getElem?_eq_getElem hlt)
  rw [hx', hy', List.getElem?_eq_getElem hlt, hsz]
  rw [Array.getElem?_toList] at hv
  have : cs[i % zl.length]! = v := by
    rw [getElem!_def, hv]
  rw [this]
  exact hR

/-- The operation makes one block and answers with a word on it. -/
def Allocs (P : Program) (s : Sem Next) (w : World) (ρ : Rho) (l : List AV) (mk : Nat → AV) : Prop :=
  ∃ y w' cs el fr ys, s.run P w = .ok (.value y) w' ∧ w'.heap = w.heap.push (.cells cs el fr) ∧ w'.os = w.os ∧ w'.tape = w.tape ∧ w'.output = w.output ∧ (∀ x ∈ l, x.one = true) ∧ RL ρ l ys ∧
    (∀ (j : Nat) (v : Value), ys[j]? = some v → cs[j]? = some v) ∧ frozenOff fr cs.size ∧ ∀ (ρ' : Rho) (f : Nat), ρ' f 0 = some ⟨w.heap.size, 0, l.length, cs.size - l.length⟩ → R ρ' (mk f) y
theorem Allocs.ran {P : Program} {s : Sem Next} {w : World} {ρ : Rho} {H : AH} {l : List AV} {mk : Nat → AV} (h : Allocs P s w ρ l mk) (hr : Rel ρ H w) : Ran P s w ρ H (mk H.next) (H.new l) := by
  obtain ⟨y, w', cs, el, fr, ys, h1, h2, h3, h4, h5, h6, h7, h8, h9, h10⟩ := h
  obtain ⟨ρ', a, b, c⟩ := hr.alloc h6 h7 h8 h9 h2 h3 h4 h5
  exact ⟨ρ', w', y, .inl h1, h10 _ _ c, a, b⟩
section
variable {P : Program} {T : TypeId → Option TI} {w : World} {ρ : Rho} {H : AH}
def ptrTo (n f : Nat) : AV := .ptr f 0 0 n
def rowOf (len es : Nat) (cap : Option Nat) (f : Nat) : AV := .sl f 0 0 len es cap
theorem allocs_newVar {x : AV} {y : Value} (hx : R ρ x y) (h1 : ones x.cells = true) (t : TypeId) (s : Sem Value) (hs : s.run P w = .ok (.pointer (some ⟨w.heap.size, 0, none⟩)) (w.alloc (.cells y.cells t))) :
    Allocs P (do pure (.value (← s))) w ρ x.cells (ptrTo x.cells.length) := by
  refine ⟨.pointer (some ⟨w.heap.size, 0, none⟩), w.alloc (.cells y.cells t), y.cells, t, (0, 0), y.cells.toList, by simp [hs], rfl, rfl, rfl, rfl, ones_spec h1, hx.cells, by simp, by intro o h1 h2; simp at h2, ?_⟩
  intro ρ' f h
  have := R.ptr (ρ := ρ') f 0 0 x.cells.length _ h (by simp)
  simpa [ptrTo] using this
theorem allocs_alloc (hT : Types P T) {t : TypeId} {i : TI} (hi : T t = some i) (h1 : ones i.zero.cells = true) : Allocs P (do pure (.value (← Instr.alloc t true (.tuple #[])))) w ρ i.zero.cells (ptrTo i.zero.cells.length) := by
  obtain ⟨z, hz, hR⟩ := run_zeroValue (P := P) (w := w) hT hi
  exact allocs_newVar (hR ρ) h1 t _ (by simp [Instr.alloc, hz, newVar, newRow])
theorem allocs_box {x : AV} {y : Value} (hx : R ρ x y) (h1 : ones x.cells = true) (t : TypeId) : Allocs P (do pure (.value (← Instr.box t y))) w ρ x.cells (ptrTo x.cells.length) :=
  allocs_newVar hx h1 t _ (by simp [Instr.box, newVar, newRow])
noncomputable def placeE (size i : Nat) : Option (Nat × Nat) := some (Nat.mul i size, size)
noncomputable def buildSliceE (T : TypeId → Option TI) (t : TypeId) (len : Nat) (parts : List (Nat × AV)) : Option (List AV × (Nat → AV)) :=
  (T t).bind fun i => match i.td with
    | .slice e => (T e).bind fun j => bif Nat.ble (len * j.size) 16777216 && (Nat.beq (len * j.size) 0 || Nat.blt 0 j.zero.cells.length) then
        (fillE (placeE j.size) parts (rowZ j.zero.cells (len * j.size))).bind fun l => bif ones l && Nat.beq l.length (len * j.size) then some (l, rowOf len j.size (some len)) else none
      else none
    | _ => none
theorem allocs_row {l : List AV} {cs : Array Value} {len es : Nat} (hl : RL ρ l cs.toList) (h1 : ones l = true) (hlen : l.length = len * es) (e : TypeId) (s : Sem Value) (hs : s.run P w = .ok (.slice (some ⟨w.heap.size, 0, none⟩) len len) (w.alloc (.cells cs e))) :
    Allocs P (do pure (.value (← s))) w ρ l (rowOf len es (some len)) := by
  refine ⟨.slice (some ⟨w.heap.size, 0, none⟩) len len, w.alloc (.cells cs e), cs, e, (0, 0), cs.toList, by simp only [Sem.run_bind, hs, Result.andThen_ok, Sem.run_pure], rfl, rfl, rfl, rfl, ones_spec h1, hl, by simp, by intro o h1 h2; simp at h2, ?_⟩
  intro ρ' f h
  have hsz : cs.size = l.length := by rw [hl.length]; simp
  have := R.sl (ρ := ρ') f 0 0 len es (some len) _ len h (Nat.le_refl _) (by show 0 + _ ≤ l.length; omega) (by show 0 + _ ≤ l.length + _; omega) (by intro n hn; cases hn; exact ⟨rfl, by show 0 + _ ≤ l.length; omega⟩)
  simpa [rowOf] using this
theorem allocs_buildSlice (hT : Types P T) {t : TypeId} {len : Nat} {parts : List (Nat × AV)} {vps : Array (Nat × Value)} {l : List AV} {mk : Nat → AV} (h : buildSliceE T t len parts = some (l, mk)) (hp : RP ρ parts vps.toList) :
    Allocs P (do pure (.value (← Instr.buildSlice t len vps))) w ρ l mk := by
  simp only [buildSliceE, Option.bind_eq_some_iff] at h
  obtain ⟨i, hi, h⟩ := h
  obtain ⟨d, hd, hok⟩ := run_under (P := P) (w := w) hT hi
  split at h
  · rename_i e htd
    rw [htd] at hok
    cases hok
    simp only [Option.bind_eq_some_iff] at h
    obtain ⟨j, hj, h⟩ := h
    replace h := cond_some h
    obtain ⟨hc, h⟩ := h
    simp only [Bool.and_eq_true, Bool.or_eq_true, Nat.ble_eq, Nat.beq_eq, Nat.blt_eq] at hc
    obtain ⟨hc1, hc2⟩ := hc
    simp only [Option.bind_eq_some_iff] at h
    obtain ⟨l', hl', h⟩ := h
    replace h := cond_some h
    obtain ⟨hc3, h⟩ := h
    simp only [Bool.and_eq_true, Nat.beq_eq] at hc3
    cases h
    have hs : (sizeOf e).run P w = .ok j.size w := run_sizeOf hT hj
    obtain ⟨z, hz, hR⟩ := run_zeroValue (P := P) (w := w) hT hj
    have hpl : placeE j.size = fun i => some (i * j.size, j.size) := rfl
    have hsm : ¬ len * j.size > 2 ^ 24 := by omega
    by_cases h0 : len * j.size = 0
    · have hRL : RL ρ (rowZ j.zero.cells (len * j.size)) (#[] : Array Value).toList := by rw [h0]; exact .nil
      obtain ⟨cs, hf, hcs⟩ := fill_ok hp hl' hRL
      rw [hpl] at hf
      refine allocs_row hcs hc3.1 hc3.2 e _ ?_
      simp only [Instr.buildSlice, Sem.run_bind, hd, Result.andThen_ok, hs, if_neg hsm, Sem.run_pure]
      have e0 : Array.range 0 = #[] := rfl
      simp [h0, e0, hf, newRow]
    · have hRL : RL ρ (rowZ j.zero.cells (len * j.size)) ((Array.range (len * j.size)).map (z.cells[· % z.cells.size]!)).toList := rowZ_ok (hR ρ).cells _ (by omega)
      obtain ⟨cs, hf, hcs⟩ := fill_ok hp hl' hRL
      rw [hpl] at hf
      refine allocs_row hcs hc3.1 hc3.2 e _ ?_
      simp only [Instr.buildSlice, Sem.run_bind, hd, Result.andThen_ok, hs, if_neg hsm, Sem.run_pure, if_neg h0, Sem.run_ite, hz]
      simp [hf, newRow]
  · cases h
noncomputable def makeSliceE (T : TypeId → Option TI) (t : TypeId) (len cap : AV) : Option (List AV × (Nat → AV)) :=
  (T t).bind fun i => match i.td with
    | .slice e => (T e).bind fun j => (natOf len).bind fun n => (natOf cap).bind fun c => bif Nat.ble n c && (Nat.ble (c * j.size) 16777216 && (Nat.ble (j.bytes * c) 281474976710656 && (Nat.ble c 1000000000 && (Nat.blt 0 j.zero.cells.length && ones j.zero.cells)))) then
        some (rowZ j.zero.cells (c * j.size), rowOf n j.size (some c))
      else none
    | _ => none
theorem rowZ_ones {zl : List AV} (h : ones zl = true) (n : Nat) : ∀ x ∈ rowZ zl n, x.one = true := by
  intro x hx
  obtain ⟨i, hi⟩ := List.mem_iff_getElem?.1 hx
  have hlt : i < n := by
    rcases Nat.lt_or_ge i n with h | h
    · exact h
    · rw [List.getElem?_eq_none (by rw [rowZ_len]; exact h)] at hi; cases hi
  have := rowZ'_get zl n 0 i hlt
  rw [show rowZ zl n = rowZ' zl n 0 from rfl, this] at hi
  cases hi
  cases hz : zl[(0 + i) % zl.length]? with
  | none => rfl
  | some y => exact ones_spec h y (List.mem_of_getElem? hz)
theorem allocs_makeSlice (hT : Types P T) {t : TypeId} {len cap : AV} {lv cv : Value} {l : List AV} {mk : Nat → AV} (h : makeSliceE T t len cap = some (l, mk)) (hlen : R ρ len lv) (hcap : R ρ cap cv) :
    Allocs P (do pure (.value (← Instr.makeSlice t lv cv))) w ρ l mk := by
  simp only [makeSliceE, Option.bind_eq_some_iff] at h
  obtain ⟨i, hi, h⟩ := h
  obtain ⟨d, ji, zi, hu, hok, _⟩ := hT.ok t i hi
  split at h
  · rename_i e htd
    rw [htd] at hok
    cases hok
    simp only [Option.bind_eq_some_iff] at h
    obtain ⟨j, hj, n, hn, c, hc, h⟩ := h
    obtain ⟨_, jj, z, _, _, hjj, hjs, hjb, hz, hR⟩ := hT.ok e j hj
    replace h := cond_some h
    obtain ⟨hcc, h⟩ := h
    simp only [Bool.and_eq_true, Nat.ble_eq, Nat.blt_eq] at hcc
    obtain ⟨g1, g2, g3, g4, g5, g6⟩ := hcc
    cases h
    obtain ⟨kl, rfl⟩ := natOf_ok hn hlen
    obtain ⟨kc, rfl⟩ := natOf_ok hc hcap
    have g3' : (j.bytes : Int) * (c : Int) ≤ 281474976710656 := by rw [← Int.natCast_mul]; omega
    have hrun := run_makeSlice (P := P) w t e jj z hu hjj hz kl kc n c (by omega) (by omega) (by rw [hjs, Int.toNat_natCast]; exact g2) (by rw [hjb]; exact g3') (by omega)
    have hRL := rowZ_ok (ρ := ρ) (hR ρ).cells (c * j.size) (.inr g5)
    have hmade : madeCells z.cells (c * j.size) = (Array.range (c * j.size)).map (z.cells[· % z.cells.size]!) := rfl
    rw [Int.toNat_natCast, Int.toNat_natCast, hjs, hmade] at hrun
    refine ⟨.slice (some ⟨w.heap.size, 0, none⟩) n c, w.alloc (.cells ((Array.range (c * j.size)).map (z.cells[· % z.cells.size]!)) e), (Array.range (c * j.size)).map (z.cells[· % z.cells.size]!), e, (0, 0), ((Array.range (c * j.size)).map (z.cells[· % z.cells.size]!)).toList, by rw [Sem.run_bind, hrun]; rfl, rfl, rfl, rfl, rfl, rowZ_ones g6 _, hRL, by intro j y hj; rwa [Array.getElem?_toList] at hj, by rintro o h1 h2; exact absurd h2 (by omega), ?_⟩
    intro ρ' f h
    have hm := Nat.mul_le_mul_right j.size g1
    have := R.sl (ρ := ρ') f 0 0 n j.size (some c) _ c h g1 (by show 0 + _ ≤ (rowZ _ _).length; rw [rowZ_len]; omega) (by show 0 + _ ≤ (rowZ _ _).length + _; rw [rowZ_len]; omega) (by intro n hn; cases hn; exact ⟨rfl, by show 0 + _ ≤ (rowZ _ _).length; rw [rowZ_len]; omega⟩)
    simpa [rowOf] using this
  · cases h
end
end Go.Proofs.YtapinochbblfbaaGreatDoor.E
