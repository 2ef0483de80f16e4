/- len, copy, the conversions, and rows that are made. The conversions. Records and rows built out of parts; new rows of zeros. Equality of records, and the operators of two operands together. Operations that make a block and do no more. Maps with keys that are numbers, strings or truth values. Every operation: what it reads, what it makes, what it changes, what it calls. Every operation: what it reads, what it makes, what it changes, what it calls. What the log of changes says. -/
import Derived.Test.YtllfnhapnndngaaGreatDoorEA
import Derived.Laws.BytesString
import Derived.Laws.StructEq
import Derived.Laws.MakeOwn
import Derived.MapKept
namespace Go.Proofs.YtllfnhapnndngaaGreatDoor.E
open Go
set_option linter.unusedVariables false
set_option linter.unusedSimpArgs false
section
variable {P : Program} {T : TypeId → Option TI} {w : World} {ρ : Rho} {H : AH}
/-! ### len -/
noncomputable def lenE (T : TypeId → Option TI) (H : AH) (t : TypeId) (x : AV) : Option AV :=
  (T t).bind fun i => match i.td, x with
    | .string, .str l => some (.int .i64 (Int.ofNat l.length))
    | .slice _, .nils => some (.int .i64 0)
    | .slice _, .sl _ _ _ len _ _ => some (.int .i64 (Int.ofNat len))
    | .array n _, _ => some (.int .i64 (Int.ofNat n))
    | .map _ _, .nilm => some (.int .i64 0)
    | .map _ _, .map f => (H.t.get f).bind fun b => match b with
      | .map es _ => some (.int .i64 (Int.ofNat es.length))
      | _ => none
    | _, _ => none
theorem RM.length {l : List (AV × AV)} {es : List MapEntry} {n : Nat} (h : RM ρ l es n) : l.length = es.length := by
  induction h with
  | nil n => rfl
  | cons k v e l es n hk hv h ih => simp [ih]
theorem run_len_ok (hT : Types P T) (hr : Rel ρ H w) {t ty : TypeId} {x z : AV} {y : Value} (h : lenE T H t x = some z) (hx : R ρ x y) : ∃ u, (Builtin.len_ #[t] ty #[y]).run P w = .ok u w ∧ R ρ z u := by
  simp only [lenE, Option.bind_eq_some_iff] at h
  obtain ⟨i, hi, h⟩ := h
  obtain ⟨d, hd, hok⟩ := run_under (P := P) (w := w) hT hi
  split at h
  · rename_i htd
    rw [htd] at hok
    cases hok
    cases h
    cases hx with
    | str s _ hs =>
      subst hs
      exact ⟨.int .i64 s.size, by simp [Builtin.len_, hd, goInt], by rw [bytesN_length]; exact .int _ _⟩
  · rename_i e htd
    rw [htd] at hok
    cases hok
    cases h
    cases hx
    exact ⟨.int .i64 0, by simp [Builtin.len_, hd, goInt], .int _ _⟩
  · rename_i e f v o len es c htd
    rw [htd] at hok
    cases hok
    cases h
    cases hx with
    | sl => exact ⟨.int .i64 len, by simp [Builtin.len_, hd, goInt], .int _ _⟩
    | sle => exact ⟨.int .i64 0, by simp [Builtin.len_, hd, goInt], .int _ _⟩
  · rename_i n e htd
    rw [htd] at hok
    cases hok
    cases h
    exact ⟨.int .i64 n, by simp [Builtin.len_, hd, goInt], .int _ _⟩
  · rename_i k e htd
    rw [htd] at hok
    cases hok
    cases h
    cases hx
    exact ⟨.int .i64 0, by simp [Builtin.len_, hd, goInt], .int _ _⟩
  · rename_i k e f htd
    rw [htd] at hok
    cases hok
    simp only [Option.bind_eq_some_iff] at h
    obtain ⟨b, hb, h⟩ := h
    split at h
    · rename_i es clock
      cases h
      cases hx with
      | map _ im him =>
        obtain ⟨as, ck, h1, h3, _⟩ := hr.blk f _ hb im him
        refine ⟨.int .i64 as.size, ?_, ?_⟩
        · have : (getObj im.cb).run P w = .ok (.map as ck) w := by simp [getObj, Sem.run, h1]
          simp [Builtin.len_, hd, goInt, this]
        · have := h3.length
          simp only [Array.length_toList] at this
          rw [this]; exact .int _ _
    · cases h
  · cases h

/-! ### copy -/
noncomputable def copyE (T : TypeId → Option TI) (H : AH) (t : TypeId) (dst src : AV) : Option (AV × AH) :=
  (T t).bind fun i => match i.td with
    | .slice e => (T e).bind fun j => match dst with
      | .sl f v o len es c => bif Nat.beq es j.size then
          (srcE H j.size src).bind fun p =>
            bif Nat.ble 1 p.1 && Nat.ble p.1 len then
              (H.t.get f).bind fun b => match b with
                | .cells lo hi n cs => bif Nat.beq v hi && Nat.ble lo hi then some (.int .i64 (Int.ofNat p.1), H.put f hi n (cs.puts o p.2)) else none
                | _ => none
            else none
        else none
      | _ => none
    | _ => none
theorem run_copy_ok (hT : Types P T) (hr : Rel ρ H w) {t tx ty : TypeId} {s x z : AV} {sv xv : Value} {H' : AH} (h : copyE T H t s x = some (z, H')) (hs : R ρ s sv) (hx : R ρ x xv) :
    ∃ w' u, (Builtin.copy_ #[t, tx] ty #[sv, xv]).run P w = .ok u w' ∧ R ρ z u ∧ Rel ρ H' w' ∧ Stp ρ H w ρ H' w' := by
  simp only [copyE, Option.bind_eq_some_iff] at h
  obtain ⟨i, hi, h⟩ := h
  obtain ⟨d, hd, hok⟩ := run_under (P := P) (w := w) hT hi
  split at h
  · rename_i e htd
    rw [htd] at hok
    cases hok
    simp only [Option.bind_eq_some_iff] at h
    obtain ⟨j, hj, h⟩ := h
    have hS : (sizeOf e).run P w = .ok j.size w := run_sizeOf hT hj
    split at h
    · rename_i f v o len es c
      replace h := cond_some h
      obtain ⟨hes, h⟩ := h
      rw [Nat.beq_eq] at hes
      simp only [Option.bind_eq_some_iff] at h
      obtain ⟨⟨n, l⟩, hsrc, h⟩ := h
      replace h := cond_some h
      obtain ⟨hnl, h⟩ := h
      simp only [Bool.and_eq_true, Nat.ble_eq] at hnl
      obtain ⟨hn1, hnl⟩ := hnl
      simp only [Option.bind_eq_some_iff] at h
      obtain ⟨b, hb, h⟩ := h
      split at h
      · rename_i lo hi' nn cs
        replace h := cond_some h
        obtain ⟨hc2, h⟩ := h
        simp only [Bool.and_eq_true, Nat.ble_eq, Nat.beq_eq] at hc2
        obtain ⟨rfl, hlo⟩ := hc2
        simp only [Option.some.injEq, Prod.mk.injEq] at h
        obtain ⟨rfl, rfl⟩ := h
        obtain ⟨ys, hrun, hl, hll, h1⟩ := src_ok (P := P) hr hsrc hx
        have hlen := (hrun w rfl).1
        have hfirst := (hrun w rfl).2
        have hmin : Nat.min n len = n := Nat.min_eq_left hnl
        cases hs with
        | sl _ _ _ _ _ _ im cap him hl1 hs' hrm hcap =>
          have hmul : n * es ≤ len * es := Nat.mul_le_mul_right _ hnl
          rw [← hes] at hll
          obtain ⟨cs0, el, fr, e1, e2, e3, e4, e5⟩ := hr.store him hb hlo hl h1 (o := o) (by omega)
          refine ⟨_, _, ?_, .int _ _, e4, e5⟩
          have hst := run_storeCells (P := P) im.cb (im.base + o) el fr ys 0 cs0 w e1 e3 (by simpa using e2) (hl.oneCell h1)
          simp only [Nat.add_zero] at hst
          simp [Builtin.copy_, hd, hlen, hmin, hS, hfirst, goInt, hst]
        | sle _ _ _ _ _ im off him hc0 =>
          omega
      · cases h
    · cases h
  · cases h
end
end Go.Proofs.YtllfnhapnndngaaGreatDoor.E
namespace Go.Proofs.YtllfnhapnndngaaGreatDoor.E
open Go
set_option linter.unusedVariables false
set_option linter.unusedSimpArgs false
section
variable {P : Program} {T : TypeId → Option TI} {w : World} {ρ : Rho} {H : AH}
noncomputable def byteE : AV → Option Nat
  | .int .u8 z => some (Nat.mod z.toNat 256)
  | _ => none
theorem byteE_ok {x : AV} {n : Nat} (h : byteE x = some n) : ∃ z : Int, x = .int .u8 z ∧ n = z.toNat % 256 := by
  unfold byteE at h
  split at h
  · cases h; exact ⟨_, rfl, rfl⟩
  · cases h
/-- The bytes that cells hold. -/
noncomputable def bytesE (l : List AV) : Option (List Nat) :=
  List.rec (motive := fun _ => Option (List Nat)) (some []) (fun x _ ih => (byteE x).bind fun n => ih.bind fun r => some (n :: r)) l
theorem bytesE_ok : ∀ {l : List AV} {bs : List Nat}, bytesE l = some bs → ∀ {vs : List Value}, RL ρ l vs → ∃ zs : List Int, vs = zs.map (Value.int .u8) ∧ bs = zs.map fun z => z.toNat % 256 := by
  intro l
  induction l with
  | nil => intro bs h vs hl; cases h; cases hl; exact ⟨[], rfl, rfl⟩
  | cons x l ih =>
    intro bs h vs hl
    change ((byteE x).bind fun n => (bytesE l).bind fun r => some (n :: r)) = some bs at h
    simp only [Option.bind_eq_some_iff, Option.some.injEq] at h
    obtain ⟨n, hn, r, hr, rfl⟩ := h
    obtain ⟨z, rfl, rfl⟩ := byteE_ok hn
    cases hl with
    | cons _ y _ ys hy hs =>
      obtain ⟨zs, rfl, rfl⟩ := ih hr hs
      cases hy
      exact ⟨z :: zs, rfl, rfl⟩
theorem bytesN_push (s : ByteArray) (b : UInt8) : bytesN (s.push b) = bytesN s ++ [b.toNat] := by
  simp [bytesN, ByteArray.data_push]
theorem bytesN_fold (zs : List Int) : ∀ s : ByteArray, bytesN (zs.foldl (fun r n => r.push (UInt8.ofNat n.toNat)) s) = bytesN s ++ zs.map fun z => z.toNat % 256 := by
  induction zs with
  | nil => intro s; simp
  | cons z zs ih =>
    intro s
    simp only [List.map_cons, List.foldl_cons]
    rw [ih, bytesN_push, UInt8.toNat_ofNat']
    simp
noncomputable def convE (T : TypeId → Option TI) (H : AH) (src dst : TypeId) (x : AV) : Option (AV × AH) :=
  (T src).bind fun i => (T dst).bind fun k => match x with
    | .int _ n => (match k.td with
      | .int kd => some (.int kd (kd.wrap n), H)
      | _ => none)
    | .str l => (match k.td with
      | .string => some (.str l, H)
      | .slice e => (T e).bind fun j => (match j.td with
        | .int .u8 => bif Nat.ble l.length 1000000 then some (.sl H.next 0 0 l.length 1 none, H.new (l.map fun b => .int .u8 (Int.ofNat b))) else none
        | _ => none)
      | _ => none)
    | .nils => (match i.td, k.td with
      | .slice e, .string => (T e).bind fun j => (match j.td with
        | .int .u8 => some (.str [], H)
        | _ => none)
      | _, _ => none)
    | .sl f v o len es c => (match i.td, k.td with
      | .slice e, .string => (T e).bind fun j => (match j.td with
        | .int .u8 => (srcE H 1 (.sl f v o len es c)).bind fun p => (bytesE p.2).bind fun bs => some (.str bs, H)
        | _ => none)
      | _, _ => none)
    | _ => none
theorem push_modify {α : Type} (h : Array α) (o : α) (f : α → α) : (h.push o).modify h.size f = h.push (f o) := by
  apply Array.ext_getElem?
  intro i
  rw [Array.getElem?_modify, Array.getElem?_push, Array.getElem?_push]
  by_cases e : i = h.size
  · subst e; simp
  · rw [if_neg e, if_neg e, if_neg (fun h => e h.symm)]
theorem run_conv_ok (hT : Types P T) (hr : Rel ρ H w) {src dst : TypeId} {x z : AV} {y : Value} {H' : AH} (h : convE T H src dst x = some (z, H')) (hx : R ρ x y) :
    ∃ ρ' w' u, (convert src dst y).run P w = .ok u w' ∧ R ρ' z u ∧ Rel ρ' H' w' ∧ Stp ρ H w ρ' H' w' := by
  simp only [convE, Option.bind_eq_some_iff] at h
  obtain ⟨i, hi, k, hk, h⟩ := h
  obtain ⟨d, hd, hok⟩ := run_under (P := P) (w := w) hT hi
  obtain ⟨dk, hdk, hokk⟩ := run_under (P := P) (w := w) hT hk
  split at h
  · split at h
    · rename_i kd htd
      rw [htd] at hokk
      cases hokk
      cases h
      cases hx
      exact ⟨ρ, w, _, by simp [convert, hd, hdk, Conv.intToInt], .int _ _, hr, Stp.refl _ _ _⟩
    · cases h
  · rename_i l
    split at h
    · rename_i htd
      rw [htd] at hokk
      cases hokk
      cases h
      cases hx with
      | str s _ hs => exact ⟨ρ, w, .string s, by simp [convert, hd, hdk], .str _ _ hs, hr, Stp.refl _ _ _⟩
    · rename_i e htd
      rw [htd] at hokk
      cases hokk
      simp only [Option.bind_eq_some_iff] at h
      obtain ⟨j, hj, h⟩ := h
      obtain ⟨de, hde, hoke⟩ := run_under (P := P) (w := w) hT hj
      split at h
      · rename_i htde
        rw [htde] at hoke
        cases hoke
        replace h := cond_some h
        obtain ⟨hlen, h⟩ := h
        rw [Nat.ble_eq] at hlen
        cases h
        cases hx with
        | str s _ hs =>
          subst hs
          have hq : (Question.appendCap s.size 0 e).forced = false := rfl
          have hge : s.size ≤ grownCap w s.size 0 e := grownCap_ge _ _ _ _
          obtain ⟨cs, hcs⟩ : ∃ cs : Array Value, cs = (s.data.map fun b => Value.int .u8 b.toNat) ++ Array.replicate (grownCap w s.size 0 e - s.size) (.int .u8 0) := ⟨_, rfl⟩
          have hsz : cs.size = grownCap w s.size 0 e := by
            rw [hcs]; simp; have : s.data.size = s.size := rfl; omega
          have hrun : (convert src dst (.string s)).run P w = .ok (.slice (some ⟨w.heap.size, 0, none⟩) s.size (grownCap w s.size 0 e)) ((w.drew.alloc (.cells cs e)).freeze ⟨w.heap.size, cs.size, none⟩ 1) := by
            have hsh : (w.drew.alloc (.cells cs e)).shape? w.heap.size = some (e, cs.size) := by
              have := heap_alloc_new w.drew (.cells cs e)
              unfold World.shape?
              rw [show w.heap.size = w.drew.heap.size from rfl, this]
            have hcs' : cs = (s.data.map fun b => Value.int .u8 b.toNat) ++ Array.replicate ((Question.appendCap s.size 0 e).cut (w.tape w.drawn (Question.appendCap s.size 0 e)) - s.size) (.int .u8 0) := hcs
            simp [convert, hd, hdk, hde, Conv.stringToBytes, hq, newRow, markStringish, ← hcs', hsh]
            rfl
          have hheap : ((w.drew.alloc (.cells cs e)).freeze ⟨w.heap.size, cs.size, none⟩ 1).heap = w.heap.push (.cells cs e (cs.size, cs.size + 1)) := by
            unfold World.freeze
            rw [if_neg (by decide)]
            have e0 : (w.drew.alloc (.cells cs e)).heap = w.heap.push (.cells cs e) := rfl
            simp only [e0]
            rw [push_modify]
            simp
          obtain ⟨ρ', a, b, c⟩ := hr.alloc (w' := (w.drew.alloc (.cells cs e)).freeze ⟨w.heap.size, cs.size, none⟩ 1) (l := (bytesN s).map fun b => .int .u8 (Int.ofNat b)) (by intro x hx; simp only [List.mem_map] at hx; obtain ⟨_, _, rfl⟩ := hx; rfl)
            (bytes_cells s) (cs := cs) (el := e) (fr := (cs.size, cs.size + 1))
            (by
              intro j y hj
              rw [hcs]
              have hlt : j < (s.data.map fun b => Value.int .u8 b.toNat).size := by
                rcases Nat.lt_or_ge j (s.data.map fun b => Value.int .u8 b.toNat).size with h | h
                · exact h
                · rw [Array.getElem?_toList, Array.getElem?_eq_none h] at hj; cases hj
              rw [Array.getElem?_append, if_pos hlt]
              simpa using hj)
            (by intro o h1 h2; simpa using h1) hheap rfl rfl rfl
          refine ⟨ρ', _, _, hrun, ?_, a, b⟩
          have := R.sl (ρ := ρ') H.next 0 0 s.size 1 none _ (grownCap w s.size 0 e) c hge (by simp [bytesN_length]) (by show 0 + _ * 1 ≤ _ + (_ - _); simp only [List.length_map, bytesN_length, hsz]; omega) (by intro n hn; cases hn)
          rw [bytesN_length]
          simpa using this
      · cases h
    · cases h
  · split at h
    · rename_i e htd htk
      rw [htd] at hok
      rw [htk] at hokk
      cases hok
      cases hokk
      simp only [Option.bind_eq_some_iff] at h
      obtain ⟨j, hj, h⟩ := h
      obtain ⟨de, hde, hoke⟩ := run_under (P := P) (w := w) hT hj
      split at h
      · rename_i htde
        rw [htde] at hoke
        cases hoke
        cases h
        cases hx
        exact ⟨ρ, w, .string .empty, by simp [convert, hd, hdk, hde, Conv.bytesToString], .str _ _ rfl, hr, Stp.refl _ _ _⟩
      · cases h
    · cases h
  · rename_i f v o len es c
    split at h
    · rename_i e htd htk
      rw [htd] at hok
      rw [htk] at hokk
      cases hok
      cases hokk
      simp only [Option.bind_eq_some_iff] at h
      obtain ⟨j, hj, h⟩ := h
      obtain ⟨de, hde, hoke⟩ := run_under (P := P) (w := w) hT hj
      split at h
      · rename_i htde
        rw [htde] at hoke
        cases hoke
        simp only [Option.bind_eq_some_iff, Option.some.injEq, Prod.mk.injEq] at h
        obtain ⟨⟨n, l⟩, hsrc, bs, hbs, rfl, rfl⟩ := h
        obtain ⟨ys, hrun, hl, hll, h1⟩ := src_ok (P := P) hr hsrc hx
        obtain ⟨zs, e1, rfl⟩ := bytesE_ok hbs hl
        have hl1 := (hrun w rfl).1
        have hl2 := (hrun w rfl).2
        have hfin : ∀ (a : Addr) (cap : Nat), n = len → (loadCells a len).run P w = .ok ys.toArray w → (convert src dst (.slice (some a) len cap)).run P w = .ok (.string (zs.foldl (fun r n => r.push (UInt8.ofNat n.toNat)) ByteArray.empty)) w := by
          intro a cap hn hload
          rw [e1] at hload
          have := run_bytesToString w a len cap zs hload
          simp [convert, hd, hdk, hde, this]
        have hR : R ρ (.str (zs.map fun z => z.toNat % 256)) (.string (zs.foldl (fun r n => r.push (UInt8.ofNat n.toNat)) ByteArray.empty)) := .str _ _ (by rw [bytesN_fold]; rfl)
        cases hx with
        | sl _ _ _ _ _ _ im cap him hl1' hs' hrm hcap =>
          have hn : len = n := by simpa [Builtin.lenOf] using hl1
          subst hn
          exact ⟨ρ, w, _, hfin _ cap rfl (by simpa [Builtin.firstCells] using hl2), hR, hr, Stp.refl _ _ _⟩
        | sle _ _ _ _ _ im off him hc0 =>
          have hn : 0 = n := by simpa [Builtin.lenOf] using hl1
          subst hn
          exact ⟨ρ, w, _, hfin _ 0 rfl (by simpa [Builtin.firstCells] using hl2), hR, hr, Stp.refl _ _ _⟩
      · cases h
    · cases h
  · cases h
end
end Go.Proofs.YtllfnhapnndngaaGreatDoor.E
namespace Go.Proofs.YtllfnhapnndngaaGreatDoor.E
open Go
set_option linter.unusedVariables false
set_option linter.unusedSimpArgs false
section
variable {P : Program} {T : TypeId → Option TI} {w : World} {ρ : Rho} {H : AH}
/-- A stretch of a list overwritten. -/
noncomputable def putL (l : List AV) (off : Nat) (xs : List AV) : List AV := takeL off l ++ xs ++ dropL (off + xs.length) l
theorem zip_put (vs : List Value) : ∀ (cells : Array Value) (off k : Nat), (vs.zipIdx k).foldl (fun cs (c, j) => cs.setIfInBounds (off + j) c) cells = putAll cells (off + k) vs := by
  induction vs with
  | nil => intro cells off k; rfl
  | cons v vs ih =>
    intro cells off k
    simp only [List.zipIdx_cons, List.foldl_cons, putAll]
    rw [ih]; rfl
theorem putAll_list (vs : List Value) (cells : Array Value) (off : Nat) (h : off + vs.length ≤ cells.size) : (putAll cells off vs).toList = cells.toList.take off ++ vs ++ cells.toList.drop (off + vs.length) := by
  apply List.ext_getElem?
  intro i
  rw [Array.getElem?_toList]
  by_cases h1 : i < off
  · rw [putAll_out _ _ _ _ (.inl h1), List.append_assoc, List.getElem?_append_left (by simp; omega), List.getElem?_take, if_pos h1, Array.getElem?_toList]
  · by_cases h2 : i < off + vs.length
    · have := putAll_in vs cells off (i - off) h (by omega)
      rw [show off + (i - off) = i by omega] at this
      rw [this, List.append_assoc, List.getElem?_append_right (by simp; omega), List.getElem?_append_left (by simp; omega)]
      congr 1; simp; omega
    · rw [putAll_out _ _ _ _ (.inr (by omega)), List.getElem?_append_right (by simp; omega), List.getElem?_drop, Array.getElem?_toList]
      congr 1; simp; omega
noncomputable def fillE (place : Nat → Option (Nat × Nat)) (parts : List (Nat × AV)) : List AV → Option (List AV) :=
  List.rec (motive := fun _ => List AV → Option (List AV)) (fun l => some l) (fun p _ ih l =>
    (place p.1).bind fun q => bif Nat.beq p.2.cells.length q.2 && Nat.ble (q.1 + q.2) l.length then ih (putL l q.1 p.2.cells) else none) parts
inductive RP (ρ : Rho) : List (Nat × AV) → List (Nat × Value) → Prop where
  | nil : RP ρ [] []
  | cons (k : Nat) (x : AV) (y : Value) (l : List (Nat × AV)) (m : List (Nat × Value)) (h : R ρ x y) (hs : RP ρ l m) : RP ρ ((k, x) :: l) ((k, y) :: m)
theorem fill_ok {place : Nat → Option (Nat × Nat)} : ∀ {parts : List (Nat × AV)} {vps : List (Nat × Value)}, RP ρ parts vps → ∀ {l l' : List AV} {cs : Array Value}, fillE place parts l = some l' → RL ρ l cs.toList →
    ∃ cs', Instr.fill place cs vps = some cs' ∧ RL ρ l' cs'.toList := by
  intro parts
  induction parts with
  | nil => intro vps hp l l' cs h hl; cases hp; cases h; exact ⟨cs, rfl, hl⟩
  | cons p parts ih =>
    intro vps hp l l' cs h hl
    cases hp with
    | cons k x y _ m hxy hs =>
      change ((place k).bind fun q => bif Nat.beq x.cells.length q.2 && Nat.ble (q.1 + q.2) l.length then fillE place parts (putL l q.1 x.cells) else none) = some l' at h
      simp only [Option.bind_eq_some_iff] at h
      obtain ⟨⟨off, size⟩, hpl, h⟩ := h
      replace h := cond_some h
      obtain ⟨hc, h⟩ := h
      simp only [Bool.and_eq_true, Nat.beq_eq, Nat.ble_eq] at hc
      have hxc := hxy.cells
      have hlen := hxc.length
      have hll := hl.length
      have hsz : y.cells.size = size := by rw [← Array.length_toList, ← hlen]; exact hc.1
      have hcz : cs.size = l.length := by rw [hll]; simp
      have hput : RL ρ (putL l off x.cells) (putAll cs off y.cells.toList).toList := by
        rw [putAll_list _ _ _ (by simp; omega), putL, takeL_eq, dropL_eq, hlen]
        exact ((hl.take off).append hxc).append (hl.drop _)
      obtain ⟨cs', h1, h2⟩ := ih hs h hput
      refine ⟨cs', ?_, h2⟩
      have hz : y.cells.zipIdx.foldl (fun cs (c, j) => cs.setIfInBounds (off + j) c) cs = putAll cs off y.cells.toList := by
        have h0 := zip_put y.cells.toList cs off 0
        rw [Nat.add_zero] at h0
        rw [← h0, ← Array.foldl_toList]; simp
      simp only [Instr.fill, hpl]
      rw [if_neg (by simp [hsz]; omega), hz]
      exact h1
end
end Go.Proofs.YtllfnhapnndngaaGreatDoor.E
namespace Go.Proofs.YtllfnhapnndngaaGreatDoor.E
open Go
set_option linter.unusedVariables false
set_option linter.unusedSimpArgs false
section
variable {P : Program} {T : TypeId → Option TI} {w : World} {ρ : Rho} {H : AH}

/-- The records of these types can be held against one another. -/
structure Eqs (P : Program) (S : TypeId → Bool) : Prop where
  ok : ∀ t, S t = true → P.stoodInHeld t = false ∧ P.eqGuardType P.depth t = false ∧ ∀ f ∈ (P.fieldsOf t).toList, f.name ≠ "_"

noncomputable def eqFs (T : TypeId → Option TI) (eq : TypeId → AV → AV → Option Bool) (xs ys : List AV) (fs : List (Nat × TypeId)) : Option Bool :=
  List.rec (motive := fun _ => Option Bool) (some true) (fun f _ ih => (partE T f.2 xs f.1).bind fun a => (partE T f.2 ys f.1).bind fun b => (eq f.2 a b).bind fun r => bif r then ih else some false) fs
noncomputable def eqE (T : TypeId → Option TI) (S : TypeId → Bool) (n : Nat) : TypeId → AV → AV → Option Bool :=
  Nat.rec (motive := fun _ => TypeId → AV → AV → Option Bool) (fun _ _ _ => none) (fun _ ih t x y => (T t).bind fun i => match i.td with
    | .bool => match x, y with | .bool a, .bool b => some (a == b) | _, _ => none
    | .int _ => match x, y with | .int j a, .int k b => bif decide (j = k) then some (decide (a = b)) else none | _, _ => none
    | .string => match x, y with | .str a, .str b => some (eqL a b) | _, _ => none
    | .struct fs => match x, y with | .agg a, .agg b => bif S t then eqFs T ih a b fs else none | _, _ => none
    | .pointer _ => match x, y with
      | .nilp, .nilp => some true
      | .ptr _ _ _ _, .nilp => some false
      | .nilp, .ptr _ _ _ _ => some false
      | _, _ => none
    | .slice _ => match x, y with
      | .nils, .nils => some true
      | .sl _ _ _ _ _ _, .nils => some false
      | .nils, .sl _ _ _ _ _ _ => some false
      | _, _ => none
    | .map _ _ => match x, y with
      | .nilm, .nilm => some true
      | .map _, .nilm => some false
      | .nilm, .map _ => some false
      | _, _ => none
    | .func => match x, y with
      | .nilf, .nilf => some true
      | .fn _ _ _, .nilf => some false
      | .nilf, .fn _ _ _ => some false
      | _, _ => none
    | .iface => match x, y with
      | .ifc _ _, .nili => some false
      | .nili, .ifc _ _ => some false
      | _, _ => none
    | _ => none) n
theorem eqE_succ (T : TypeId → Option TI) (S : TypeId → Bool) (n : Nat) (t : TypeId) (x y : AV) : eqE T S (n + 1) t x y = (T t).bind fun i => match i.td with
    | .bool => match x, y with | .bool a, .bool b => some (a == b) | _, _ => none
    | .int _ => match x, y with | .int j a, .int k b => bif decide (j = k) then some (decide (a = b)) else none | _, _ => none
    | .string => match x, y with | .str a, .str b => some (eqL a b) | _, _ => none
    | .struct fs => match x, y with | .agg a, .agg b => bif S t then eqFs T (eqE T S n) a b fs else none | _, _ => none
    | .pointer _ => match x, y with
      | .nilp, .nilp => some true
      | .ptr _ _ _ _, .nilp => some false
      | .nilp, .ptr _ _ _ _ => some false
      | _, _ => none
    | .slice _ => match x, y with
      | .nils, .nils => some true
      | .sl _ _ _ _ _ _, .nils => some false
      | .nils, .sl _ _ _ _ _ _ => some false
      | _, _ => none
    | .map _ _ => match x, y with
      | .nilm, .nilm => some true
      | .map _, .nilm => some false
      | .nilm, .map _ => some false
      | _, _ => none
    | .func => match x, y with
      | .nilf, .nilf => some true
      | .fn _ _ _, .nilf => some false
      | .nilf, .fn _ _ _ => some false
      | _, _ => none
    | .iface => match x, y with
      | .ifc _ _, .nili => some false
      | .nili, .ifc _ _ => some false
      | _, _ => none
    | _ => none := rfl
theorem eqFs_cons (eq : TypeId → AV → AV → Option Bool) (xs ys : List AV) (f : Nat × TypeId) (fs : List (Nat × TypeId)) :
    eqFs T eq xs ys (f :: fs) = (partE T f.2 xs f.1).bind fun a => (partE T f.2 ys f.1).bind fun b => (eq f.2 a b).bind fun r => bif r then eqFs T eq xs ys fs else some false := rfl
theorem eqFs_ok (hT : Types P T) {eq : TypeId → AV → AV → Option Bool} {d : Nat}
    (heq : ∀ t x y r, eq t x y = some r → ∀ x' y', R ρ x x' → R ρ y y' → (Op.equalIn d t x' y').run P w = .ok r w)
    {xs ys : List AV} {xv yv : List Value} (hx : RL ρ xs xv) (hy : RL ρ ys yv) (fs : List Field) : ∀ {r : Bool}, (∀ f ∈ fs, f.name ≠ "_") → eqFs T eq xs ys (fs.map fun f => (f.offset, f.type)) = some r →
      (Op.eqFields d xv.toArray yv.toArray fs).run P w = .ok r w := by
  induction fs with
  | nil => intro r _ h; cases h; rfl
  | cons f fs ih =>
    intro r hn h
    rw [List.map_cons, eqFs_cons] at h
    simp only [Option.bind_eq_some_iff] at h
    obtain ⟨a, ha, b, hb, r', hr, h⟩ := h
    obtain ⟨a', ra, Ra⟩ := run_part_ok (w := w) hT ha hx
    obtain ⟨b', rb, Rb⟩ := run_part_ok (w := w) hT hb hy
    have he := heq _ _ _ _ hr _ _ Ra Rb
    have hnf := hn f (by simp)
    have hrest := fun r h' => ih (r := r) (fun f hf => hn f (by simp [hf])) h'
    simp only [Op.eqFields, if_pos hnf, Sem.run_bind, ra, rb, he, Result.andThen_ok]
    cases r' with
    | true => simp only [Bool.not_true, Bool.false_eq_true, if_false]; exact hrest _ h
    | false => cases h; rfl
theorem equalIn_ok (hT : Types P T) {S : TypeId → Bool} (hS : Eqs P S) (n : Nat) : ∀ (d : Nat), n ≤ d → ∀ t x y r, eqE T S n t x y = some r → ∀ x' y', R ρ x x' → R ρ y y' → (Op.equalIn d t x' y').run P w = .ok r w := by
  induction n with
  | zero => intro d _ t x y r h; cases h
  | succ n ih =>
    intro d hd t x y r h x' y' hx hy
    obtain ⟨d, rfl⟩ : ∃ e, d = e + 1 := ⟨d - 1, by omega⟩
    rw [eqE_succ] at h
    simp only [Option.bind_eq_some_iff] at h
    obtain ⟨i, hi, h⟩ := h
    obtain ⟨u, j, z, hu, hok, _⟩ := hT.ok t i hi
    cases htd : i.td <;> rw [htd] at h hok <;> dsimp only at h <;> simp only [TD.Ok] at hok
    case bool =>
      subst hok
      split at h <;> first | cases h | skip
      cases hx; cases hy
      exact run_equalIn_bool' w d t _ _ hu
    case int k =>
      subst hok
      split at h <;> first | cases h | skip
      replace h := cond_some h
      obtain ⟨hc, h⟩ := h
      have hc' := of_decide_eq_true hc
      subst hc'
      cases h; cases hx; cases hy
      rw [run_equalIn_int w d t _ k _ _ hu]
      congr 1
    case string =>
      subst hok
      split at h <;> first | cases h | skip
      cases hx with | str s l hs =>
      cases hy with | str s' l' hs' =>
      subst hs hs'
      rw [run_equalIn_string w d t _ _ hu, list_u8_beq]
    case struct fs =>
      obtain ⟨gs, rfl, hg⟩ := hok
      split at h <;> first | cases h | skip
      replace h := cond_some h
      obtain ⟨hc, h⟩ := h
      obtain ⟨h1, h2, h3⟩ := hS.ok t hc
      have hf : P.fieldsOf t = gs := by simp [Program.fieldsOf, hu]
      cases hx with | agg l vs hl =>
      cases hy with | agg l' vs' hl' =>
      rw [run_equalIn_agg w d t _ _ (by rw [hf]; exact hu) h1]
      rw [hf] at h3 ⊢
      rw [← hg] at h
      exact eqFs_ok hT (fun t x y r h x' y' hx hy => ih d (by omega) t x y r h x' y' hx hy) hl hl' gs.toList h3 h
    case pointer e =>
      subst hok
      split at h <;> first | cases h | skip
      all_goals cases hx
      all_goals cases hy
      all_goals simp [Op.equalIn, run_underlying hu]
    case slice e =>
      subst hok
      split at h <;> first | cases h | skip
      all_goals cases hx
      all_goals cases hy
      all_goals simp [Op.equalIn, run_underlying hu]
    case map k e =>
      subst hok
      split at h <;> first | cases h | skip
      all_goals cases hx
      all_goals cases hy
      all_goals simp [Op.equalIn, run_underlying hu]
    case func =>
      obtain ⟨a, b, c, rfl⟩ := hok
      split at h <;> first | cases h | skip
      all_goals cases hx
      all_goals cases hy
      all_goals simp [Op.equalIn, run_underlying hu]
    case iface =>
      obtain ⟨m, rfl⟩ := hok
      split at h <;> first | cases h | skip
      all_goals cases hx
      all_goals cases hy
      all_goals simp [Op.equalIn, run_underlying hu]
    all_goals cases h

/-! ### Operators of two operands -/
def AV.eqs : AV → Bool
  | .int _ _ | .str _ => false
  | _ => true
def AV.nilI : AV → Bool
  | .nili => true
  | _ => false
noncomputable def binE (T : TypeId → Option TI) (S : TypeId → Bool) (op : BinOp) (t : TypeId) (x y : AV) : Option AV :=
  match x, y with
  | .int j a, .int k b => match op with
    | .shl => shiftE .shl j a b
    | .shr => shiftE .shr j a b
    | op => bif decide (j = k) then intE op j a b else none
  | .str a, .str b => strE op a b
  | x, y => bif x.eqs && !(x.nilI && y.nilI) then match op with
    | .eql => (eqE T S 6 t x y).map fun r => .bool r
    | .neq => (eqE T S 6 t x y).map fun r => .bool !r
    | _ => none
    else none
theorem run_binOp_eq {t : TypeId} {x : AV} {x' y' : Value} {r : Bool} (hx : R ρ x x') (hq : x.eqs = true) (he : (Op.equal t x' y').run P w = .ok r w) :
    (binOp .eql t x' y').run P w = .ok (.bool r) w ∧ (binOp .neq t x' y').run P w = .ok (.bool !r) w := by
  have h1 : (binOp .eql t x' y') = (do pure (.bool (← Op.equal t x' y')) : Sem Value) := by cases hx <;> simp [AV.eqs] at hq <;> simp [binOp]
  have h2 : (binOp .neq t x' y') = (do pure (.bool (!(← Op.equal t x' y'))) : Sem Value) := by cases hx <;> simp [AV.eqs] at hq <;> simp [binOp]
  rw [h1, h2]
  simp [he]
theorem eqE_agg {S : TypeId → Bool} {n : Nat} {t : TypeId} {l l' : List AV} {r : Bool} (h : eqE T S n t (.agg l) (.agg l') = some r) : S t = true := by
  cases n with
  | zero => cases h
  | succ n =>
    rw [eqE_succ] at h
    simp only [Option.bind_eq_some_iff] at h
    obtain ⟨i, hi, h⟩ := h
    cases htd : i.td <;> rw [htd] at h <;> dsimp only at h
    case struct fs => exact (cond_some h).1
    all_goals cases h
theorem run_guard {S : TypeId → Bool} (hS : Eqs P S) {op : BinOp} {t : TypeId} {X Y : Operand} {x y : AV} {x' y' : Value} (hx : R ρ x x') (hy : R ρ y y') (h1 : ∀ l l', x = .agg l → y = .agg l' → S t = true) (h2 : (x.nilI && y.nilI) = false) :
    (eqGuard op t X Y x' y').run P w = .ok () w := by
  cases hx <;> cases hy <;> (try (simp [AV.nilI] at h2; done)) <;> (try (cases op <;> rfl)) <;> skip
  have hg := (hS.ok t (h1 _ _ rfl rfl)).2.1
  cases op <;> simp [eqGuard, hg]
theorem run_bin_ok (hT : Types P T) {S : TypeId → Bool} (hS : Eqs P S) {op : BinOp} {t : TypeId} {X Y : Operand} {x y z : AV} {x' y' : Value} (h : binE T S op t x y = some z) (hx : R ρ x x') (hy : R ρ y y') :
    ∃ u, (do eqGuard op t X Y x' y'; binOp op t x' y').run P w = .ok u w ∧ R ρ z u := by
  unfold binE at h
  split at h
  · cases hx; cases hy
    have hg : ∀ j k a b, (eqGuard op t X Y (.int j a) (.int k b)).run P w = .ok () w := fun j k a b => run_guard (ρ := ρ) hS (.int j a) (.int k b) (by intro l l' e; cases e) rfl
    simp only [Sem.run_bind, hg, Result.andThen_ok]
    split at h
    · exact shift_ok h t
    · exact shift_ok h t
    · replace h := cond_some h
      obtain ⟨hc, h⟩ := h
      have hc' := of_decide_eq_true hc
      subst hc'
      exact int_ok h t
  · cases hx with | str s l hs =>
    cases hy with | str s' l' hs' =>
    subst hs hs'
    have hg : (eqGuard op t X Y (.string s) (.string s')).run P w = .ok () w := run_guard (ρ := ρ) hS (.str s _ rfl) (.str s' _ rfl) (by intro l l' e; cases e) rfl
    simp only [Sem.run_bind, hg, Result.andThen_ok]
    exact str_ok h t
  · replace h := cond_some h
    obtain ⟨hc, h⟩ := h
    simp only [Bool.and_eq_true, Bool.not_eq_true'] at hc
    obtain ⟨hq, hn⟩ := hc
    split at h
    · rw [Option.map_eq_some_iff] at h
      obtain ⟨r, hr, rfl⟩ := h
      have he := equalIn_ok (w := w) hT hS 6 10000 (by omega) _ _ _ _ hr _ _ hx hy
      have hb := (run_binOp_eq hx hq he).1
      have hg : (eqGuard .eql t X Y x' y').run P w = .ok () w := run_guard hS hx hy (by rintro l l' rfl rfl; exact eqE_agg hr) hn
      refine ⟨_, ?_, .bool _⟩
      simp only [Sem.run_bind, hg, Result.andThen_ok]
      exact hb
    · rw [Option.map_eq_some_iff] at h
      obtain ⟨r, hr, rfl⟩ := h
      have he := equalIn_ok (w := w) hT hS 6 10000 (by omega) _ _ _ _ hr _ _ hx hy
      have hb := (run_binOp_eq hx hq he).2
      have hg : (eqGuard .neq t X Y x' y').run P w = .ok () w := run_guard hS hx hy (by rintro l l' rfl rfl; exact eqE_agg hr) hn
      refine ⟨_, ?_, .bool _⟩
      simp only [Sem.run_bind, hg, Result.andThen_ok]
      exact hb
    · cases h
end
end Go.Proofs.YtllfnhapnndngaaGreatDoor.E
namespace Go.Proofs.YtllfnhapnndngaaGreatDoor.E
open Go
set_option linter.unusedVariables false
set_option linter.unusedSimpArgs false
theorem RL.of_get {ρ : Rho} : ∀ {l : List AV} {vs : List Value}, l.length = vs.length → (∀ (i : Nat) (x : AV) (y : Value), l[i]? = some x → vs[i]? = some y → R ρ x y) → RL ρ l vs := by
  intro l
  induction l with
  | nil => intro vs h _; cases vs with | nil => exact .nil | cons v vs => simp at h
  | cons a l ih =>
    intro vs h hg
    cases vs with
    | nil => simp at h
    | cons v vs =>
      refine .cons _ _ _ _ (hg 0 a v (by simp) (by simp)) (ih (by simpa using h) fun i x y hx hy => hg (i + 1) x y (by simpa using hx) (by simpa using hy))
/-- A row of zeros. -/
noncomputable def rowZ (zl : List AV) (n : Nat) : List AV :=
  Nat.rec (motive := fun _ => Nat → List AV) (fun _ => []) (fun _ ih i => (nth zl (Nat.mod i zl.length)).getD .nilp :: ih (Nat.succ i)) n 0
noncomputable def rowZ' (zl : List AV) (n : Nat) : Nat → List AV :=
  Nat.rec (motive := fun _ => Nat → List AV) (fun _ => []) (fun _ ih i => (nth zl (Nat.mod i zl.length)).getD .nilp :: ih (Nat.succ i)) n
theorem rowZ'_len (zl : List AV) (n : Nat) : ∀ i, (rowZ' zl n i).length = n := by
  induction n with
  | zero => intro i; rfl
  | succ n ih => intro i; show (_ :: rowZ' zl n (i + 1)).length = _; simp [ih]
theorem rowZ'_get (zl : List AV) (n : Nat) : ∀ i j, j < n → (rowZ' zl n i)[j]? = some ((zl[(i + j) % zl.length]?).getD .nilp) := by
  induction n with
  | zero => intro i j h; omega
  | succ n ih =>
    intro i j h
    show ((nth zl (i % zl.length)).getD .nilp :: rowZ' zl n (i + 1))[j]? = _
    cases j with
    | zero => simp [nth_eq]
    | succ j => rw [List.getElem?_cons_succ, ih _ _ (by omega)]; congr 4; omega
theorem rowZ_len (zl : List AV) (n : Nat) : (rowZ zl n).length = n := rowZ'_len zl n 0
theorem rowZ_ok {ρ : Rho} {zl : List AV} {cs : Array Value} (h : RL ρ zl cs.toList) (n : Nat) (h0 : n = 0 ∨ 0 < zl.length) : RL ρ (rowZ zl n) ((Array.range n).map (cs[· % cs.size]!)).toList := by
  have hl := h.length
  refine .of_get (by simp [rowZ_len]) fun i x y hx hy => ?_
  have hi : i < n := by
    rcases Nat.lt_or_ge i n with h | h
    · exact h
    · rw [List.getElem?_eq_none (by rw [rowZ_len]; exact h)] at hx; cases hx
  have hx' : x = (zl[i % zl.length]?).getD .nilp := by
    have := rowZ'_get zl n 0 i hi
    rw [Nat.zero_add] at this
    have h2 : (rowZ zl n)[i]? = some x := hx
    rw [show rowZ zl n = rowZ' zl n 0 from rfl, this] at h2
    exact (Option.some.inj h2).symm
  have hy' : y = cs[i % cs.size]! := by
    rw [Array.getElem?_toList] at hy
    rw [Array.getElem?_map, Array.getElem?_range, if_pos hi] at hy
    simpa using hy.symm
  have hpos : 0 < zl.length := by rcases h0 with h0 | h0 <;> omega
  have hlt : i % zl.length < zl.length := Nat.mod_lt _ hpos
  have hsz : cs.size = zl.length := by rw [hl]; simp
  obtain ⟨v, hv, hR⟩ := h.get (i % zl.length) _ (List.getElem?_eq_getElem hlt)
  rw [hx', hy', List.getElem?_eq_getElem hlt, hsz]
  rw [Array.getElem?_toList] at hv
  have : cs[i % zl.length]! = v := by
    rw [getElem!_def, hv]
  rw [this]
  exact hR

/-- The operation makes one block and answers with a word on it. -/
def Allocs (P : Program) (s : Sem Next) (w : World) (ρ : Rho) (l : List AV) (mk : Nat → AV) : Prop :=
  ∃ y w' cs el fr ys, s.run P w = .ok (.value y) w' ∧ w'.heap = w.heap.push (.cells cs el fr) ∧ w'.os = w.os ∧ w'.tape = w.tape ∧ w'.output = w.output ∧ (∀ x ∈ l, x.one = true) ∧ RL ρ l ys ∧
    (∀ (j : Nat) (v : Value), ys[j]? = some v → cs[j]? = some v) ∧ frozenOff fr cs.size ∧ ∀ (ρ' : Rho) (f : Nat), ρ' f 0 = some ⟨w.heap.size, 0, l.length, cs.size - l.length⟩ → R ρ' (mk f) y
theorem Allocs.ran {P : Program} {s : Sem Next} {w : World} {ρ : Rho} {H : AH} {l : List AV} {mk : Nat → AV} (h : Allocs P s w ρ l mk) (hr : Rel ρ H w) : Ran P s w ρ H (mk H.next) (H.new l) := by
  obtain ⟨y, w', cs, el, fr, ys, h1, h2, h3, h4, h5, h6, h7, h8, h9, h10⟩ := h
  obtain ⟨ρ', a, b, c⟩ := hr.alloc h6 h7 h8 h9 h2 h3 h4 h5
  exact ⟨ρ', w', y, .inl h1, h10 _ _ c, a, b⟩
section
variable {P : Program} {T : TypeId → Option TI} {w : World} {ρ : Rho} {H : AH}
def ptrTo (n f : Nat) : AV := .ptr f 0 0 n
def rowOf (len es : Nat) (cap : Option Nat) (f : Nat) : AV := .sl f 0 0 len es cap
theorem allocs_newVar {x : AV} {y : Value} (hx : R ρ x y) (h1 : ones x.cells = true) (t : TypeId) (s : Sem Value) (hs : s.run P w = .ok (.pointer (some ⟨w.heap.size, 0, none⟩)) (w.alloc (.cells y.cells t))) :
    Allocs P (do pure (.value (← s))) w ρ x.cells (ptrTo x.cells.length) := by
  refine ⟨.pointer (some ⟨w.heap.size, 0, none⟩), w.alloc (.cells y.cells t), y.cells, t, (0, 0), y.cells.toList, by simp [hs], rfl, rfl, rfl, rfl, ones_spec h1, hx.cells, by simp, by intro o h1 h2; simp at h2, ?_⟩
  intro ρ' f h
  have := R.ptr (ρ := ρ') f 0 0 x.cells.length _ h (by simp)
  simpa [ptrTo] using this
theorem allocs_alloc (hT : Types P T) {t : TypeId} {i : TI} (hi : T t = some i) (h1 : ones i.zero.cells = true) : Allocs P (do pure (.value (← Instr.alloc t true (.tuple #[])))) w ρ i.zero.cells (ptrTo i.zero.cells.length) := by
  obtain ⟨z, hz, hR⟩ := run_zeroValue (P := P) (w := w) hT hi
  exact allocs_newVar (hR ρ) h1 t _ (by simp [Instr.alloc, hz, newVar, newRow])
theorem allocs_box {x : AV} {y : Value} (hx : R ρ x y) (h1 : ones x.cells = true) (t : TypeId) : Allocs P (do pure (.value (← Instr.box t y))) w ρ x.cells (ptrTo x.cells.length) :=
  allocs_newVar hx h1 t _ (by simp [Instr.box, newVar, newRow])
noncomputable def placeE (size i : Nat) : Option (Nat × Nat) := some (Nat.mul i size, size)
noncomputable def buildSliceE (T : TypeId → Option TI) (t : TypeId) (len : Nat) (parts : List (Nat × AV)) : Option (List AV × (Nat → AV)) :=
  (T t).bind fun i => match i.td with
    | .slice e => (T e).bind fun j => bif Nat.ble (len * j.size) 16777216 && (Nat.beq (len * j.size) 0 || Nat.blt 0 j.zero.cells.length) then
        (fillE (placeE j.size) parts (rowZ j.zero.cells (len * j.size))).bind fun l => bif ones l && Nat.beq l.length (len * j.size) then some (l, rowOf len j.size (some len)) else none
      else none
    | _ => none
theorem allocs_row {l : List AV} {cs : Array Value} {len es : Nat} (hl : RL ρ l cs.toList) (h1 : ones l = true) (hlen : l.length = len * es) (e : TypeId) (s : Sem Value) (hs : s.run P w = .ok (.slice (some ⟨w.heap.size, 0, none⟩) len len) (w.alloc (.cells cs e))) :
    Allocs P (do pure (.value (← s))) w ρ l (rowOf len es (some len)) := by
  refine ⟨.slice (some ⟨w.heap.size, 0, none⟩) len len, w.alloc (.cells cs e), cs, e, (0, 0), cs.toList, by simp only [Sem.run_bind, hs, Result.andThen_ok, Sem.run_pure], rfl, rfl, rfl, rfl, ones_spec h1, hl, by simp, by intro o h1 h2; simp at h2, ?_⟩
  intro ρ' f h
  have hsz : cs.size = l.length := by rw [hl.length]; simp
  have := R.sl (ρ := ρ') f 0 0 len es (some len) _ len h (Nat.le_refl _) (by show 0 + _ ≤ l.length; omega) (by show 0 + _ ≤ l.length + _; omega) (by intro n hn; cases hn; exact ⟨rfl, by show 0 + _ ≤ l.length; omega⟩)
  simpa [rowOf] using this
theorem allocs_buildSlice (hT : Types P T) {t : TypeId} {len : Nat} {parts : List (Nat × AV)} {vps : Array (Nat × Value)} {l : List AV} {mk : Nat → AV} (h : buildSliceE T t len parts = some (l, mk)) (hp : RP ρ parts vps.toList) :
    Allocs P (do pure (.value (← Instr.buildSlice t len vps))) w ρ l mk := by
  simp only [buildSliceE, Option.bind_eq_some_iff] at h
  obtain ⟨i, hi, h⟩ := h
  obtain ⟨d, hd, hok⟩ := run_under (P := P) (w := w) hT hi
  split at h
  · rename_i e htd
    rw [htd] at hok
    cases hok
    simp only [Option.bind_eq_some_iff] at h
    obtain ⟨j, hj, h⟩ := h
    replace h := cond_some h
    obtain ⟨hc, h⟩ := h
    simp only [Bool.and_eq_true, Bool.or_eq_true, Nat.ble_eq, Nat.beq_eq, Nat.blt_eq] at hc
    obtain ⟨hc1, hc2⟩ := hc
    simp only [Option.bind_eq_some_iff] at h
    obtain ⟨l', hl', h⟩ := h
    replace h := cond_some h
    obtain ⟨hc3, h⟩ := h
    simp only [Bool.and_eq_true, Nat.beq_eq] at hc3
    cases h
    have hs : (sizeOf e).run P w = .ok j.size w := run_sizeOf hT hj
    obtain ⟨z, hz, hR⟩ := run_zeroValue (P := P) (w := w) hT hj
    have hpl : placeE j.size = fun i => some (i * j.size, j.size) := rfl
    have hsm : ¬ len * j.size > 2 ^ 24 := by omega
    by_cases h0 : len * j.size = 0
    · have hRL : RL ρ (rowZ j.zero.cells (len * j.size)) (#[] : Array Value).toList := by rw [h0]; exact .nil
      obtain ⟨cs, hf, hcs⟩ := fill_ok hp hl' hRL
      rw [hpl] at hf
      refine allocs_row hcs hc3.1 hc3.2 e _ ?_
      simp only [Instr.buildSlice, Sem.run_bind, hd, Result.andThen_ok, hs, if_neg hsm, Sem.run_pure]
      have e0 : Array.range 0 = #[] := rfl
      simp [h0, e0, hf, newRow]
    · have hRL : RL ρ (rowZ j.zero.cells (len * j.size)) ((Array.range (len * j.size)).map (z.cells[· % z.cells.size]!)).toList := rowZ_ok (hR ρ).cells _ (by omega)
      obtain ⟨cs, hf, hcs⟩ := fill_ok hp hl' hRL
      rw [hpl] at hf
      refine allocs_row hcs hc3.1 hc3.2 e _ ?_
      simp only [Instr.buildSlice, Sem.run_bind, hd, Result.andThen_ok, hs, if_neg hsm, Sem.run_pure, if_neg h0, Sem.run_ite, hz]
      simp [hf, newRow]
  · cases h
noncomputable def makeSliceE (T : TypeId → Option TI) (t : TypeId) (len cap : AV) : Option (List AV × (Nat → AV)) :=
  (T t).bind fun i => match i.td with
    | .slice e => (T e).bind fun j => (natOf len).bind fun n => (natOf cap).bind fun c => bif Nat.ble n c && (Nat.ble (c * j.size) 16777216 && (Nat.ble (j.bytes * c) 281474976710656 && (Nat.ble c 1000000000 && (Nat.blt 0 j.zero.cells.length && ones j.zero.cells)))) then
        some (rowZ j.zero.cells (c * j.size), rowOf n j.size (some c))
      else none
    | _ => none
theorem rowZ_ones {zl : List AV} (h : ones zl = true) (n : Nat) : ∀ x ∈ rowZ zl n, x.one = true := by
  intro x hx
  obtain ⟨i, hi⟩ := List.mem_iff_getElem?.1 hx
  have hlt : i < n := by
    rcases Nat.lt_or_ge i n with h | h
    · exact h
    · rw [List.getElem?_eq_none (by rw [rowZ_len]; exact h)] at hi; cases hi
  have := rowZ'_get zl n 0 i hlt
  rw [show rowZ zl n = rowZ' zl n 0 from rfl, this] at hi
  cases hi
  cases hz : zl[(0 + i) % zl.length]? with
  | none => rfl
  | some y => exact ones_spec h y (List.mem_of_getElem? hz)
theorem allocs_makeSlice (hT : Types P T) {t : TypeId} {len cap : AV} {lv cv : Value} {l : List AV} {mk : Nat → AV} (h : makeSliceE T t len cap = some (l, mk)) (hlen : R ρ len lv) (hcap : R ρ cap cv) :
    Allocs P (do pure (.value (← Instr.makeSlice t lv cv))) w ρ l mk := by
  simp only [makeSliceE, Option.bind_eq_some_iff] at h
  obtain ⟨i, hi, h⟩ := h
  obtain ⟨d, ji, zi, hu, hok, _⟩ := hT.ok t i hi
  split at h
  · rename_i e htd
    rw [htd] at hok
    cases hok
    simp only [Option.bind_eq_some_iff] at h
    obtain ⟨j, hj, n, hn, c, hc, h⟩ := h
    obtain ⟨_, jj, z, _, _, hjj, hjs, hjb, hz, hR⟩ := hT.ok e j hj
    replace h := cond_some h
    obtain ⟨hcc, h⟩ := h
    simp only [Bool.and_eq_true, Nat.ble_eq, Nat.blt_eq] at hcc
    obtain ⟨g1, g2, g3, g4, g5, g6⟩ := hcc
    cases h
    obtain ⟨kl, rfl⟩ := natOf_ok hn hlen
    obtain ⟨kc, rfl⟩ := natOf_ok hc hcap
    have g3' : (j.bytes : Int) * (c : Int) ≤ 281474976710656 := by rw [← Int.natCast_mul]; omega
    have hrun := run_makeSlice (P := P) w t e jj z hu hjj hz kl kc n c (by omega) (by omega) (by rw [hjs, Int.toNat_natCast]; exact g2) (by rw [hjb]; exact g3') (by omega)
    have hRL := rowZ_ok (ρ := ρ) (hR ρ).cells (c * j.size) (.inr g5)
    have hmade : madeCells z.cells (c * j.size) = (Array.range (c * j.size)).map (z.cells[· % z.cells.size]!) := rfl
    rw [Int.toNat_natCast, Int.toNat_natCast, hjs, hmade] at hrun
    refine ⟨.slice (some ⟨w.heap.size, 0, none⟩) n c, w.alloc (.cells ((Array.range (c * j.size)).map (z.cells[· % z.cells.size]!)) e), (Array.range (c * j.size)).map (z.cells[· % z.cells.size]!), e, (0, 0), ((Array.range (c * j.size)).map (z.cells[· % z.cells.size]!)).toList, by rw [Sem.run_bind, hrun]; rfl, rfl, rfl, rfl, rfl, rowZ_ones g6 _, hRL, by intro j y hj; rwa [Array.getElem?_toList] at hj, by rintro o h1 h2; exact absurd h2 (by omega), ?_⟩
    intro ρ' f h
    have hm := Nat.mul_le_mul_right j.size g1
    have := R.sl (ρ := ρ') f 0 0 n j.size (some c) _ c h g1 (by show 0 + _ ≤ (rowZ _ _).length; rw [rowZ_len]; omega) (by show 0 + _ ≤ (rowZ _ _).length + _; rw [rowZ_len]; omega) (by intro n hn; cases hn; exact ⟨rfl, by show 0 + _ ≤ (rowZ _ _).length; rw [rowZ_len]; omega⟩)
    simpa [rowOf] using this
  · cases h
end
end Go.Proofs.YtllfnhapnndngaaGreatDoor.E
namespace Go.Proofs.YtllfnhapnndngaaGreatDoor.E
open Go
set_option linter.unusedVariables false
set_option linter.unusedSimpArgs false
noncomputable def keyE (td : TD) (k : AV) : Bool :=
  match td, k with
  | .bool, .bool _ => true
  | .int j, .int k _ => decide (k = j)
  | .string, .str _ => true
  | _, _ => false
noncomputable def sameK : AV → AV → Option Bool
  | .bool a, .bool b => some (a == b)
  | .int j a, .int k b => bif decide (j = k) then some (decide (a = b)) else none
  | .str a, .str b => some (eqL a b)
  | _, _ => none
noncomputable def findE (k : AV) (l : List (AV × AV)) : Nat → Option (Option (Nat × AV)) :=
  List.rec (motive := fun _ => Nat → Option (Option (Nat × AV))) (fun _ => some none) (fun e _ ih i => (sameK k e.1).bind fun b => bif b then some (some (i, e.2)) else ih (Nat.succ i)) l
noncomputable def setNth {α : Type} (l : List α) : Nat → α → List α :=
  List.rec (motive := fun _ => Nat → α → List α) (fun _ _ => []) (fun x r ih i y => Nat.casesOn (motive := fun _ => List α) i (y :: r) fun j => x :: ih j y) l
section
variable {P : Program} {T : TypeId → Option TI} {w : World} {ρ : Rho} {H : AH}
theorem keyE_ok {td : TD} {k : AV} {d : TypeDesc} {v : Value} (h : keyE td k = true) (hd : td.Ok d) (hv : R ρ k v) : MapKept.IsKey d v := by
  unfold keyE at h
  split at h
  · cases hd; cases hv; trivial
  · cases hd; cases hv; have h' := of_decide_eq_true h; exact h'
  · cases hd; cases hv; trivial
  · cases h
theorem sameK_ok {td : TD} {a b : AV} {d : TypeDesc} {x y : Value} {r : Bool} (hk : keyE td a = true) (h : sameK a b = some r) (hd : td.Ok d) (hx : R ρ a x) (hy : R ρ b y) :
    Instr.sameNow d x y = some r ∧ (r = true → Instr.sameBits 10000 y x = true) := by
  cases hx <;> cases hy <;> simp only [sameK, reduceCtorEq] at h
  case bool.bool a b =>
    cases td <;> simp only [keyE, Bool.false_eq_true] at hk
    cases hd
    cases h
    refine ⟨rfl, fun e => ?_⟩
    simp only [Instr.sameBits]
    rw [beq_iff_eq] at e ⊢; exact e.symm
  case int.int j a k b =>
    cases td <;> simp only [keyE, Bool.false_eq_true] at hk
    cases hd
    replace h := cond_some h
    obtain ⟨hc, h⟩ := h
    have := of_decide_eq_true hc
    subst this
    cases h
    refine ⟨by simp [Instr.sameNow]; rfl, fun e => ?_⟩
    simp only [Instr.sameBits]
    have := of_decide_eq_true e
    subst this
    simp
  case str.str s l hs s' l' hs' =>
    cases td <;> simp only [keyE, Bool.false_eq_true] at hk
    cases hd
    subst hs hs'
    cases h
    have hb : (s == s') = eqL (bytesN s) (bytesN s') := by rw [beq_toListBytes, list_u8_beq]
    refine ⟨by simp only [Instr.sameNow, hb], fun e => ?_⟩
    simp only [Instr.sameBits]
    rw [← hb, MapKept.bytes_beq] at e
    subst e
    rw [MapKept.bytes_beq]
theorem findE_ok {td : TD} {k : AV} {d : TypeDesc} {kv : Value} (hk : keyE td k = true) (hd : td.Ok d) (hv : R ρ k kv) {l : List (AV × AV)} : ∀ {es : List MapEntry} {n i : Nat} {r : Option (Nat × AV)}, RM ρ l es n → findE k l i = some r →
    (r = none ∧ Instr.findNow d kv es i = some none) ∨ ∃ j x e, r = some (i + j, x) ∧ es[j]? = some e ∧ j < l.length ∧ Instr.findNow d kv es i = some (some (i + j, e.val)) ∧ R ρ x e.val ∧ Instr.sameBits 10000 e.key kv = true := by
  induction l with
  | nil => intro es n i r hm h; cases hm; cases h; exact .inl ⟨rfl, rfl⟩
  | cons p l ih =>
    intro es n i r hm h
    cases hm with
    | cons k' v e _ es n hk' hv' hm =>
      change ((sameK k k').bind fun b => bif b then some (some (i, v)) else findE k l (i + 1)) = some r at h
      simp only [Option.bind_eq_some_iff] at h
      obtain ⟨b, hb, h⟩ := h
      obtain ⟨h1, h2⟩ := sameK_ok hk hb hd hv hk'
      cases b with
      | true =>
        cases h
        exact .inr ⟨0, v, e, rfl, rfl, by simp, by simp [Instr.findNow, h1], hv', h2 rfl⟩
      | false =>
        rcases ih hm h with ⟨rfl, h3⟩ | ⟨j, x, e', rfl, h3, h4, h5, h6, h7⟩
        · exact .inl ⟨rfl, by simp [Instr.findNow, h1, h3]⟩
        · refine .inr ⟨j + 1, x, e', by congr 2; omega, by simpa using h3, by simpa using h4, ?_, h6, h7⟩
          simp only [Instr.findNow, h1, h5]
          congr 3; omega
theorem RM.push {l : List (AV × AV)} : ∀ {es : List MapEntry} {n : Nat}, RM ρ l es n → ∀ {k v : AV} {e : MapEntry}, R ρ k e.key → R ρ v e.val → RM ρ (l ++ [(k, v)]) (es ++ [e]) n := by
  induction l with
  | nil => intro es n h k v e h1 h2; cases h; exact .cons k v e _ _ _ h1 h2 (.nil _)
  | cons p l ih => intro es n h k v e h1 h2; cases h with | cons k' v' e' _ es n a b c => exact .cons _ _ _ _ _ _ a b (ih c h1 h2)
theorem RM.set {l : List (AV × AV)} : ∀ {es : List MapEntry} {n : Nat}, RM ρ l es n → ∀ (j : Nat) {k v : AV} {f : MapEntry → MapEntry}, (∀ e, R ρ k (f e).key ∧ R ρ v (f e).val) → RM ρ (setNth l j (k, v)) (es.modify j f) n := by
  induction l with
  | nil => intro es n h j k v f hf; cases h; simp; exact .nil _
  | cons p l ih =>
    intro es n h j k v f hf
    cases h with
    | cons k' v' e' _ es n a b c =>
      cases j with
      | zero => exact .cons _ _ _ _ _ _ (hf e').1 (hf e').2 c
      | succ j => exact .cons _ _ _ _ _ _ a b (ih c j hf)
theorem RM.start {l : List (AV × AV)} : ∀ {es : List MapEntry} {n : Nat} (m : Nat), RM ρ l es n → RM ρ l es m := by
  induction l with
  | nil => intro es n m h; cases h; exact .nil _
  | cons p l ih => intro es n m h; cases h with | cons k' v' e' _ es n a b c => exact .cons _ _ _ _ _ _ a b (ih _ c)

/-! ### What a map holds -/
noncomputable def entriesE (H : AH) (m : AV) : Option (List (AV × AV)) :=
  match m with
  | .nilm => some []
  | .map f => (H.t.get f).bind fun b => match b with
    | .map es _ => some es
    | _ => none
  | _ => none
theorem entries_ok (hr : Rel ρ H w) {m : AV} {mv : Value} {l : List (AV × AV)} (h : entriesE H m = some l) (hm : R ρ m mv) :
    (mv = .map none ∧ l = []) ∨ ∃ (f : Nat) (im : Img) (es : Array MapEntry) (ck ck' : Nat), m = .map f ∧ H.t.get f = some (.map l ck') ∧ ρ f 0 = some im ∧ mv = .map (some im.cb) ∧ w.heap[im.cb]? = some (.map es ck) ∧ RM ρ l es.toList 0 ∧ ∀ e ∈ es.toList, e.born < ck := by
  unfold entriesE at h
  split at h
  · cases h; cases hm; exact .inl ⟨rfl, rfl⟩
  · rename_i f
    simp only [Option.bind_eq_some_iff] at h
    obtain ⟨b, hb, h⟩ := h
    split at h
    · rename_i es clock
      cases h
      cases hm with
      | map _ im him =>
        obtain ⟨as, ck, h1, h3, h4⟩ := hr.blk f _ hb im him
        exact .inr ⟨f, im, as, ck, clock, rfl, hb, him, rfl, h1, h3, h4⟩
    · cases h
  · cases h

noncomputable def lookupE (T : TypeId → Option TI) (H : AH) (t : TypeId) (m k : AV) (ok : Bool) : Option AV :=
  (T t).bind fun i => match i.td with
    | .map kt et => (T kt).bind fun ki => (T et).bind fun ei => bif keyE ki.td k then (entriesE H m).bind fun l => (findE k l 0).bind fun r =>
        match r with
        | some p => some (bif ok then .tup [p.2, .bool true] else p.2)
        | none => some (bif ok then .tup [ei.zero, .bool false] else ei.zero)
      else none
    | _ => none
theorem RL.two {x y : AV} {a b : Value} (h : R ρ x a) (k : R ρ y b) : RL ρ [x, y] [a, b] := .cons _ _ _ _ h (.cons _ _ _ _ k .nil)
theorem run_lookup_ok (hT : Types P T) (hr : Rel ρ H w) {t : TypeId} {m k z : AV} {mv kv : Value} {ok : Bool} (h : lookupE T H t m k ok = some z) (hm : R ρ m mv) (hk : R ρ k kv) :
    ∃ u, (Instr.lookup t mv kv ok).run P w = .ok u w ∧ R ρ z u := by
  simp only [lookupE, Option.bind_eq_some_iff] at h
  obtain ⟨i, hi, h⟩ := h
  obtain ⟨d, hd, hok⟩ := run_under (P := P) (w := w) hT hi
  split at h
  · rename_i kt et htd
    rw [htd] at hok
    cases hok
    simp only [Option.bind_eq_some_iff] at h
    obtain ⟨ki, hki, ei, hei, h⟩ := h
    obtain ⟨kd, _, _, hku, hkok, _⟩ := hT.ok kt ki hki
    obtain ⟨zv, hz, hzR⟩ := run_zeroValue (P := P) (w := w) hT hei
    replace h := cond_some h
    obtain ⟨hkey, h⟩ := h
    simp only [Option.bind_eq_some_iff] at h
    obtain ⟨l, hl, r, hf, h⟩ := h
    have hik := keyE_ok hkey hkok hk
    have main : ∀ (es : Array MapEntry), ((mv = .map none ∧ es = #[]) ∨ ∃ r ck, mv = .map (some r) ∧ w.heap[r]? = some (.map es ck)) → RM ρ l es.toList 0 → ∃ u, (Instr.lookup t mv kv ok).run P w = .ok u w ∧ R ρ z u := by
      intro es hes hrm
      have hck : (Instr.checkKey es.isEmpty 10000 kt kv).run P w = .ok () w := MapKept.run_checkKey hku hik es.isEmpty 9999
      rcases findE_ok hkey hkok hk hrm hf with ⟨rfl, h3⟩ | ⟨j, x, e, rfl, h3, h4, h5, h6, h7⟩
      · cases h
        refine ⟨if ok then .tuple #[zv, .bool false] else zv, ?_, ?_⟩
        · rcases hes with ⟨rfl, rfl⟩ | ⟨r, ck, rfl, h1⟩
          · have hck' : (Instr.checkKey true 10000 kt kv).run P w = .ok () w := hck
            have h3' : Instr.findNow kd kv [] 0 = some none := h3
            simp [Instr.lookup, hd, hck', MapKept.run_findKey hku h3', hz]
          · simp only [Instr.lookup, Sem.run_bind, hd, Result.andThen_ok, MapKept.run_getObj_map h1, Sem.run_pure, hck, MapKept.run_findKey hku h3, hz]
        · cases ok
          · exact hzR ρ
          · exact .tup _ _ (RL.two (hzR ρ) (.bool false))
      · cases h
        refine ⟨if ok then .tuple #[e.val, .bool true] else e.val, ?_, ?_⟩
        · rcases hes with ⟨rfl, rfl⟩ | ⟨r, ck, rfl, h1⟩
          · simp at h3
          · simp only [Instr.lookup, Sem.run_bind, hd, Result.andThen_ok, MapKept.run_getObj_map h1, Sem.run_pure, hck, MapKept.run_findKey hku h5]
        · cases ok
          · exact h6
          · exact .tup _ _ (RL.two h6 (.bool true))
    rcases entries_ok hr hl hm with ⟨rfl, rfl⟩ | ⟨f, im, es, ck, ck', _, _, _, rfl, h1, hrm, _⟩
    · exact main #[] (.inl ⟨rfl, rfl⟩) (.nil _)
    · exact main es (.inr ⟨_, ck, rfl, h1⟩) hrm
  · cases h

/-! ### Changes of a map -/
noncomputable def AH.setMap (H : AH) (f : Nat) (l : List (AV × AV)) : AH := ⟨H.next, H.t.set f (.map l 0), f :: H.wr⟩
theorem Rel.setMap (hr : Rel ρ H w) {f : Nat} {im : Img} {l l' : List (AV × AV)} {ck' : Nat} (hb : H.t.get f = some (.map l ck')) (him : ρ f 0 = some im) (es : Array MapEntry) (ck : Nat) (hrm : RM ρ l' es.toList 0) (hborn : ∀ e ∈ es.toList, e.born < ck) :
    Rel ρ (H.setMap f l') { w with heap := w.heap.setIfInBounds im.cb (.map es ck) } ∧ Stp ρ H w ρ (H.setMap f l') { w with heap := w.heap.setIfInBounds im.cb (.map es ck) } := by
  have hlive : Live H f 0 := ⟨_, hb, rfl⟩
  have hcb := hr.size f 0 im hlive him
  have hone : ∀ v jm, (ABlk.map l' 0).has v → ρ f v = some jm → v = 0 ∧ jm = im := by
    intro v jm hv hj
    obtain rfl : v = 0 := hv
    rw [him] at hj; cases hj; exact ⟨rfl, rfl⟩
  refine Rel.change (f := f) (nx := H.next) (b' := .map l' 0) hr (Rho.le_refl _) (fun _ _ _ => rfl) (Nat.le_refl _) (hr.fresh _ _ _ him) (.inr ⟨_, hb⟩) (fun im h => hr.root f im h) (by simp) rfl rfl rfl ?_ ?_ ?_ ?_
  · intro jm hj
    rw [him] at hj; cases hj
    exact ⟨es, ck, by simp [hcb], hrm, hborn⟩
  · intro k hk hn
    have : im.cb ≠ k := hn 0 im hlive him
    simp [this]
  · intro v jm hv hj
    obtain ⟨rfl, rfl⟩ := hone v jm hv hj
    exact ⟨by simpa using hcb, fun _ => ⟨0, _, hlive, him, rfl⟩⟩
  · intro v u jm km hv hu hj hk _
    obtain ⟨rfl, rfl⟩ := hone v jm hv hj
    obtain ⟨rfl, rfl⟩ := hone u km hu hk
    rfl
noncomputable def AH.newMap (H : AH) : AH := ⟨H.next + 1, H.t.set H.next (.map [] 0), H.next :: H.wr⟩
theorem Rel.newMap (hr : Rel ρ H w) : ∃ ρ', Rel ρ' H.newMap (w.alloc (.map #[] 0)) ∧ Stp ρ H w ρ' H.newMap (w.alloc (.map #[] 0)) ∧ R ρ' (.map H.next) (.map (some w.heap.size)) := by
  have hnone : ∀ v, ρ H.next v = none := fun v => by
    cases h : ρ H.next v with
    | none => rfl
    | some im => exact absurd (hr.fresh _ _ _ h) (by omega)
  have hle : ρ.le (ρ.add H.next 0 ⟨w.heap.size, 0, 0, 0⟩) := Rho.le_add _ _ (hnone 0)
  have hone : ∀ v jm, (ABlk.map [] 0).has v → (ρ.add H.next 0 ⟨w.heap.size, 0, 0, 0⟩) H.next v = some jm → v = 0 ∧ jm = ⟨w.heap.size, 0, 0, 0⟩ := by
    intro v jm hv hj
    obtain rfl : v = 0 := hv
    rw [Rho.add_same] at hj; cases hj; exact ⟨rfl, rfl⟩
  have hheap : (w.alloc (.map #[] 0)).heap = w.heap.push (.map #[] 0) := rfl
  have key := Rel.change (ρ' := ρ.add H.next 0 ⟨w.heap.size, 0, 0, 0⟩) (w' := w.alloc (.map #[] 0)) (f := H.next) (nx := H.next + 1) (b' := .map [] 0) hr hle (fun g v hg => Rho.add_ne _ _ (by simp [hg])) (by omega) (by omega) (.inl (Nat.le_refl _)) (fun im h _ => by rw [(hone 0 im rfl h).2]) (by rw [hheap]; simp) rfl rfl rfl ?_ ?_ ?_ ?_
  · exact ⟨_, key.1, key.2, .map _ _ (Rho.add_same _ _ _ _)⟩
  · intro jm hj
    rw [Rho.add_same] at hj; cases hj
    exact ⟨#[], 0, by rw [hheap]; simp, .nil _, by intro e he; simp at he⟩
  · intro k hk _
    rw [hheap, Array.getElem?_push, if_neg (by omega)]
  · intro v jm hv hj
    obtain ⟨rfl, rfl⟩ := hone v jm hv hj
    refine ⟨by rw [hheap]; simp, fun h => ?_⟩
    simp at h
  · intro v u jm km hv hu hj hk _
    obtain ⟨_, rfl⟩ := hone v jm hv hj
    obtain ⟨_, rfl⟩ := hone u km hu hk
    rfl
theorem run_makeMap_ok (hr : Rel ρ H w) (t : TypeId) : ∃ ρ' w' y, (Instr.makeMap t none).run P w = .ok y w' ∧ R ρ' (.map H.next) y ∧ Rel ρ' H.newMap w' ∧ Stp ρ H w ρ' H.newMap w' := by
  obtain ⟨ρ', a, b, c⟩ := hr.newMap
  exact ⟨ρ', _, _, by simp [Instr.makeMap], c, a, b⟩
noncomputable def updateE (T : TypeId → Option TI) (H : AH) (t : TypeId) (m k v : AV) : Option AH :=
  (T t).bind fun i => match i.td, m with
    | .map kt et, .map f => (T kt).bind fun ki => bif keyE ki.td k then (entriesE H (.map f)).bind fun l => (findE k l 0).bind fun r =>
        match r with
        | some p => some (H.setMap f (setNth l p.1 (k, v)))
        | none => some (H.setMap f (l ++ [(k, v)]))
      else none
    | _, _ => none
theorem run_mapUpdate_ok (hT : Types P T) (hr : Rel ρ H w) {t : TypeId} {m k v : AV} {mv kv vv : Value} {H' : AH} (h : updateE T H t m k v = some H') (hm : R ρ m mv) (hk : R ρ k kv) (hv : R ρ v vv) :
    ∃ w', (Instr.mapUpdate t mv kv vv).run P w = .ok () w' ∧ Rel ρ H' w' ∧ Stp ρ H w ρ H' w' := by
  simp only [updateE, Option.bind_eq_some_iff] at h
  obtain ⟨i, hi, h⟩ := h
  obtain ⟨d, hd, hok⟩ := run_under (P := P) (w := w) hT hi
  split at h
  · rename_i kt et f htd
    rw [htd] at hok
    cases hok
    simp only [Option.bind_eq_some_iff] at h
    obtain ⟨ki, hki, h⟩ := h
    obtain ⟨kd, _, _, hku, hkok, _⟩ := hT.ok kt ki hki
    replace h := cond_some h
    obtain ⟨hkey, h⟩ := h
    simp only [Option.bind_eq_some_iff] at h
    obtain ⟨l, hl, r, hf, h⟩ := h
    have hik := keyE_ok hkey hkok hk
    rcases entries_ok hr hl hm with ⟨rfl, _⟩ | ⟨f', im, es, ck, ck', e1, hb, him, rfl, h1, hrm, hbn⟩
    · cases hm
    · cases e1
      have hck : (Instr.checkKey false 10000 kt kv).run P w = .ok () w := MapKept.run_checkKey hku hik false 9999
      rcases findE_ok hkey hkok hk hrm hf with ⟨rfl, h3⟩ | ⟨j, x, e, rfl, h3, h4, h5, h6, h7⟩
      · cases h
        obtain ⟨a, b⟩ := hr.setMap (l' := l ++ [(k, v)]) hb him (es.push { key := kv, val := vv, born := ck }) (ck + 1) (by
          have := hrm.push (e := { key := kv, val := vv, born := ck }) hk hv
          simpa using this) (by
          intro e he
          simp only [Array.toList_push, List.mem_append, List.mem_singleton] at he
          rcases he with he | rfl
          · exact Nat.lt_succ_of_lt (hbn e he)
          · exact Nat.lt_succ_self ck)
        refine ⟨_, ?_, a, b⟩
        simp only [Instr.mapUpdate, Sem.run_bind, hd, Result.andThen_ok, MapKept.run_getObj_map h1, hck, MapKept.run_findKey hku h3, MapKept.run_setObj_map _ h1]
      · cases h
        obtain ⟨a, b⟩ := hr.setMap (l' := setNth l (0 + j) (k, v)) hb him (es.modify (0 + j) fun e => { e with key := kv, val := vv }) ck (by
          have := hrm.set (0 + j) (k := k) (v := v) (f := fun e => { e with key := kv, val := vv }) (fun e => ⟨hk, hv⟩)
          rw [Array.toList_modify]; exact this) (by
          intro e he
          rw [Array.toList_modify] at he
          obtain ⟨i, hi⟩ := List.mem_iff_getElem?.1 he
          rw [List.getElem?_modify] at hi
          cases hc : es.toList[i]? with
          | none => rw [hc] at hi; cases hi
          | some e' =>
            have := hbn e' (List.mem_of_getElem? hc)
            rw [hc] at hi
            cases hi
            dsimp only
            split <;> exact this)
        refine ⟨_, ?_, a, b⟩
        have hget : ((es[0 + j]?).map (·.key)).getD kv = e.key := by
          rw [Array.getElem?_toList] at h3
          rw [Nat.zero_add, h3]; rfl
        simp only [Instr.mapUpdate, Sem.run_bind, hd, Result.andThen_ok, MapKept.run_getObj_map h1, hck, MapKept.run_findKey hku h5, hget, Instr.keyThatStays, h7, if_true, Sem.run_pure, MapKept.run_setObj_map _ h1]
  · cases h

/-! ### clear -/
noncomputable def clearE (T : TypeId → Option TI) (H : AH) (t : TypeId) (x : AV) : Option AH :=
  (T t).bind fun i => match i.td, x with
    | .map _ _, .nilm => some H
    | .map _ _, .map f => (entriesE H (.map f)).bind fun _ => some (H.setMap f [])
    | .slice _, .nils => some H
    | .slice _, .sl _ _ _ n _ _ => bif Nat.beq n 0 then some H else none
    | _, _ => none
theorem run_clear_ok (hT : Types P T) (hr : Rel ρ H w) {t ty : TypeId} {x : AV} {y : Value} {H' : AH} (h : clearE T H t x = some H') (hx : R ρ x y) :
    ∃ w', (Builtin.clear_ #[t] ty #[y]).run P w = .ok (.tuple #[]) w' ∧ Rel ρ H' w' ∧ Stp ρ H w ρ H' w' := by
  simp only [clearE, Option.bind_eq_some_iff] at h
  obtain ⟨i, hi, h⟩ := h
  obtain ⟨d, hd, hok⟩ := run_under (P := P) (w := w) hT hi
  split at h
  · rename_i kt et htd
    rw [htd] at hok
    cases hok
    cases h; cases hx
    exact ⟨w, by simp [Builtin.clear_, hd], hr, Stp.refl _ _ _⟩
  · rename_i kt et f htd
    rw [htd] at hok
    cases hok
    simp only [Option.bind_eq_some_iff] at h
    obtain ⟨l, hl, h⟩ := h
    cases h
    rcases entries_ok hr hl hx with ⟨rfl, _⟩ | ⟨f', im, es, ck, ck', e1, hb, him, rfl, h1, hrm, _⟩
    · cases hx
    · cases e1
      obtain ⟨a, b⟩ := hr.setMap (l' := []) hb him #[] ck (.nil _) (by intro e he; simp at he)
      exact ⟨_, by simp [Builtin.clear_, hd, MapKept.run_getObj_map h1, MapKept.run_setObj_map _ h1], a, b⟩
  · rename_i e htd
    rw [htd] at hok
    cases hok
    cases h; cases hx
    exact ⟨w, by simp [Builtin.clear_, hd], hr, Stp.refl _ _ _⟩
  · rename_i e f v o n es c htd
    rw [htd] at hok
    cases hok
    replace h := cond_some h
    obtain ⟨hc, h⟩ := h
    rw [Nat.beq_eq] at hc
    subst hc
    cases h
    cases hx <;> exact ⟨w, by simp [Builtin.clear_, hd], hr, Stp.refl _ _ _⟩
  · cases h
end
end Go.Proofs.YtllfnhapnndngaaGreatDoor.E
namespace Go.Proofs.YtllfnhapnndngaaGreatDoor.E
open Go
set_option linter.unusedVariables false
set_option linter.unusedSimpArgs false
/-! ### The small ones -/
noncomputable def convR (T : TypeId → Option TI) (H : AH) (src dst : TypeId) (x : AV) : Option AV :=
  (T src).bind fun i => (T dst).bind fun k => match x with
    | .int _ n => (match k.td with
      | .int kd => some (.int kd (kd.wrap n))
      | _ => none)
    | .str l => (match k.td with
      | .string => some (.str l)
      | _ => none)
    | .nils => (match i.td, k.td with
      | .slice e, .string => (T e).bind fun j => (match j.td with
        | .int .u8 => some (.str [])
        | _ => none)
      | _, _ => none)
    | .sl f v o len es c => (match i.td, k.td with
      | .slice e, .string => (T e).bind fun j => (match j.td with
        | .int .u8 => (srcE H 1 (.sl f v o len es c)).bind fun p => (bytesE p.2).bind fun bs => some (.str bs)
        | _ => none)
      | _, _ => none)
    | _ => none
noncomputable def byteAV (b : Nat) : AV := .int .u8 (Int.ofNat b)
noncomputable def convA (T : TypeId → Option TI) (src dst : TypeId) (x : AV) : Option (List AV × (Nat → AV)) :=
  (T src).bind fun i => (T dst).bind fun k => match x with
    | .str l => (match k.td with
      | .slice e => (T e).bind fun j => (match j.td with
        | .int .u8 => bif Nat.ble l.length 1000000 then some (l.map byteAV, rowOf l.length 1 none) else none
        | _ => none)
      | _ => none)
    | _ => none
noncomputable def placesE (T : TypeId → Option TI) (fs : List (Nat × TypeId)) : Option (List (Nat × Nat)) :=
  List.rec (motive := fun _ => Option (List (Nat × Nat))) (some []) (fun f _ ih => (T f.2).bind fun j => ih.bind fun l => some ((f.1, j.size) :: l)) fs
noncomputable def buildE (T : TypeId → Option TI) (t : TypeId) (parts : List (Nat × AV)) : Option AV :=
  (T t).bind fun i => match i.td with
    | .array _ e => (T e).bind fun j => (fillE (placeE j.size) parts i.zero.cells).bind fun l => some (.agg l)
    | .struct fs => (placesE T fs).bind fun pl => (fillE (nth pl) parts i.zero.cells).bind fun l => some (.agg l)
    | _ => none
noncomputable def unE (op : UnOp) (x : AV) : Option AV :=
  match op, x with
  | .not, .bool b => some (.bool !b)
  | .neg, .int k n => intE .sub k 0 n
  | .xor, .int k n => intE .xor k (bif k.signed then -1 else k.max) n
  | _, _ => none
noncomputable def pickE (c a b : AV) : Option AV :=
  match c with
  | .bool c => some (bif c then a else b)
  | _ => none
noncomputable def nilCheckE (x : AV) : Option AV :=
  match x with
  | .ptr f v o k => some (.ptr f v o k)
  | .fn g a b => some (.fn g a b)
  | .ifc t x => some (.ifc t x)
  | _ => none
noncomputable def extractE (x : AV) (i : Nat) : Option AV :=
  match x with
  | .tup l => nth l i
  | _ => none
noncomputable def ifaceE (T : TypeId → Option TI) (t : TypeId) (x : AV) : Option AV :=
  (T t).bind fun i => match i.td with
    | .iface => none
    | _ => some (.ifc t x)
noncomputable def minE (x y : AV) : Option AV :=
  match x, y with
  | .int k a, .int _ b => some (.int k (bif decide (b < a) then b else a))
  | _, _ => none
section
variable {P : Program} {T : TypeId → Option TI} {w : World} {ρ : Rho} {H : AH}
theorem run_convR (hT : Types P T) (hr : Rel ρ H w) {src dst : TypeId} {x z : AV} {y : Value} (h : convR T H src dst x = some z) (hx : R ρ x y) : ∃ u, (convert src dst y).run P w = .ok u w ∧ R ρ z u := by
  simp only [convR, Option.bind_eq_some_iff] at h
  obtain ⟨i, hi, k, hk, h⟩ := h
  obtain ⟨d, hd, hok⟩ := run_under (P := P) (w := w) hT hi
  obtain ⟨dk, hdk, hokk⟩ := run_under (P := P) (w := w) hT hk
  split at h
  · split at h
    · rename_i kd htd
      rw [htd] at hokk
      cases hokk
      cases h
      cases hx
      exact ⟨_, by simp [convert, hd, hdk, Conv.intToInt], .int _ _⟩
    · cases h
  · rename_i l
    split at h
    · rename_i htd
      rw [htd] at hokk
      cases hokk
      cases h
      cases hx with
      | str s _ hs => exact ⟨.string s, by simp [convert, hd, hdk], .str _ _ hs⟩
    · cases h
  · split at h
    · rename_i e htd htk
      rw [htd] at hok
      rw [htk] at hokk
      cases hok
      cases hokk
      simp only [Option.bind_eq_some_iff] at h
      obtain ⟨j, hj, h⟩ := h
      obtain ⟨de, hde, hoke⟩ := run_under (P := P) (w := w) hT hj
      split at h
      · rename_i htde
        rw [htde] at hoke
        cases hoke
        cases h
        cases hx
        exact ⟨.string .empty, by simp [convert, hd, hdk, hde, Conv.bytesToString], .str _ _ rfl⟩
      · cases h
    · cases h
  · rename_i f v o len es c
    split at h
    · rename_i e htd htk
      rw [htd] at hok
      rw [htk] at hokk
      cases hok
      cases hokk
      simp only [Option.bind_eq_some_iff] at h
      obtain ⟨j, hj, h⟩ := h
      obtain ⟨de, hde, hoke⟩ := run_under (P := P) (w := w) hT hj
      split at h
      · rename_i htde
        rw [htde] at hoke
        cases hoke
        simp only [Option.bind_eq_some_iff, Option.some.injEq] at h
        obtain ⟨⟨n, l⟩, hsrc, bs, hbs, rfl⟩ := h
        obtain ⟨ys, hrun, hl, hll, h1⟩ := src_ok (P := P) hr hsrc hx
        obtain ⟨zs, e1, rfl⟩ := bytesE_ok hbs hl
        have hl1 := (hrun w rfl).1
        have hl2 := (hrun w rfl).2
        have hfin : ∀ (a : Addr) (cap : Nat), n = len → (loadCells a len).run P w = .ok ys.toArray w → (convert src dst (.slice (some a) len cap)).run P w = .ok (.string (zs.foldl (fun r n => r.push (UInt8.ofNat n.toNat)) ByteArray.empty)) w := by
          intro a cap hn hload
          rw [e1] at hload
          have := run_bytesToString w a len cap zs hload
          simp [convert, hd, hdk, hde, this]
        have hR : R ρ (.str (zs.map fun z => z.toNat % 256)) (.string (zs.foldl (fun r n => r.push (UInt8.ofNat n.toNat)) ByteArray.empty)) := .str _ _ (by rw [bytesN_fold]; rfl)
        cases hx with
        | sl _ _ _ _ _ _ im cap him hl1' hs' hrm hcap =>
          have hn : len = n := by simpa [Builtin.lenOf] using hl1
          subst hn
          exact ⟨_, hfin _ cap rfl (by simpa [Builtin.firstCells] using hl2), hR⟩
        | sle _ _ _ _ _ im off him hc0 =>
          have hn : 0 = n := by simpa [Builtin.lenOf] using hl1
          subst hn
          exact ⟨_, hfin _ 0 rfl (by simpa [Builtin.firstCells] using hl2), hR⟩
      · cases h
    · cases h
  · cases h
theorem allocs_conv (hT : Types P T) {src dst : TypeId} {x : AV} {y : Value} {l : List AV} {mk : Nat → AV} (h : convA T src dst x = some (l, mk)) (hx : R ρ x y) : Allocs P (do pure (.value (← convert src dst y))) w ρ l mk := by
  simp only [convA, Option.bind_eq_some_iff] at h
  obtain ⟨i, hi, k, hk, h⟩ := h
  obtain ⟨d, hd, hok⟩ := run_under (P := P) (w := w) hT hi
  obtain ⟨dk, hdk, hokk⟩ := run_under (P := P) (w := w) hT hk
  split at h
  · split at h
    · rename_i e htd
      rw [htd] at hokk
      cases hokk
      simp only [Option.bind_eq_some_iff] at h
      obtain ⟨j, hj, h⟩ := h
      obtain ⟨de, hde, hoke⟩ := run_under (P := P) (w := w) hT hj
      split at h
      · rename_i htde
        rw [htde] at hoke
        cases hoke
        replace h := cond_some h
        obtain ⟨hlen, h⟩ := h
        rw [Nat.ble_eq] at hlen
        cases h
        cases hx with
        | str s _ hs =>
          subst hs
          have hq : (Question.appendCap s.size 0 e).forced = false := rfl
          have hge : s.size ≤ grownCap w s.size 0 e := grownCap_ge _ _ _ _
          obtain ⟨cs, hcs⟩ : ∃ cs : Array Value, cs = (s.data.map fun b => Value.int .u8 b.toNat) ++ Array.replicate (grownCap w s.size 0 e - s.size) (.int .u8 0) := ⟨_, rfl⟩
          have hsz : cs.size = grownCap w s.size 0 e := by
            rw [hcs]; simp; have : s.data.size = s.size := rfl; omega
          have hrun : (convert src dst (.string s)).run P w = .ok (.slice (some ⟨w.heap.size, 0, none⟩) s.size (grownCap w s.size 0 e)) ((w.drew.alloc (.cells cs e)).freeze ⟨w.heap.size, cs.size, none⟩ 1) := by
            have hsh : (w.drew.alloc (.cells cs e)).shape? w.heap.size = some (e, cs.size) := by
              have := heap_alloc_new w.drew (.cells cs e)
              unfold World.shape?
              rw [show w.heap.size = w.drew.heap.size from rfl, this]
            have hcs' : cs = (s.data.map fun b => Value.int .u8 b.toNat) ++ Array.replicate ((Question.appendCap s.size 0 e).cut (w.tape w.drawn (Question.appendCap s.size 0 e)) - s.size) (.int .u8 0) := hcs
            simp [convert, hd, hdk, hde, Conv.stringToBytes, hq, newRow, markStringish, ← hcs', hsh]
            rfl
          have hheap : ((w.drew.alloc (.cells cs e)).freeze ⟨w.heap.size, cs.size, none⟩ 1).heap = w.heap.push (.cells cs e (cs.size, cs.size + 1)) := by
            unfold World.freeze
            rw [if_neg (by decide)]
            have e0 : (w.drew.alloc (.cells cs e)).heap = w.heap.push (.cells cs e) := rfl
            simp only [e0]
            rw [push_modify]
            simp
          refine ⟨_, _, cs, e, (cs.size, cs.size + 1), (s.data.map fun b => Value.int .u8 b.toNat).toList, by rw [Sem.run_bind, hrun]; rfl, hheap, rfl, rfl, rfl, ?_, bytes_cells s, ?_, by intro o h1 h2; simpa using h1, ?_⟩
          · intro x hx; simp only [List.mem_map] at hx; obtain ⟨_, _, rfl⟩ := hx; rfl
          · intro j y hj
            rw [hcs]
            have hlt : j < (s.data.map fun b => Value.int .u8 b.toNat).size := by
              rcases Nat.lt_or_ge j (s.data.map fun b => Value.int .u8 b.toNat).size with h | h
              · exact h
              · rw [Array.getElem?_toList, Array.getElem?_eq_none h] at hj; cases hj
            rw [Array.getElem?_append, if_pos hlt]
            simpa using hj
          · intro ρ' f hf
            have := R.sl (ρ := ρ') f 0 0 s.size 1 none _ (grownCap w s.size 0 e) hf hge (by simp [bytesN_length]) (by show 0 + _ * 1 ≤ _ + (_ - _); simp only [List.length_map, bytesN_length, hsz]; omega) (by intro n hn; cases hn)
            rw [bytesN_length]
            simpa [rowOf] using this
      · cases h
    · cases h
  · cases h
theorem placesE_ok (hT : Types P T) {fs : List Field} : ∀ {pl : List (Nat × Nat)}, placesE T (fs.map fun f => (f.offset, f.type)) = some pl → fs.mapM (fun f => (P.info? f.type).map fun i => (f.offset, i.size)) = some pl := by
  induction fs with
  | nil => intro pl h; cases h; rfl
  | cons f fs ih =>
    intro pl h
    change ((T f.type).bind fun j => (placesE T (fs.map fun f => (f.offset, f.type))).bind fun l => some ((f.offset, j.size) :: l)) = some pl at h
    simp only [Option.bind_eq_some_iff, Option.some.injEq] at h
    obtain ⟨j, hj, l, hl, rfl⟩ := h
    obtain ⟨_, ji, _, _, _, hji, hjs, _⟩ := hT.ok f.type j hj
    simp [List.mapM_cons, hji, ih hl, hjs]
theorem run_build_ok (hT : Types P T) {t : TypeId} {parts : List (Nat × AV)} {vps : Array (Nat × Value)} {z : AV} (h : buildE T t parts = some z) (hp : RP ρ parts vps.toList) : ∃ u, (Instr.build t vps).run P w = .ok u w ∧ R ρ z u := by
  simp only [buildE, Option.bind_eq_some_iff] at h
  obtain ⟨i, hi, h⟩ := h
  obtain ⟨d, it, zv, hu, hok, hit, hits, hitb, hz, hR⟩ := hT.ok t i hi
  split at h
  · rename_i n e htd
    rw [htd] at hok
    cases hok
    simp only [Option.bind_eq_some_iff, Option.some.injEq] at h
    obtain ⟨j, hj, l, hl, rfl⟩ := h
    obtain ⟨_, ji, _, _, _, hji, hjs, _⟩ := hT.ok e j hj
    obtain ⟨cs, hf, hcs⟩ := fill_ok hp hl (hR ρ).cells
    have hpl : placeE j.size = fun i => some (i * j.size, j.size) := rfl
    rw [hpl] at hf
    have hb : P.built t vps.toList = some cs := by
      simp only [Program.built, hit, hu, hz, hji, hjs]
      exact hf
    exact ⟨_, run_build w t vps cs hb, by simpa using R.agg _ _ hcs⟩
  · rename_i fs htd
    rw [htd] at hok
    obtain ⟨gs, rfl, hg⟩ := hok
    simp only [Option.bind_eq_some_iff, Option.some.injEq] at h
    obtain ⟨pl, hpl, l, hl, rfl⟩ := h
    rw [← hg] at hpl
    have hpl' := placesE_ok hT hpl
    obtain ⟨cs, hf, hcs⟩ := fill_ok hp hl (hR ρ).cells
    have hb : P.built t vps.toList = some cs := by
      simp only [Program.built, hit, hu, hz, hpl']
      rw [← hf]
      congr 1
      funext k
      rw [nth_eq]; simp
    exact ⟨_, run_build w t vps cs hb, by simpa using R.agg _ _ hcs⟩
  · cases h
theorem run_un_ok {op : UnOp} {x z : AV} {y : Value} (h : unE op x = some z) (hx : R ρ x y) : ∃ u, (Op.unary op y).run P w = .ok u w ∧ R ρ z u := by
  unfold unE at h
  split at h
  · cases h; cases hx; exact ⟨_, rfl, .bool _⟩
  · rename_i k n
    cases hx
    obtain ⟨u, h1, h2⟩ := int_ok (P := P) (w := w) (ρ := ρ) h 0
    refine ⟨u, ?_, h2⟩
    have : Op.unary .neg (.int k n) = binOp .sub 0 (.int k 0) (.int k n) := by simp [Op.unary, binOp]
    rw [this]; exact h1
  · rename_i k n
    cases hx
    obtain ⟨u, h1, h2⟩ := int_ok (P := P) (w := w) (ρ := ρ) h 0
    refine ⟨u, ?_, h2⟩
    have : Op.unary .xor (.int k n) = binOp .xor 0 (.int k (bif k.signed then -1 else k.max)) (.int k n) := by cases hs : k.signed <;> simp [Op.unary, binOp, hs]
    rw [this]; exact h1
  · cases h
end
end Go.Proofs.YtllfnhapnndngaaGreatDoor.E
namespace Go.Proofs.YtllfnhapnndngaaGreatDoor.E
open Go
set_option linter.unusedVariables false
set_option linter.unusedSimpArgs false
noncomputable def evPs (r : Tr AV) (l : List (Nat × Operand)) : Option (List (Nat × AV)) :=
  List.rec (motive := fun _ => Option (List (Nat × AV))) (some []) (fun p _ ih => (evO r p.2).bind fun a => ih.bind fun l => some ((p.1, a) :: l)) l
/-- An operand that need not be there. -/
noncomputable def evM (r : Tr AV) (o : Option Operand) : Option (Option AV) :=
  match o with
  | none => some none
  | some x => (evO r x).bind fun a => some (some a)
noncomputable def readB (T : TypeId → Option TI) (H : AH) (r : Tr AV) (b : Builtin) (args : List Operand) (ts : List TypeId) : Option AV :=
  match b, args, ts with
  | .len, [x], [t] => (evO r x).bind fun x => lenE T H t x
  | .min, [x, y], _ => (evO r x).bind fun x => (evO r y).bind fun y => minE x y
  | _, _, _ => none
noncomputable def readE (T : TypeId → Option TI) (S : TypeId → Bool) (H : AH) (r : Tr AV) (op : Op) : Option AV :=
  match op with
  | .move x => evO r x
  | .assign x => evO r x
  | .pick c a b => (evO r c).bind fun c => (evO r a).bind fun a => (evO r b).bind fun b => pickE c a b
  | .build t parts => (evPs r parts.toList).bind fun ps => buildE T t ps
  | .load t p => (evO r p).bind fun p => loadE T H t p
  | .nilCheck x => (evO r x).bind nilCheckE
  | .binOp op t x y _ => (evO r x).bind fun x => (evO r y).bind fun y => binE T S op t x y
  | .unOp op _ x => (evO r x).bind fun x => unE op x
  | .convert s d x => (evO r x).bind fun x => convR T H s d x
  | .makeInterface t x => (evO r x).bind fun x => ifaceE T t x
  | .makeFunc (.func g) first captured => (evOs r first.toList).bind fun fs => (evOs r captured.toList).bind fun cs => some (.fn g fs cs)
  | .slice t x lo hi mx => (evO r x).bind fun x => (evM r lo).bind fun lo => (evM r hi).bind fun hi => (evM r mx).bind fun mx => sliceE T t x lo hi mx
  | .fieldAddr t x k => (evO r x).bind fun x => fieldAddrE T t k x
  | .field t x k => (evO r x).bind fun x => fieldE T t k x
  | .indexAddr t x ix => (evO r x).bind fun x => (evO r ix).bind fun ix => indexAddrE T t x ix
  | .index t x ix => (evO r x).bind fun x => (evO r ix).bind fun ix => indexE T t x ix
  | .lookup t x ix ok => (evO r x).bind fun x => (evO r ix).bind fun ix => lookupE T H t x ix ok
  | .extract x i => (evO r x).bind fun x => extractE x i
  | .call c => (match c.callee with
    | .builtin b => readB T H r b c.args.toList c.argTypes.toList
    | _ => none)
  | _ => none
noncomputable def allocE (T : TypeId → Option TI) (r : Tr AV) (op : Op) : Option (List AV × (Nat → AV)) :=
  match op with
  | .alloc t => (T t).bind fun i => bif ones i.zero.cells then some (i.zero.cells, ptrTo i.zero.cells.length) else none
  | .box t x => (evO r x).bind fun x => bif ones x.cells then some (x.cells, ptrTo x.cells.length) else none
  | .buildSlice t n parts => (evPs r parts.toList).bind fun ps => buildSliceE T t n ps
  | .makeSlice t l c => (evO r l).bind fun l => (evO r c).bind fun c => makeSliceE T t l c
  | .convert s d x => (evO r x).bind fun x => convA T s d x
  | _ => none
noncomputable def effB (T : TypeId → Option TI) (H : AH) (r : Tr AV) (b : Builtin) (args : List Operand) (ts : List TypeId) : Option (AV × AH) :=
  match b, args, ts with
  | .append, [s, x], [t, tx] => (evO r s).bind fun s => (evO r x).bind fun x => appendE T H t tx s x
  | .copy, [s, x], [t, tx] => (evO r s).bind fun s => (evO r x).bind fun x => copyE T H t s x
  | .clear, [x], [t] => (evO r x).bind fun x => (clearE T H t x).bind fun H' => some (.tup [], H')
  | _, _, _ => none
noncomputable def effE (T : TypeId → Option TI) (H : AH) (r : Tr AV) (op : Op) : Option (AV × AH) :=
  match op with
  | .store t p x => (evO r p).bind fun p => (evO r x).bind fun x => (storeE T H t p x).bind fun H' => some (.tup [], H')
  | .mapUpdate t m k v => (evO r m).bind fun m => (evO r k).bind fun k => (evO r v).bind fun v => (updateE T H t m k v).bind fun H' => some (.tup [], H')
  | .insert t m k v => (evO r m).bind fun m => (evO r k).bind fun k => (evO r v).bind fun v => (updateE T H t m k v).bind fun H' => some (.tup [], H')
  | .makeMap t none => some (.map H.next, H.newMap)
  | .call c => (match c.callee with
    | .builtin b => effB T H r b c.args.toList c.argTypes.toList
    | _ => none)
  | _ => none
/-- The function that a call enters, and its arguments. -/
noncomputable def targetE (M : TypeId → String → Option FuncId) (r : Tr AV) (op : Op) : Option (FuncId × List AV) :=
  match op with
  | .call c => (match c.callee with
    | .value f => (evO r f).bind fun f => (match f with
      | .fn g fs cs => (evOs r c.args.toList).bind fun xs => some (g, fs ++ xs ++ cs)
      | _ => none)
    | .invoke x name => (evO r x).bind fun x => (match x with
      | .ifc t y => (M t name).bind fun f => (evOs r c.args.toList).bind fun xs => some (f, y :: xs)
      | _ => none)
    | _ => none)
  | _ => none
structure Meths (P : Program) (M : TypeId → String → Option FuncId) : Prop where
  ok : ∀ t name f, M t name = some f → ∃ i m e, P.info? t = some i ∧ i.methods.find? (·.name == name) = some m ∧ m.path = #[] ∧ m.func = some (f, true) ∧ P.underlying t = some (.pointer e)
section
variable {P : Program} {T : TypeId → Option TI} {S : TypeId → Bool} {w : World} {ρ : Rho} {H : AH} {r : Tr AV} {a : Act}
theorem evPs_ok (h : Regs ρ r a) {l : List (Nat × Operand)} : ∀ {xs : List (Nat × AV)}, evPs r l = some xs → RP ρ xs (l.map fun p => (p.1, a.eval p.2)) := by
  induction l with
  | nil => intro xs hx; cases hx; exact .nil
  | cons o l ih =>
    intro xs hx
    change (evO r o.2).bind (fun b => (evPs r l).bind fun l => some ((o.1, b) :: l)) = some xs at hx
    simp only [Option.bind_eq_some_iff, Option.some.injEq] at hx
    obtain ⟨b, hb, ys, hys, rfl⟩ := hx
    exact .cons _ _ _ _ _ (evO_ok h hb) (ih hys)
theorem evM_ok (h : Regs ρ r a) {o : Option Operand} {x : Option AV} (hx : evM r o = some x) : Option.Rel (R ρ) x (o.map a.eval) := by
  cases o with
  | none => cases hx; exact .none
  | some o =>
    simp only [evM, Option.bind_eq_some_iff, Option.some.injEq] at hx
    obtain ⟨b, hb, rfl⟩ := hx
    exact .some (evO_ok h hb)
theorem parts_list (ps : Array (Nat × Operand)) (f : Operand → Value) : (ps.map fun (i, x) => (i, f x)).toList = ps.toList.map fun p => (p.1, f p.2) := by simp
theorem run_v {s : Sem Value} {u : Value} {w' : World} (h : s.run P w = .ok u w') : (do pure (.value (← s)) : Sem Next).run P w = .ok (.value u) w' := by rw [Sem.run_bind, h]; rfl
theorem run_u {s : Sem Unit} {w' : World} (h : s.run P w = .ok () w') : (do s; pure .skip : Sem Next).run P w = .ok .skip w' := by rw [Sem.run_bind, h]; rfl
theorem array_one {α : Type} {l : Array α} {x : α} (h : l.toList = [x]) : l = #[x] := by cases l; simp_all
theorem array_two {α : Type} {l : Array α} {x y : α} (h : l.toList = [x, y]) : l = #[x, y] := by cases l; simp_all
theorem map_one (f : Operand → Value) (x : Operand) : (#[x] : Array Operand).map f = #[f x] := by simp
theorem map_two (f : Operand → Value) (x y : Operand) : (#[x, y] : Array Operand).map f = #[f x, f y] := by simp
theorem exec_builtin {o : Oper} {c : Call} {b : Builtin} (ho : o.op = .call c) (hb : c.callee = .builtin b) (ρ : Operand → Value) :
    ∃ cs : Array Bool, (execOp ρ o).run P w = (builtin b c.argTypes o.type cs (c.args.map ρ)).run P w :=
  ⟨c.args.map fun | .const _ => true | _ => false, by simp [execOp, ho, resolve, hb, invoke]; rfl⟩
theorem readB_ok (hT : Types P T) (hr : Rel ρ H w) (hg : Regs ρ r a) {b : Builtin} {args : Array Operand} {ts : Array TypeId} {ty : TypeId} {cs : Array Bool} {x : AV} (h : readB T H r b args.toList ts.toList = some x) :
    ∃ y, (builtin b ts ty cs (args.map a.eval)).run P w = .ok (.value y) w ∧ R ρ x y := by
  unfold readB at h
  split at h
  · rename_i o t e1 e2
    simp only [Option.bind_eq_some_iff] at h
    obtain ⟨v, hv, h⟩ := h
    obtain ⟨u, h1, h2⟩ := run_len_ok (ty := ty) hT hr h (evO_ok hg hv)
    refine ⟨u, ?_, h2⟩
    rw [array_one e1, array_one e2]
    simpa [builtin] using run_v h1
  · rename_i o o' e1
    simp only [Option.bind_eq_some_iff] at h
    obtain ⟨v, hv, v', hv', h⟩ := h
    have k1 := evO_ok hg hv
    have k2 := evO_ok hg hv'
    unfold minE at h
    split at h
    · cases h
      cases hx : a.eval o <;> rw [hx] at k1 <;> cases k1
      cases hy : a.eval o' <;> rw [hy] at k2 <;> cases k2
      rename_i k n k' n'
      refine ⟨.int k (if n' < n then n' else n), ?_, ?_⟩
      · rw [array_two e1]
        simp [builtin, Builtin.min_, Builtin.min2, hx, hy]
      · by_cases e : n' < n <;> simp [e] <;> exact .int _ _
    · cases h
  · cases h
theorem readE_ok (hT : Types P T) (hS : Eqs P S) (hr : Rel ρ H w) (hg : Regs ρ r a) {o : Oper} {x : AV} (h : readE T S H r o.op = some x) : ∃ y, (execOp a.eval o).run P w = .ok (.value y) w ∧ R ρ x y := by
  unfold readE at h
  split at h <;> rename_i ho
  · exact ⟨_, by simp [execOp, ho], evO_ok hg h⟩
  · exact ⟨_, by simp [execOp, ho], evO_ok hg h⟩
  · rename_i o1 o2 o3
    simp only [Option.bind_eq_some_iff] at h
    obtain ⟨c, hc, x1, hx1, x2, hx2, h⟩ := h
    have k1 := evO_ok hg hc
    have k2 := evO_ok hg hx1
    have k3 := evO_ok hg hx2
    unfold pickE at h
    split at h
    · rename_i b
      cases h
      cases hb : a.eval o1 <;> rw [hb] at k1 <;> cases k1
      cases b
      · exact ⟨_, by simp [execOp, ho, hb, asBool], k3⟩
      · exact ⟨_, by simp [execOp, ho, hb, asBool], k2⟩
    · cases h
  · simp only [Option.bind_eq_some_iff] at h
    obtain ⟨ps, hps, h⟩ := h
    rename_i t parts
    have hp := evPs_ok hg hps
    obtain ⟨u, h1, h2⟩ := run_build_ok (w := w) (vps := parts.map fun (i, x) => (i, a.eval x)) hT h (by rw [parts_list]; exact hp)
    exact ⟨u, by simp only [execOp, ho]; exact run_v h1, h2⟩
  · simp only [Option.bind_eq_some_iff] at h
    obtain ⟨p, hp, h⟩ := h
    obtain ⟨u, h1, h2⟩ := run_loadVar_ok hT hr h (evO_ok hg hp)
    exact ⟨u, by simp only [execOp, ho]; exact run_v h1, h2⟩
  · rename_i o1
    simp only [Option.bind_eq_some_iff] at h
    obtain ⟨p, hp, h⟩ := h
    have k := evO_ok hg hp
    unfold nilCheckE at h
    split at h <;> cases h
    all_goals refine ⟨a.eval o1, ?_, k⟩
    all_goals cases hb : a.eval o1 <;> rw [hb] at k <;> cases k
    all_goals simp [execOp, ho, hb]
  · simp only [Option.bind_eq_some_iff] at h
    obtain ⟨p, hp, q, hq, h⟩ := h
    rename_i op t o1 o2 _
    obtain ⟨u, h1, h2⟩ := run_bin_ok (X := o1) (Y := o2) hT hS h (evO_ok hg hp) (evO_ok hg hq)
    exact ⟨u, by simp only [execOp, ho]; exact run_v h1, h2⟩
  · simp only [Option.bind_eq_some_iff] at h
    obtain ⟨p, hp, h⟩ := h
    obtain ⟨u, h1, h2⟩ := run_un_ok (P := P) (w := w) h (evO_ok hg hp)
    exact ⟨u, by simp only [execOp, ho]; exact run_v h1, h2⟩
  · simp only [Option.bind_eq_some_iff] at h
    obtain ⟨p, hp, h⟩ := h
    obtain ⟨u, h1, h2⟩ := run_convR hT hr h (evO_ok hg hp)
    exact ⟨u, by simp only [execOp, ho]; exact run_v h1, h2⟩
  · simp only [Option.bind_eq_some_iff] at h
    obtain ⟨p, hp, h⟩ := h
    have k := evO_ok hg hp
    rename_i t o1
    simp only [ifaceE, Option.bind_eq_some_iff] at h
    obtain ⟨i, hi, h⟩ := h
    obtain ⟨d, hd, hok⟩ := run_under (P := P) (w := w) hT hi
    refine ⟨.iface t (a.eval o1), ?_, ?_⟩
    · have : (Instr.makeInterface t (a.eval o1)).run P w = .ok (.iface t (a.eval o1)) w := by
        cases htd : i.td <;> rw [htd] at h hok <;> dsimp only at h <;> simp only [TD.Ok] at hok
        case iface => cases h
        case struct => obtain ⟨gs, rfl, _⟩ := hok; simp [Instr.makeInterface, hd]
        case func => obtain ⟨_, _, _, rfl⟩ := hok; simp [Instr.makeInterface, hd]
        all_goals subst hok; simp [Instr.makeInterface, hd]
      simp only [execOp, ho]; exact run_v this
    · cases htd : i.td <;> rw [htd] at h <;> dsimp only at h <;> cases h <;> exact .ifc _ _ _ k
  · simp only [Option.bind_eq_some_iff, Option.some.injEq] at h
    obtain ⟨fs, hfs, cs, hcs, rfl⟩ := h
    rename_i g first captured
    have k := R.fn g _ _ _ _ (evOs_ok hg hfs) (evOs_ok hg hcs)
    refine ⟨_, by simp only [execOp, ho]; exact run_v rfl, ?_⟩
    have e1 : (first.toList.map a.eval).toArray = first.map a.eval := by apply Array.ext'; simp
    have e2 : (captured.toList.map a.eval).toArray = captured.map a.eval := by apply Array.ext'; simp
    rw [e1, e2] at k
    exact k
  · simp only [Option.bind_eq_some_iff] at h
    obtain ⟨x1, hx1, lo, hlo, hi, hhi, mx, hmx, h⟩ := h
    obtain ⟨u, h1, h2⟩ := run_sliceAt_ok (w := w) hT h (evO_ok hg hx1) (evM_ok hg hlo) (evM_ok hg hhi) (evM_ok hg hmx)
    exact ⟨u, by simp only [execOp, ho]; exact run_v h1, h2⟩
  · simp only [Option.bind_eq_some_iff] at h
    obtain ⟨p, hp, h⟩ := h
    obtain ⟨u, h1, h2⟩ := run_fieldAt_ok (w := w) hT h (evO_ok hg hp)
    exact ⟨u, by simp only [execOp, ho]; exact run_v h1, h2⟩
  · simp only [Option.bind_eq_some_iff] at h
    obtain ⟨p, hp, h⟩ := h
    obtain ⟨u, h1, h2⟩ := run_field_ok (w := w) hT h (evO_ok hg hp)
    exact ⟨u, by simp only [execOp, ho]; exact run_v h1, h2⟩
  · simp only [Option.bind_eq_some_iff] at h
    obtain ⟨p, hp, q, hq, h⟩ := h
    obtain ⟨u, h1, h2⟩ := run_indexAt_ok (w := w) hT h (evO_ok hg hp) (evO_ok hg hq)
    exact ⟨u, by simp only [execOp, ho]; exact run_v h1, h2⟩
  · simp only [Option.bind_eq_some_iff] at h
    obtain ⟨p, hp, q, hq, h⟩ := h
    obtain ⟨u, h1, h2⟩ := run_index_ok (w := w) hT h (evO_ok hg hp) (evO_ok hg hq)
    exact ⟨u, by simp only [execOp, ho]; exact run_v h1, h2⟩
  · simp only [Option.bind_eq_some_iff] at h
    obtain ⟨p, hp, q, hq, h⟩ := h
    obtain ⟨u, h1, h2⟩ := run_lookup_ok hT hr h (evO_ok hg hp) (evO_ok hg hq)
    exact ⟨u, by simp only [execOp, ho]; exact run_v h1, h2⟩
  · simp only [Option.bind_eq_some_iff] at h
    obtain ⟨p, hp, h⟩ := h
    have k := evO_ok hg hp
    rename_i o1 i
    unfold extractE at h
    split at h
    · rw [nth_eq] at h
      cases hb : a.eval o1 <;> rw [hb] at k <;> cases k
      rename_i l vs hl
      obtain ⟨y, hy, hR⟩ := hl.get i x h
      refine ⟨y, ?_, hR⟩
      have : (Instr.extract (.tuple vs.toArray) i).run P w = .ok y w := by simp [Instr.extract, hy]
      simp only [execOp, ho, hb]; exact run_v this
    · cases h
  · rename_i c
    split at h
    · rename_i b hb
      obtain ⟨cs, hcs⟩ := exec_builtin (P := P) (w := w) ho hb a.eval
      obtain ⟨y, h1, h2⟩ := readB_ok (ty := o.type) (cs := cs) hT hr hg h
      exact ⟨y, by rw [hcs]; exact h1, h2⟩
    · cases h
  · cases h
theorem allocE_ok (hT : Types P T) (hg : Regs ρ r a) {o : Oper} {l : List AV} {mk : Nat → AV} (h : allocE T r o.op = some (l, mk)) : Allocs P (execOp a.eval o) w ρ l mk := by
  unfold allocE at h
  split at h <;> rename_i ho <;> (try simp only [Option.bind_eq_some_iff] at h)
  · obtain ⟨i, hi, h⟩ := h
    replace h := cond_some h
    obtain ⟨h1, h⟩ := h
    cases h
    simp only [execOp, ho]
    exact allocs_alloc hT hi h1
  · obtain ⟨x, hx, h⟩ := h
    replace h := cond_some h
    obtain ⟨h1, h⟩ := h
    cases h
    simp only [execOp, ho]
    exact allocs_box (evO_ok hg hx) h1 _
  · obtain ⟨ps, hps, h⟩ := h
    simp only [execOp, ho]
    exact allocs_buildSlice hT h (by rw [parts_list]; exact evPs_ok hg hps)
  · obtain ⟨x, hx, y, hy, h⟩ := h
    simp only [execOp, ho]
    exact allocs_makeSlice hT h (evO_ok hg hx) (evO_ok hg hy)
  · obtain ⟨x, hx, h⟩ := h
    simp only [execOp, ho]
    exact allocs_conv hT h (evO_ok hg hx)
  · cases h
theorem ran_v {s : Sem Value} {x : AV} {H' : AH} (h : ∃ ρ' w' u, s.run P w = .ok u w' ∧ R ρ' x u ∧ Rel ρ' H' w' ∧ Stp ρ H w ρ' H' w') : Ran P (do pure (.value (← s))) w ρ H x H' := by
  obtain ⟨ρ', w', u, h1, h2, h3, h4⟩ := h
  exact ⟨ρ', w', u, .inl (run_v h1), h2, h3, h4⟩
theorem ran_u {s : Sem Unit} {H' : AH} (h : ∃ w', s.run P w = .ok () w' ∧ Rel ρ H' w' ∧ Stp ρ H w ρ H' w') : Ran P (do s; pure .skip) w ρ H (.tup []) H' := by
  obtain ⟨w', h1, h2, h3⟩ := h
  exact ⟨ρ, w', undef, .inr ⟨run_u h1, rfl⟩, .tup _ _ .nil, h2, h3⟩
theorem effB_ok (hT : Types P T) (hr : Rel ρ H w) (hg : Regs ρ r a) {b : Builtin} {args : Array Operand} {ts : Array TypeId} {ty : TypeId} {cs : Array Bool} {x : AV} {H' : AH} (h : effB T H r b args.toList ts.toList = some (x, H')) :
    Ran P (builtin b ts ty cs (args.map a.eval)) w ρ H x H' := by
  unfold effB at h
  split at h
  · rename_i s x t tx e1 e2
    simp only [Option.bind_eq_some_iff] at h
    obtain ⟨s, hs, y, hy, h⟩ := h
    rw [array_two e1, array_two e2, map_two]
    exact ran_v (run_append_ok hT hr h (evO_ok hg hs) (evO_ok hg hy))
  · rename_i s x t tx e1 e2
    simp only [Option.bind_eq_some_iff] at h
    obtain ⟨s, hs, y, hy, h⟩ := h
    rw [array_two e1, array_two e2, map_two]
    obtain ⟨w', u, h1, h2, h3, h4⟩ := run_copy_ok (ty := ty) (tx := tx) hT hr h (evO_ok hg hs) (evO_ok hg hy)
    exact ran_v ⟨ρ, w', u, h1, h2, h3, h4⟩
  · rename_i x t e1 e2
    simp only [Option.bind_eq_some_iff, Option.some.injEq, Prod.mk.injEq] at h
    obtain ⟨s, hs, H1, h, rfl, rfl⟩ := h
    rw [array_one e1, array_one e2, map_one]
    obtain ⟨w', h1, h3, h4⟩ := run_clear_ok (ty := ty) hT hr h (evO_ok hg hs)
    exact ran_v ⟨ρ, w', _, h1, .tup _ _ .nil, h3, h4⟩
  · cases h
theorem effE_ok (hT : Types P T) (hr : Rel ρ H w) (hg : Regs ρ r a) {o : Oper} {x : AV} {H' : AH} (h : effE T H r o.op = some (x, H')) : Ran P (execOp a.eval o) w ρ H x H' := by
  unfold effE at h
  split at h <;> rename_i ho
  · simp only [Option.bind_eq_some_iff, Option.some.injEq, Prod.mk.injEq] at h
    obtain ⟨p, hp, y, hy, H1, h, rfl, rfl⟩ := h
    simp only [execOp, ho]
    exact ran_u (run_storeVar_ok hT hr h (evO_ok hg hp) (evO_ok hg hy))
  · simp only [Option.bind_eq_some_iff, Option.some.injEq, Prod.mk.injEq] at h
    obtain ⟨p, hp, y, hy, z, hz, H1, h, rfl, rfl⟩ := h
    simp only [execOp, ho]
    exact ran_u (run_mapUpdate_ok hT hr h (evO_ok hg hp) (evO_ok hg hy) (evO_ok hg hz))
  · simp only [Option.bind_eq_some_iff, Option.some.injEq, Prod.mk.injEq] at h
    obtain ⟨p, hp, y, hy, z, hz, H1, h, rfl, rfl⟩ := h
    simp only [execOp, ho]
    exact ran_u (run_mapUpdate_ok hT hr h (evO_ok hg hp) (evO_ok hg hy) (evO_ok hg hz))
  · cases h
    simp only [execOp, ho]
    exact ran_v (run_makeMap_ok hr _)
  · rename_i c
    split at h
    · rename_i b hb
      obtain ⟨cs, hcs⟩ := exec_builtin (P := P) (w := w) ho hb a.eval
      have := effB_ok (ty := o.type) (cs := cs) hT hr hg h
      obtain ⟨ρ', w', y, h1, h2⟩ := this
      exact ⟨ρ', w', y, by rw [hcs]; exact h1, h2⟩
    · cases h
  · cases h
theorem targetE_ok {M : TypeId → String → Option FuncId} (hM : Meths P M) (hg : Regs ρ r a) {o : Oper} {f : FuncId} {xs : List AV} (h : targetE M r o.op = some (f, xs)) :
    ∃ args : Array Value, (execOp a.eval o).run P w = (callFunc f args).run P w ∧ RL ρ xs args.toList := by
  unfold targetE at h
  split at h <;> rename_i ho
  · rename_i c
    split at h
    · rename_i f' hf
      simp only [Option.bind_eq_some_iff] at h
      obtain ⟨fv, hfv, h⟩ := h
      have k := evO_ok hg hfv
      split at h
      · rename_i g fs cs
        simp only [Option.bind_eq_some_iff, Option.some.injEq, Prod.mk.injEq] at h
        obtain ⟨ys, hys, rfl, rfl⟩ := h
        have k2 := evOs_ok hg hys
        cases hb : a.eval f' <;> rw [hb] at k <;> cases k
        rename_i fa ca h1 h2
        refine ⟨fa.toArray ++ c.args.map a.eval ++ ca.toArray, ?_, ?_⟩
        · simp [execOp, ho, resolve, hf, hb, Deferred.ofValue, invoke]
        · have := (h1.append k2).append h2
          simpa using this
      · cases h
    · rename_i x' name hf
      simp only [Option.bind_eq_some_iff] at h
      obtain ⟨fv, hfv, h⟩ := h
      have k := evO_ok hg hfv
      split at h
      · rename_i t y
        simp only [Option.bind_eq_some_iff, Option.some.injEq, Prod.mk.injEq] at h
        obtain ⟨f1, hm, ys, hys, rfl, rfl⟩ := h
        have k2 := evOs_ok hg hys
        obtain ⟨i, m, e, g1, g2, g3, g4, g5⟩ := hM.ok t name f1 hm
        cases hb : a.eval x' <;> rw [hb] at k <;> cases k
        rename_i u hu
        refine ⟨#[u] ++ c.args.map a.eval, ?_, ?_⟩
        · have hmeth : ∀ n, (method (n + 1) t u name).run P w = .ok (f1, u) w := by
            intro n
            simp [method, typeInfo, g1, g2, g3, g4, follow, receiverAt, underlying, g5, Place.get]
          have e1 : P.types.size + Made.depth = (P.types.size + (Made.depth - 1)) + 1 := by rfl
          simp only [execOp, ho, resolve, hf, hb, Sem.run_bind, Sem.run_pure, Result.andThen_ok, invoke]
          have e2 : (#[Value.iface t u] ++ c.args.map a.eval)[0]? = some (.iface t u) := by rw [Array.getElem?_append_left (by simp)]; rfl
          have e3 : (#[Value.iface t u] ++ c.args.map a.eval).extract 1 (#[Value.iface t u] ++ c.args.map a.eval).size = c.args.map a.eval := by
            apply Array.ext'
            simp only [Array.toList_extract, Array.toList_append, List.extract_eq_take_drop]
            simp
            rw [List.take_of_length_le (by simp)]
          simp only [e2, e3, callMethod, Sem.run_bind, run_program, Result.andThen_ok, e1, hmeth]
        · simpa using RL.cons _ _ _ _ hu k2
      · cases h
    · cases h
  · cases h
end
end Go.Proofs.YtllfnhapnndngaaGreatDoor.E
namespace Go.Proofs.YtllfnhapnndngaaGreatDoor.E
open Go
set_option linter.unusedVariables false
set_option linter.unusedSimpArgs false
def Logged (H H' : AH) : Prop := ∃ ws, H'.wr = ws ++ H.wr ∧ ∀ g, g ∉ ws → H'.t.get g = H.t.get g
theorem Logged.refl (H : AH) : Logged H H := ⟨[], rfl, fun _ _ => rfl⟩
theorem Logged.trans {a b c : AH} (h : Logged a b) (k : Logged b c) : Logged a c := by
  obtain ⟨ws, h1, h2⟩ := h
  obtain ⟨vs, k1, k2⟩ := k
  refine ⟨vs ++ ws, by rw [k1, h1, List.append_assoc], fun g hg => ?_⟩
  have hg' : g ∉ vs ∧ g ∉ ws := by simpa using hg
  rw [k2 g hg'.1, h2 g hg'.2]
theorem Logged.set {H : AH} {f n : Nat} {b : ABlk} : Logged H ⟨n, H.t.set f b, f :: H.wr⟩ :=
  ⟨[f], rfl, fun g hg => by
    have : g ≠ f := by simpa using hg
    show (H.t.set f b).get g = _
    rw [Tr.get_set, if_neg (fun e => this e.symm)]⟩
theorem Logged.new (H : AH) (l : List AV) : Logged H (H.new l) := Logged.set
theorem store_log {T : TypeId → Option TI} {H H' : AH} {t : TypeId} {p x : AV} (h : storeE T H t p x = some H') : Logged H H' := by
  unfold storeE at h
  split at h
  · simp only [Option.bind_eq_some_iff] at h
    obtain ⟨i, hi, b, hb, h⟩ := h
    split at h
    · replace h := cond_some h
      obtain ⟨_, h⟩ := h
      cases h
      exact Logged.set
    · cases h
  · cases h
theorem update_log {T : TypeId → Option TI} {H H' : AH} {t : TypeId} {m k v : AV} (h : updateE T H t m k v = some H') : Logged H H' := by
  simp only [updateE, Option.bind_eq_some_iff] at h
  obtain ⟨i, hi, h⟩ := h
  split at h
  · simp only [Option.bind_eq_some_iff] at h
    obtain ⟨ki, hki, h⟩ := h
    replace h := cond_some h
    obtain ⟨_, h⟩ := h
    simp only [Option.bind_eq_some_iff] at h
    obtain ⟨l, hl, r, hr, h⟩ := h
    split at h <;> cases h <;> exact Logged.set
  · cases h
theorem clear_log {T : TypeId → Option TI} {H H' : AH} {t : TypeId} {x : AV} (h : clearE T H t x = some H') : Logged H H' := by
  simp only [clearE, Option.bind_eq_some_iff] at h
  obtain ⟨i, hi, h⟩ := h
  split at h
  · cases h; exact Logged.refl _
  · simp only [Option.bind_eq_some_iff] at h
    obtain ⟨l, hl, h⟩ := h
    cases h
    exact Logged.set
  · cases h; exact Logged.refl _
  · replace h := cond_some h
    obtain ⟨_, h⟩ := h
    cases h; exact Logged.refl _
  · cases h
theorem copy_log {T : TypeId → Option TI} {H H' : AH} {t : TypeId} {d s z : AV} (h : copyE T H t d s = some (z, H')) : Logged H H' := by
  simp only [copyE, Option.bind_eq_some_iff] at h
  obtain ⟨i, hi, h⟩ := h
  split at h
  · simp only [Option.bind_eq_some_iff] at h
    obtain ⟨j, hj, h⟩ := h
    split at h
    · replace h := cond_some h
      obtain ⟨_, h⟩ := h
      simp only [Option.bind_eq_some_iff] at h
      obtain ⟨p, hp, h⟩ := h
      replace h := cond_some h
      obtain ⟨_, h⟩ := h
      simp only [Option.bind_eq_some_iff] at h
      obtain ⟨b, hb, h⟩ := h
      split at h
      · replace h := cond_some h
        obtain ⟨_, h⟩ := h
        cases h
        exact Logged.set
      · cases h
    · cases h
  · cases h
theorem cond_two {α : Type} {c : Bool} {a b x : α} (h : (bif c then a else b) = x) : a = x ∨ b = x := by cases c <;> simp_all
theorem append_log {T : TypeId → Option TI} {H H' : AH} {t tx : TypeId} {s x z : AV} (h : appendE T H t tx s x = some (z, H')) : Logged H H' := by
  unfold appendE at h
  simp only [Option.bind_eq_some_iff] at h
  obtain ⟨i, hi, ix, hix, h⟩ := h
  split at h
  · simp only [Option.bind_eq_some_iff] at h
    obtain ⟨j, hj, h⟩ := h
    replace h := cond_some h
    obtain ⟨_, h⟩ := h
    simp only [Option.bind_eq_some_iff] at h
    obtain ⟨p, hp, h⟩ := h
    split at h
    · rcases cond_two h with h | h
      · cases h; exact Logged.refl _
      · replace h := cond_some h
        obtain ⟨_, h⟩ := h
        cases h; exact Logged.set
    · rcases cond_two h with h | h
      · cases h; exact Logged.refl _
      · replace h := cond_some h
        obtain ⟨_, h⟩ := h
        simp only [Option.bind_eq_some_iff] at h
        obtain ⟨b, hb, h⟩ := h
        split at h
        · split at h
          · replace h := cond_some h
            obtain ⟨_, h⟩ := h
            cases h; exact Logged.set
          · rcases cond_two h with h | h
            · replace h := cond_some h
              obtain ⟨_, h⟩ := h
              cases h; exact Logged.set
            · replace h := cond_some h
              obtain ⟨_, h⟩ := h
              simp only [Option.bind_eq_some_iff] at h
              obtain ⟨old, _, h⟩ := h
              cases h; exact Logged.set
        · cases h
    · cases h
  · cases h
theorem effE_log {T : TypeId → Option TI} {H H' : AH} {r : Tr AV} {op : Op} {x : AV} (h : effE T H r op = some (x, H')) : Logged H H' := by
  unfold effE at h
  split at h
  · simp only [Option.bind_eq_some_iff, Option.some.injEq, Prod.mk.injEq] at h
    obtain ⟨p, hp, y, hy, H1, h, rfl, rfl⟩ := h
    exact store_log h
  · simp only [Option.bind_eq_some_iff, Option.some.injEq, Prod.mk.injEq] at h
    obtain ⟨p, hp, y, hy, z, hz, H1, h, rfl, rfl⟩ := h
    exact update_log h
  · simp only [Option.bind_eq_some_iff, Option.some.injEq, Prod.mk.injEq] at h
    obtain ⟨p, hp, y, hy, z, hz, H1, h, rfl, rfl⟩ := h
    exact update_log h
  · cases h; exact Logged.set
  · split at h
    · unfold effB at h
      split at h
      · simp only [Option.bind_eq_some_iff] at h
        obtain ⟨s, hs, y, hy, h⟩ := h
        exact append_log h
      · simp only [Option.bind_eq_some_iff] at h
        obtain ⟨s, hs, y, hy, h⟩ := h
        exact copy_log h
      · simp only [Option.bind_eq_some_iff, Option.some.injEq, Prod.mk.injEq] at h
        obtain ⟨s, hs, H1, h, rfl, rfl⟩ := h
        exact clear_log h
      · cases h
    · cases h
  · cases h
end Go.Proofs.YtllfnhapnndngaaGreatDoor.E
