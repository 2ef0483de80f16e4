/- Contracts of text.Fold, text.Match, text.Escape and text.Unescape. -/
import Derived.Test.YtoccblnjalpcdaaB
import Derived.Test.YtoccblnjalpcdaaWWords
namespace Go.Proofs.Ytoccblnjalpcdaa
open Go.RowKit Go.Proofs.YtoccblnjalpcdaaW.PrintWords
set_option linter.unusedVariables false
set_option linter.unusedSimpArgs false

theorem info5 : (Try.prog.info? 5).map (fun i => (i.zero, i.size, i.bytes)) = some (some (.int .u8 0), 1, 1) := by kernel_rfl
theorem ret_str {a b : ByteArray} (h : a = b) : Ending.returned (.string a) = .returned (.string b) := by rw [h]

/-- What is known of a row of bytes that the call itself appends to, its block from B on, over the world W at B. -/
structure OwnB (B : Nat) (W w : World) (v : Value) (xs : List Int) : Prop where
  own : w.ownsRow B 5 1 v xs.length (nums .u8 xs)
  below : Below B W w

section
variable {P : Program} {ops : Array Oper} {rest : List Oper} {o : Oper} {a : Act} {Q : Exit → Act → World → Prop}
theorem app1 (B : Nat) {w0 W : World} (hgd : o.guard = none) (s x : Operand)
    (ho : o.op = .call { callee := .builtin .append, args := #[s, x], argTypes := #[22, 22] })
    (v : Value) (xs : List Int) (y : Int) (hs : a.eval s = v) (hx : a.eval x = .slice (some ⟨W.heap.size, 0, none⟩) 1 1)
    (HO : OwnB B w0 W v xs) (hbase : B ≤ W.heap.size) (hl : xs.length + 1 ≤ 140737488355328)
    (h : ∀ v1 w1, OwnB B w0 w1 v1 (xs ++ [y]) → W.heap.size ≤ w1.heap.size → wpList Try.prog ops Q rest (a.put o.dst v1) w1) :
    wpList Try.prog ops Q (o :: rest) a (W.alloc (.cells #[.int .u8 y] 5)) :=
  print_append_num B hgd s x 22 5 .u8 1 ho Try.underlying22 info5 (by decide) v xs y hs hx HO.own HO.below hbase (by omega)
    fun v1 w1 hown hb hg _ => h v1 w1 ⟨hown, hb⟩ hg.size
end

section
variable {ops : Array Oper} {rest : List Oper} {o : Oper} {a : Act} {Q : Exit → Act → World → Prop}
theorem appN (B : Nat) {w0 W : World} (hgd : o.guard = none) (s x : Operand)
    (ho : o.op = .call { callee := .builtin .append, args := #[s, x], argTypes := #[22, 22] })
    (v : Value) (xs ys : List Int) (m : Nat) (hm : ys.length = m) (hs : a.eval s = v) (hx : a.eval x = .slice (some ⟨W.heap.size, 0, none⟩) m m)
    (HO : OwnB B w0 W v xs) (hbase : B ≤ W.heap.size) (hl : xs.length + m ≤ 140737488355328)
    (h : ∀ v1 w1, OwnB B w0 w1 v1 (xs ++ ys) → W.heap.size ≤ w1.heap.size → wpList Try.prog ops Q rest (a.put o.dst v1) w1)
    {W' : World} (hW : W' = W.alloc (.cells (nums .u8 ys).toArray 5)) :
    wpList Try.prog ops Q (o :: rest) a W' := by
  subst hW
  obtain ⟨i0, hi, hzz⟩ := Option.map_eq_some_iff.1 info5
  simp only [Prod.mk.injEq] at hzz
  obtain ⟨hz0, hz1, hz2⟩ := hzz
  have hnum : ∀ u ∈ nums .u8 ys, u.oneCell' = true := by
    intro u hu; simp only [nums, List.mem_map] at hu; obtain ⟨q, _, rfl⟩ := hu; rfl
  refine wpList_append_own_at (W.alloc (.cells (nums .u8 ys).toArray 5)) hgd s x 22 ho B 5 i0 (.int .u8 0) 1 1 Try.underlying22 hi hz0 hz1 hz2 rfl (by omega) v xs.length (nums .u8 xs) hs (HO.own.alloc _) ⟨W.heap.size, 0, none⟩ m m (nums .u8 ys) hx (by simp [nums, hm])
    (World.news_of_block (cs := (nums .u8 ys).toArray) (t := 5) (fr := (0, 0)) (heap_alloc_new W _)) hnum (by simp only [maxLen]; omega) (by omega) (by simp; omega) ?_
  intro v1 w1 hown hg _ hat
  refine h v1 w1 ⟨?_, (HO.below.alloc hbase _).grown hg (by simp; omega) (own_base HO.own)⟩ (by have := hg.size; simp at this; omega)
  have e : xs.length + m = (xs ++ ys).length := by simp [hm]
  have e2 : nums .u8 xs ++ nums .u8 ys = nums .u8 (xs ++ ys) := by simp [nums]
  rw [← e, ← e2]
  exact hown
end

theorem OwnB.alloc {B : Nat} {W w : World} {v : Value} {xs : List Int} (h : OwnB B W w v xs) (hB : B ≤ w.heap.size) (o : Obj) : OwnB B W (w.alloc o) v xs := ⟨h.own.alloc _, h.below.alloc hB _⟩
theorem OwnB.drew {B : Nat} {W w : World} {v : Value} {xs : List Int} (h : OwnB B W w v xs) : OwnB B W w.drew v xs := ⟨h.own.drew, h.below.drew⟩
section
variable {ops : Array Oper} {o : Oper} {a : Act} {Q : Exit → Act → World → Prop} {K : Act → World → Prop} {E : Prop}
/-- An append of a literal's numbers, as one step of a region that draws. -/
theorem stepN (B : Nat) {w0 W : World} (hgd : o.guard = none) (s x : Operand)
    (ho : o.op = .call { callee := .builtin .append, args := #[s, x], argTypes := #[22, 22] })
    (v : Value) (xs ys : List Int) (m g : Nat) (hm : ys.length = m) (hm0 : 0 < m) (hs : a.eval s = v) (hx : a.eval x = .slice (some ⟨g, 0, none⟩) m m)
    (HO : OwnB B w0 W v xs) (hbase : B ≤ W.heap.size) (hl : xs.length + m ≤ 140737488355328)
    (hg : W.heap[g]? = some (.cells (nums .u8 ys).toArray 5 (0, 0)))
    (h : ∀ v1 w1, OwnB B w0 w1 v1 (xs ++ ys) → W.heap.size ≤ w1.heap.size → K (a.put o.dst v1) w1) :
    if Region.wanted o (yielded ops a.tmps) = true then Oper.wp Try.prog o a W K Q else E := by
  obtain ⟨i0, hi, hzz⟩ := Option.map_eq_some_iff.1 info5
  simp only [Prod.mk.injEq] at hzz
  obtain ⟨hz0, hz1, hz2⟩ := hzz
  have hnum : ∀ u ∈ nums .u8 ys, u.oneCell' = true := by
    intro u hu; simp only [nums, List.mem_map] at hu; obtain ⟨q, _, rfl⟩ := hu; rfl
  refine step_append_lies W hgd s x 22 ho B 5 i0 (.int .u8 0) 1 1 Try.underlying22 hi hz0 hz1 hz2 rfl (by omega) v xs.length (nums .u8 xs) hs HO.own ⟨g, 0, none⟩ m m (nums .u8 ys) hx (by simp [nums, hm])
    (World.news_of_block hg) hnum hm0 (by simp only [maxLen]; omega) (by omega) hbase _ rfl ?_
  intro g' cap w1 hown hgr hat hlt
  refine h _ w1 ⟨?_, HO.below.grown hgr hbase (own_base HO.own)⟩ hgr.size
  have e : xs.length + m = (xs ++ ys).length := by simp [hm]
  have e2 : nums .u8 xs ++ nums .u8 ys = nums .u8 (xs ++ ys) := by simp [nums]
  rw [← e, ← e2]
  exact hown
end

def foldStep (st : List Int × Bool) (c : Int) : List Int × Bool :=
  if c = 32 then (st.1, decide (0 < st.1.length))
  else ((if st.2 then st.1 ++ [32] else st.1) ++ [if 65 ≤ c ∧ c ≤ 90 then c + 32 else c], false)
def foldL (l : List Int) : List Int := (l.foldl foldStep ([], false)).1

theorem bytes_take_snoc (s : ByteArray) (k : Nat) (h : k < s.size) : (bytesOf s).take (k + 1) = (bytesOf s).take k ++ [bt s k] := by
  rw [List.take_succ_eq_append_getElem (by rw [bytesOf_length]; exact h)]
  congr 2
  have := rd_bytesOf s k
  rw [← this]
  simp [rd, List.getD_eq_getElem?_getD, List.getElem?_eq_getElem (show k < (bytesOf s).length by rw [bytesOf_length]; exact h)]
theorem fold_snoc (s : ByteArray) (k : Nat) (h : k < s.size) (st : List Int × Bool) (hf : ((bytesOf s).take k).foldl foldStep ([], false) = st) :
    ((bytesOf s).take (k + 1)).foldl foldStep ([], false) = foldStep st (bt s k) := by
  rw [bytes_take_snoc s k h, List.foldl_append, hf]; rfl
theorem foldStep_len (st : List Int × Bool) (c : Int) : (foldStep st c).1.length ≤ st.1.length + 2 := by
  unfold foldStep; split
  · simp
  · simp; split <;> simp

set_option maxHeartbeats 1000000 in
set_option maxRecDepth 100000 in
theorem fold_any (s : ByteArray) (w : World) (hs : s.size ≤ 1000000) :
    Calls Try.prog 13 #[.string s] w fun e w' => e = .returned (.string (strOfNums (foldL (bytesOf s)))) ∧ Below w.heap.size w w' := by
  have kb := fun W => print_bytes (P := Try.prog) 9 22 5 Try.underlying9 Try.underlying22 Try.underlying5 s W
  go_enter Try.func13, Try.ntmps13
  go_wp2
  obtain ⟨wb, hwb⟩ : ∃ wb, wb = Lib.bytesWorld w 5 s := ⟨_, rfl⟩
  have hsz : wb.heap.size = w.heap.size + 1 := by rw [hwb, Lib.bytesWorld_size]
  have hbel : Below w.heap.size w wb := by rw [hwb]; exact bytes_below (Below.refl _ _) (Nat.le_refl _) 5 s
  have hrd : ReadsInt wb .u8 (some ⟨w.heap.size, 0, none⟩) s.size (bytesOf s) := by rw [hwb]; exact bytes_reads w 5 s (by omega)
  rw [← hwb]
  clear hwb kb
  have Hsz := Lib.hid hsz
  clear hsz
  go_loopw [3, 4, 10] (fun v g i wr => ∃ (k : Nat) (out : List Int) (gap : Bool), k ≤ s.size ∧ i = .int .i64 k ∧ g = .bool gap ∧ out.length ≤ 2 * k ∧ OwnB wb.heap.size wb wr v out ∧ Hid (((bytesOf s).take k).foldl foldStep ([], false) = (out, gap))) (fun _ _ i _ => s.size - (intOf i).toNat)
  case atStart => exact ⟨0, [], false, by omega, rfl, rfl, by simp, ⟨own_nil _ _ _ _, Below.refl _ _⟩, rfl⟩
  case round =>
    obtain ⟨k, out, gap, hk, rfl, rfl, hlen, HO, HF⟩ := hrel
    have hle : wb.heap.size ≤ wr.heap.size := HO.below.size
    by_cases hlt : k < s.size
    · have HS := fun st h => Lib.hid (fold_snoc s k hlt st h)
      have hr := bt_range s k
      have hcell : wr.cell? ⟨w.heap.size, k, none⟩ = some (.int .u8 (bt s k)) := by
        obtain ⟨ad, hh, hc⟩ := hrd.at_ k (by omega) (by omega)
        cases hh
        rw [add_plain] at hc
        rw [HO.below.cell (p := ⟨w.heap.size, k, none⟩) (by have := Hsz.out; show w.heap.size < _; omega)]
        rw [rd_bytesOf] at hc
        simpa using hc
      have HS1 := HS _ HF.out
      clear HS
      generalize bt s k = c at *
      obtain ⟨A, cap, rfl⟩ := own_slice HO.own
      by_cases h1 : c = 32
      · subst h1
        go_wp2
        go_roundw
        case rel => exact ⟨k + 1, out, decide (0 < out.length), by omega, by go_num, by simp, by omega, HO, by show _ = _; rw [HS1.out]; rfl⟩
        case measure => simp [intOf]; omega
      · have h1' : (c == 32) = false := beq_eq_false_iff_ne.2 h1
        have HS2 : Hid (((bytesOf s).take (k + 1)).foldl foldStep ([], false) = ((if gap then out ++ [32] else out) ++ [if 65 ≤ c ∧ c ≤ 90 then c + 32 else c], false)) := by
          show _ = _; rw [HS1.out]; unfold foldStep; rw [if_neg h1]
        clear h1 HS1
        by_cases h2 : 65 ≤ c ∧ c ≤ 90
        · rw [if_pos h2] at HS2
          obtain ⟨h2a, h2b⟩ := h2
          cases gap
          · go_wp2_with (first | (at_builtin; refine app1 wb.heap.size rfl (.tmp 31) (.tmp 33) rfl (.slice A out.length cap) out (c + 32) rfl rfl HO hle (by omega) ?_; intro v1 w1 HO1 hz1))
            go_roundw
            case rel => exact ⟨k + 1, _, false, by omega, by go_num, rfl, by simp; omega, HO1, HS2⟩
            case measure => simp [intOf]; omega
          · go_wp2_with (first | (at_builtin; refine app1 wb.heap.size rfl (.tmp 20) (.tmp 21) rfl (.slice A out.length cap) out 32 rfl rfl HO hle (by omega) ?_; intro v1 w1 HO1 hz1) | (at_builtin; refine app1 wb.heap.size rfl (.tmp 31) (.tmp 33) rfl _ (out ++ [32]) (c + 32) rfl rfl HO1 (Nat.le_trans hle hz1) (by simp; omega) ?_; intro v2 w2 HO2 hz2))
            go_roundw
            case rel => exact ⟨k + 1, _, false, by omega, by go_num, rfl, by simp; omega, HO2, HS2⟩
            case measure => simp [intOf]; omega
        · rw [if_neg h2] at HS2
          have h3 : c < 65 ∨ 90 < c := by omega
          clear h2
          rcases h3 with h3 | h3
          all_goals
            cases gap
            · go_wp2_with (first | (at_builtin; refine app1 wb.heap.size rfl (.tmp 31) (.tmp 33) rfl (.slice A out.length cap) out c rfl rfl HO hle (by omega) ?_; intro v1 w1 HO1 hz1))
              go_roundw
              case rel => exact ⟨k + 1, _, false, by omega, by go_num, rfl, by simp; omega, HO1, HS2⟩
              case measure => simp [intOf]; omega
            · go_wp2_with (first | (at_builtin; refine app1 wb.heap.size rfl (.tmp 20) (.tmp 21) rfl (.slice A out.length cap) out 32 rfl rfl HO hle (by omega) ?_; intro v1 w1 HO1 hz1) | (at_builtin; refine app1 wb.heap.size rfl (.tmp 31) (.tmp 33) rfl _ (out ++ [32]) c rfl rfl HO1 (Nat.le_trans hle hz1) (by simp; omega) ?_; intro v2 w2 HO2 hz2))
              go_roundw
              case rel => exact ⟨k + 1, _, false, by omega, by go_num, rfl, by simp; omega, HO2, HS2⟩
              case measure => simp [intOf]; omega
    · have HC := own_string (P := Try.prog) Try.underlying22 Try.underlying5 Try.underlying9 HO.own
      go_wp2
      go_ret
      obtain rfl : k = s.size := by omega
      refine ⟨ret_str ?_, hbel.trans (HO.below.mono (by have := Hsz.out; omega))⟩
      have := HF.out
      rw [List.take_of_length_le (by rw [bytesOf_length]; exact Nat.le_refl _)] at this
      unfold foldL; rw [this]

theorem eqS_iff (a b : ByteArray) : (a.toList == b.toList) = decide (a = b) := by
  rw [ByteArray.toList_eq, ByteArray.toList_eq, Bool.eq_iff_iff, beq_iff_eq, decide_eq_true_iff]
  constructor
  · intro h; cases a; cases b; simp_all
  · intro h; rw [h]
def foldS (s : ByteArray) : ByteArray := strOfNums (foldL (bytesOf s))
theorem match_any (s t : ByteArray) (w : World) (hs : s.size ≤ 1000000) (ht : t.size ≤ 1000000) :
    Calls Try.prog 15 #[.string s, .string t] w fun e w' => e = .returned (.bool (decide (foldS s = foldS t))) ∧ Below w.heap.size w w' := by
  go_enter Try.func15, Try.ntmps15
  go_wp2_with fail
  refine (fold_any s _ hs).mono ?_
  rintro e w1 ⟨rfl, hb1⟩
  go_wp2_with fail
  refine (fold_any t _ ht).mono ?_
  rintro e w2 ⟨rfl, hb2⟩
  go_wp2_with fail
  go_ret
  exact ⟨ret_bool (by rw [eqS_iff]; rfl), hb1.trans (hb2.mono hb1.size)⟩
end Go.Proofs.Ytoccblnjalpcdaa
