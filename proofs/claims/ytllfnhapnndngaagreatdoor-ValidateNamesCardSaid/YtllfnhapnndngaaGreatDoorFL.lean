/- A hook for ptree.prune at a tree of one node. -/
import Derived.Test.YtllfnhapnndngaaGreatDoorFK
import Derived.RangeFuncFrom
import Derived.RangeFuncBox
import Derived.RangeFuncLeaves
import Derived.RangeFuncCalls
import Derived.Shelf.Abstract
import Derived.WalkKit
import Derived.OwnWalkIn
import Derived.TacticsInMore
import Derived.LoopNIn
import Derived.LoopIn
namespace Go.Proofs
open Go.RowKit Go.Shelf
attribute [local go_sem] Oper.semAt_some
set_option linter.unusedVariables false
set_option maxRecDepth 100000 in
set_option maxHeartbeats 2000000 in
theorem Tryz.back1_in (F : Fence) (n : Nat) (h526 : F.fn 526) (hro : F.round = none) (hn : 1 ≤ n) (l Bs n₀ b off cap : Nat) (x0 x1 x2 x3 : Value) (hb : b < n₀) (hBn : Bs < n₀) (J Jx : List Unit → World → Prop)
    (hY : ∀ pre x W, J pre W → pre.length < 1 → YieldAt F (n - 1) Tryz.prog l #[.int .i64 0, .agg #[x0, x1, x2, x3]] W fun e W' =>
      (e = .returned (.bool true) ∧ J (pre ++ [x]) W' ∧ Below n₀ W W') ∨ (e = .returned (.bool false) ∧ Jx (pre ++ [x]) W'))
    (W : World) (hBs : W.cell? ⟨Bs, 0, none⟩ = some (.slice (some ⟨b, off, none⟩) 1 cap)) (hc0 : W.cell? ⟨b, off, none⟩ = some x0) (hc1 : W.cell? ⟨b, off + 1, none⟩ = some x1) (hc2 : W.cell? ⟨b, off + 2, none⟩ = some x2) (hc3 : W.cell? ⟨b, off + 3, none⟩ = some x3) (h0 : J [] W) :
    CallsIn F n Tryz.prog 526 #[.func (.yield l) #[] #[], .pointer (some ⟨Bs, 0, none⟩)] W fun e W' => (∃ v, e = .returned v) ∧
      (J [()] W' ∨ Jx [()] W') := by
  refine callsIn_of_wp Tryz.func526 rfl h526 ?_ hro
  simp only [Tryz.ntmps526, List.size_toArray, List.length_cons, List.length_nil, Nat.reduceAdd, Nat.reduceSub, Array.replicate_succ, Array.replicate_zero, List.push_toArray, List.append_toArray, List.nil_append, List.cons_append]
  gi_wp2
  gi_loopw [3] (fun i wr => (i = .int .i64 0 ∧ J [] wr ∧ Below n₀ W wr) ∨ (i = .int .i64 (-1) ∧ J [()] wr))
    (fun i _ => (intOf i + 1).toNat)
  case atStart => exact .inl ⟨rfl, h0, Below.refl _ _⟩
  case round =>
    rcases hrel with ⟨rfl, hJs, hnx⟩ | ⟨rfl, hJs⟩
    · obtain ⟨fn, tmps, assign, body, hy, hR⟩ := hY _ () wr hJs (by simp)
      have hBs' := (hnx.cell (p := ⟨Bs, 0, none⟩) hBn).trans hBs
      have hc0' := (hnx.cell (p := ⟨b, off, none⟩) hb).trans hc0
      have hc1' := (hnx.cell (p := ⟨b, off + 1, none⟩) hb).trans hc1
      have hc2' := (hnx.cell (p := ⟨b, off + 2, none⟩) hb).trans hc2
      have hc3' := (hnx.cell (p := ⟨b, off + 3, none⟩) hb).trans hc3
      gi_wp2
      refine hR.mono ?_
      rintro e W3 (⟨rfl, hJ3, hk3⟩ | ⟨rfl, hJx3⟩)
      · gi_wp2
        go_roundw
        case rel => exact .inr ⟨rfl, hJ3⟩
        case measure => simp [intOf]
      · gi_wp2
        refine bodyPost_ret (results_none rfl _ _ _) rfl ?_
        exact ⟨⟨_, rfl⟩, .inr hJx3⟩
    · gi_wp2
      go_end0
      exact ⟨⟨_, rfl⟩, .inl hJs⟩
set_option maxHeartbeats 1000000 in
theorem Tryz.back0_in (F : Fence) (n : Nat) (h5 : F.fn 521) (hro : F.round = none) (a : Option Addr) (len cap : Nat) (w : World) :
    CallsIn F n Tryz.prog 521 #[.slice a len cap] w fun e w' => e = .returned (.func (.func 526) #[] #[.pointer (some ⟨w.heap.size, 0, none⟩)]) ∧ w' = w.alloc (.cells #[.slice a len cap] 181) := by
  refine callsIn_of_wp Tryz.func521 rfl h5 ?_ hro
  simp only [Tryz.ntmps521, List.size_toArray, List.length_cons, List.length_nil, Nat.reduceAdd, Nat.reduceSub, Array.replicate_succ, Array.replicate_zero, List.push_toArray, List.append_toArray, List.nil_append, List.cons_append]
  gi_wp2
  go_ret
  exact ⟨rfl, rfl⟩
/-- A range over a function that is entered outside of any round. -/
theorem rangeFunc_wide {P : Program} {g : Operand} {ps : Array Tmp} {assign body : Code} {Q : Exit → Act → World → Prop} {a : Act} {w : World} {n gf : Nat} {lb : Array Value} (h1 : 1 ≤ n) (hg : a.eval g = .func (.func gf) #[] lb)
    (eg : ∀ args w, (callFunc gf args).run P w = .ok (.enter gf args) w) (R : World → Prop)
    (h : ∀ (rec : LoopState → Loop), (∀ st, (rec st).tmps = a.tmps ∧ (rec st).params = ps ∧ (rec st).assign = assign ∧ (rec st).body = body ∧ (rec st).state = st ∧ (rec st).pending = none) →
      (∀ st st', { rec st with state := st' } = rec st') → (∀ st, { rec st with pending := none } = rec st) → ∀ W1, W1 = (w.alloc (.deferred (some []))).alloc (.loop (rec .ready)) →
      CallsIn Fence.wide (n - 1) P gf (#[.func (.yield (w.heap.size + 1)) #[] #[]] ++ lb) W1 fun e W3 => (∃ v, e = .returned v) ∧ W3.heap[w.heap.size + 1]? = some (.loop (rec .ready)) ∧ W3.heap[w.heap.size]? = some (.deferred (some [])) ∧ R W3)
    (hQ : ∀ W3 o, R W3 → W3.heap[w.heap.size]? = some (.deferred (some [])) → Q .normal { a with defers := [{ target := .collected w.heap.size, args := #[] }] ++ a.defers } (W3.putObj (w.heap.size + 1) o)) :
    (Code.rangeFunc g ps assign body).wpIn Fence.wide n P Q a w := by
  refine wpIn_rangeFunc fun fn hfn => ?_
  have he := run_enterLoop_outer (P := P) (w := w) fn a.tmps ps assign body
  obtain ⟨rec, hrec⟩ : ∃ rec : LoopState → Loop, rec = fun st => { state := st, pending := none, fn, tmps := a.tmps, params := ps, assign, body, defers := w.heap.size } := ⟨_, rfl⟩
  obtain ⟨W1, hW1⟩ : ∃ W1, W1 = (w.alloc (.deferred (some []))).alloc (.loop (rec .ready)) := ⟨_, rfl⟩
  have h2 := h rec (fun st => by rw [hrec]; exact ⟨rfl, rfl, rfl, rfl, rfl, rfl⟩) (fun _ _ => by rw [hrec]) (fun _ => by rw [hrec]) W1 hW1
  have he' : (Instr.enterLoop fn a.tmps ps assign body none).run P w = .ok (w.heap.size + 1, [{ target := .collected w.heap.size, args := #[] }]) W1 := by rw [hW1, hrec]; exact he
  have hst : (rec .ready).state ≠ .busy := by rw [hrec]; simp
  have hpe : (rec .ready).pending = none := by rw [hrec]
  clear he
  refine ⟨w.heap.size + 1, [{ target := .collected w.heap.size, args := #[] }], W1, { target := .fn (.func gf) lb, args := #[.func (.yield (w.heap.size + 1)) #[] #[]] }, W1, gf, #[.func (.yield (w.heap.size + 1)) #[] #[]] ++ lb, W1, ?_, ?_, ?_, ?_, ?_, ?_⟩
  · exact he'
  · simp only [resolve, hg]; simp [go_sem]
  · exact fun _ _ => trivial
  · simp [invoke, go_sem, eg]
  · exact fun _ => h1
  · refine CallsIn.mono h2 ?_
    rintro e W3 ⟨⟨v, rfl⟩, g1, g2, g3⟩
    have h5 := run_endLoop (P := P) g1 hst
    rw [hpe] at h5
    exact ⟨none, W3.putObj (w.heap.size + 1) _, h5, hQ _ _ g3 g2⟩
theorem Tryz.mkMarked (w : World) : (Instr.makeSlice 75 (.int .i64 1) (.int .i64 1)).run Tryz.prog w = .ok (.slice (some ⟨w.heap.size, 0, none⟩) 1 1) (w.alloc (.cells #[.bool false] 4)) := by kernel_rfl
attribute [local go_sem] Tryz.mkMarked
set_option maxRecDepth 100000 in
set_option maxHeartbeats 4000000 in
theorem Tryz.prune_in (b off cap : Nat) (d x0 x1 : Int) (s2 : ByteArray) (a3 : Option Addr) (l3 c3 : Nat) (w : World) (hb : b < w.heap.size) (hd : (x0 == d) = false)
    (hc0 : w.cell? ⟨b, off, none⟩ = some (.int .i64 x0)) (hc1 : w.cell? ⟨b, off + 1, none⟩ = some (.int .i64 x1)) (hc2 : w.cell? ⟨b, off + 2, none⟩ = some (.string s2)) (hc3 : w.cell? ⟨b, off + 3, none⟩ = some (.slice a3 l3 c3))
    (hkeep : ∀ (W : World) (mb : Nat), Below w.heap.size w W → w.heap.size ≤ mb → W.heap[mb]? = some (.cells #[.bool false] 4 (0, 0)) →
      CallsIn Fence.wide 2 Tryz.prog 512 #[.slice (some ⟨b, off, none⟩) 1 cap, .slice (some ⟨mb, 0, none⟩) 1 1] W fun e W' => e = .returned (.slice none 0 0) ∧ Below W.heap.size W W') :
    CallsIn Fence.wide 3 Tryz.prog 511 #[.slice (some ⟨b, off, none⟩) 1 cap, .int .i64 d] w fun e W => e = .returned (.slice none 0 0) ∧ Below w.heap.size w W := by
  refine callsIn_of_wp_marks Tryz.func511 rfl trivial ?_ rfl
  simp only [Tryz.ntmps511, List.size_toArray, List.length_cons, List.length_nil, Nat.reduceAdd, Nat.reduceSub, Array.replicate_succ, Array.replicate_zero, List.push_toArray, List.append_toArray, List.nil_append, List.cons_append]
  gi_wp2_with (gi_at_call 521; refine (Tryz.back0_in Fence.wide _ trivial rfl _ _ _ _).mono ?_; rintro e w' ⟨rfl, rfl⟩)
  refine ⟨trivial, (Tryz.back0_in Fence.wide _ trivial rfl _ _ _ _).mono ?_⟩
  rintro e w' ⟨rfl, rfl⟩
  gi_wp2
  have hVs : ((((w.alloc (Obj.cells #[Value.int IntKind.i64 d] 3)).alloc (Obj.cells #[Value.bool false] 4)).alloc (Obj.cells #[Value.slice (some { block := w.heap.size + 1, off := 0 }) 1 1] 75)).alloc (Obj.cells #[Value.slice (some { block := b, off := off }) 1 cap] 181)).heap.size = w.heap.size + 4 := by simp
  have b0 := (((Boxed.new w 3 (.int .i64 d)).alloc (Obj.cells #[Value.bool false] 4)).alloc (Obj.cells #[Value.slice (some { block := w.heap.size + 1, off := 0 }) 1 1] 75)).alloc (Obj.cells #[Value.slice (some { block := b, off := off }) 1 cap] 181)
  have b1 := ((Boxed.new (w.alloc (Obj.cells #[Value.int IntKind.i64 d] 3)) 4 (.bool false)).alloc (Obj.cells #[Value.slice (some { block := w.heap.size + 1, off := 0 }) 1 1] 75)).alloc (Obj.cells #[Value.slice (some { block := b, off := off }) 1 cap] 181)
  have b2 := (Boxed.new ((w.alloc (Obj.cells #[Value.int IntKind.i64 d] 3)).alloc (Obj.cells #[Value.bool false] 4)) 75 (Value.slice (some { block := w.heap.size + 1, off := 0 }) 1 1)).alloc (Obj.cells #[Value.slice (some { block := b, off := off }) 1 cap] 181)
  have b3 := Boxed.new (((w.alloc (Obj.cells #[Value.int IntKind.i64 d] 3)).alloc (Obj.cells #[Value.bool false] 4)).alloc (Obj.cells #[Value.slice (some { block := w.heap.size + 1, off := 0 }) 1 1] 75)) 181 (Value.slice (some { block := b, off := off }) 1 cap)
  have hB : Below w.heap.size w ((((w.alloc (Obj.cells #[Value.int IntKind.i64 d] 3)).alloc (Obj.cells #[Value.bool false] 4)).alloc (Obj.cells #[Value.slice (some { block := w.heap.size + 1, off := 0 }) 1 1] 75)).alloc (Obj.cells #[Value.slice (some { block := b, off := off }) 1 cap] 181)) :=
    ((((Below.refl _ w).alloc (Nat.le_refl _) _).alloc (by simp) _).alloc (by simp; omega) _).alloc (by simp; omega) _
  simp only [World.size_alloc, Nat.add_assoc, Nat.reduceAdd] at b0 b1 b2 b3
  simp only [Nat.add_assoc, Nat.reduceAdd] 
  generalize ((((w.alloc (Obj.cells #[Value.int IntKind.i64 d] 3)).alloc (Obj.cells #[Value.bool false] 4)).alloc (Obj.cells #[Value.slice (some { block := w.heap.size + 1, off := 0 }) 1 1] 75)).alloc (Obj.cells #[Value.slice (some { block := b, off := off }) 1 cap] 181)) = V at *
  have n0 := (hB.cell (p := ⟨b, off, none⟩) hb).trans hc0
  have n1 := (hB.cell (p := ⟨b, off + 1, none⟩) hb).trans hc1
  have n2 := (hB.cell (p := ⟨b, off + 2, none⟩) hb).trans hc2
  have n3 := (hB.cell (p := ⟨b, off + 3, none⟩) hb).trans hc3
  refine rangeFunc_wide (by omega) (gf := 526) (lb := #[.pointer (some ⟨w.heap.size + 3, 0, none⟩)]) rfl (enters_of Tryz.func526 (by kernel_rfl) rfl) (fun W => Below V.heap.size V W) ?_ ?_
  · intro rec r1 r2 r3 W1 hW1
    have hL1 : W1.heap[V.heap.size + 1]? = some (.loop (rec .ready)) := by
      rw [hW1]; have := World.alloc_heap_new (V.alloc (.deferred (some []))) (.loop (rec .ready)); rwa [World.size_alloc] at this
    have hK1 : W1.heap[V.heap.size]? = some (.deferred (some [])) := by
      rw [hW1]; exact (Below.heap_alloc _ _ _ (by simp)).trans (World.alloc_heap_new V _)
    have hB1 : Below V.heap.size V W1 := by rw [hW1]; exact ((Below.refl _ V).alloc (Nat.le_refl _) _).alloc (by simp) _
    have hs1 : W1.heap.size = V.heap.size + 2 := by rw [hW1]; simp
    have q0 := (hB1.cell (p := ⟨b, off, none⟩) (by show b < _; omega)).trans n0
    have q1 := (hB1.cell (p := ⟨b, off + 1, none⟩) (by show b < _; omega)).trans n1
    have q2 := (hB1.cell (p := ⟨b, off + 2, none⟩) (by show b < _; omega)).trans n2
    have q3 := (hB1.cell (p := ⟨b, off + 3, none⟩) (by show b < _; omega)).trans n3
    have q4 := (hB1.cell (p := ⟨w.heap.size + 3, 0, none⟩) (by show w.heap.size + 3 < _; omega)).trans b3.cell
    clear hW1
    refine (Tryz.back1_in Fence.wide 2 trivial rfl (by omega) (V.heap.size + 1) (w.heap.size + 3) V.heap.size b off cap _ _ _ _ (by omega) (by omega) (fun pre W => match pre with | [] => W = W1 | _ => W.heap[V.heap.size + 1]? = some (.loop (rec .ready)) ∧ W.heap[V.heap.size]? = some (.deferred (some [])) ∧ Below V.heap.size V W) (fun _ _ => False) ?_ W1 q4 q0 q1 q2 q3 rfl).mono ?_
    · intro pre x W hJ hlen
      match pre, hlen with
      | [], _ =>
      have hWW : W = W1 := hJ
      subst hWW
      obtain ⟨v1, v2, v3, v4, v5, v6⟩ := r1 .ready
      have hy := run_yield (P := Tryz.prog) (args := #[.int .i64 0, .agg #[.int .i64 x0, .int .i64 x1, .string s2, .slice a3 l3 c3]]) hL1 (by rw [v2]; rfl)
      rw [v1, v2, v3, v4] at hy
      refine ⟨_, _, _, _, hy, roundIn_of_wpIn trivial ?_⟩
      gi_wp2
      simp only [hVs] at hL1 hK1 hB1 hs1
      obtain ⟨N, hN⟩ : ∃ N, N = W.alloc (Obj.cells #[Value.int IntKind.i64 x0, Value.int IntKind.i64 x1, Value.string s2, Value.slice a3 l3 c3] 246) := ⟨_, rfl⟩
      rw [← hN]
      have hBN : Below (w.heap.size + 4) W N := by rw [hN]; exact (Below.refl _ W).alloc (by omega) _
      have hLN : N.heap[w.heap.size + 4 + 1]? = some (.loop (rec .ready)) := by rw [hN]; exact (Below.heap_alloc _ _ _ (by omega)).trans hL1
      have hKN : N.heap[w.heap.size + 4]? = some (.deferred (some [])) := by rw [hN]; exact (Below.heap_alloc _ _ _ (by omega)).trans hK1
      have hNN : N.heap[w.heap.size + 4 + 2]? = some (Obj.cells #[Value.int IntKind.i64 x0, Value.int IntKind.i64 x1, Value.string s2, Value.slice a3 l3 c3] 246 (0, 0)) := by rw [hN, ← hs1]; exact World.alloc_heap_new W _
      clear hN
      refine ⟨_, run_beginRound hLN v5, ?_⟩
      have hBM : Below (w.heap.size + 4) W (N.putObj (w.heap.size + 4 + 1) (Obj.loop { rec .ready with state := .busy })) := hBN.grown (grownBy_putObj' N _ _) (by have := hBN.size; omega) (fun k e => by cases e; omega)
      have hLM : (N.putObj (w.heap.size + 4 + 1) (Obj.loop { rec .ready with state := .busy })).heap[w.heap.size + 4 + 1]? = some (.loop (rec .busy)) := by rw [r2]; exact World.putObj_heap_same (Array.getElem?_eq_some_iff.1 hLN).1
      have hKM : (N.putObj (w.heap.size + 4 + 1) (Obj.loop { rec .ready with state := .busy })).heap[w.heap.size + 4]? = some (.deferred (some [])) := (World.putObj_heap_other (by omega)).trans hKN
      have hNM : (N.putObj (w.heap.size + 4 + 1) (Obj.loop { rec .ready with state := .busy })).heap[w.heap.size + 4 + 2]? = some (Obj.cells #[Value.int IntKind.i64 x0, Value.int IntKind.i64 x1, Value.string s2, Value.slice a3 l3 c3] 246 (0, 0)) := (World.putObj_heap_other (by omega)).trans hNN
      generalize N.putObj (w.heap.size + 4 + 1) (Obj.loop { rec .ready with state := .busy }) = M at *
      have hBV : Below (w.heap.size + 4) V M := hB1.trans hBM
      have m0 := (hBV.cell (p := ⟨w.heap.size, 0, none⟩) (by show w.heap.size < _; omega)).trans b0.cell
      have m1 := (hBV.cell (p := ⟨w.heap.size + 1, 0, none⟩) (by show w.heap.size + 1 < _; omega)).trans b1.cell
      have m2 := (hBV.cell (p := ⟨w.heap.size + 2, 0, none⟩) (by show w.heap.size + 2 < _; omega)).trans b2.cell
      have m3 : M.cell? ⟨w.heap.size + 4 + 2, 0, none⟩ = some (.int .i64 x0) := by simp [World.cell?, hNM]
      have m4 : M.cell? ⟨w.heap.size + 4 + 2, 1, none⟩ = some (.int .i64 x1) := by simp [World.cell?, hNM]
      gi_wp2
      have h7 := run_endRound (P := Tryz.prog) none hLM
      have h8 : { rec .busy with state := if (none : Option Code).isNone then .ready else .done, pending := none } = rec .ready := by
        have e1 := r2 .busy .ready
        have e2 := r3 .ready
        rw [← e1] at e2
        exact e2.trans e1
      rw [h8] at h7
      exact ⟨_, _, h7, rfl, ⟨World.putObj_heap_same (Array.getElem?_eq_some_iff.1 hLM).1, (World.putObj_heap_other (by omega)).trans hKM, hBV.grown (grownBy_putObj' M _ _) (by have := hBV.size; omega) (fun k e => by cases e; omega)⟩, hBM.grown (grownBy_putObj' M _ _) (by have := hBV.size; omega) (fun k e => by cases e; omega)⟩
    · rintro e W3 ⟨he, hJ | hF⟩
      · exact ⟨he, hJ⟩
      · exact hF.elim
  · intro W3 o hB3 hD3
    have hB4 : Below V.heap.size V (W3.putObj (V.heap.size + 1) o) := hB3.grown (grownBy_putObj' W3 _ o) (hB3.size) (fun k e => by cases e; omega)
    have hD4 : (W3.putObj (V.heap.size + 1) o).heap[V.heap.size]? = some (.deferred (some [])) := (World.putObj_heap_other (by omega)).trans hD3
    generalize W3.putObj (V.heap.size + 1) o = W4 at *
    have c2 := (hB4.cell (p := ⟨w.heap.size + 2, 0, none⟩) (by show w.heap.size + 2 < _; omega)).trans b2.cell
    have hBw : Below w.heap.size w W4 := hB.trans (hB4.mono (by omega))
    have hmb : W4.heap[w.heap.size + 1]? = some (.cells #[.bool false] 4 (0, 0)) := (hB4.block _ (by omega)).trans b1
    have hk := hkeep W4 (w.heap.size + 1) hBw (by omega) hmb
    gi_wp2
    refine ⟨trivial, hk.mono ?_⟩
    rintro e W5 ⟨rfl, hB5⟩
    gi_wp2
    have hD5 : W5.heap[V.heap.size]? = some (.deferred (some [])) := (hB5.block _ (Array.getElem?_eq_some_iff.1 hD4).1).trans hD4
    refine ⟨by simp, .inl ⟨_, _, rfl, run_takeDeferred (by rw [← hVs]; exact hD5), ?_⟩⟩
    refine ⟨_, results_tmp rfl _ _ _, rfl, ?_⟩
    exact (hBw.trans (hB5.mono hBw.size)).grown (grownBy_putObj' W5 _ _) (Nat.le_trans hBw.size hB5.size) (fun k e => by cases e; omega)
end Go.Proofs
namespace Go.Proofs.YtllfnhapnndngaaGreatDoor.E
open Go Go.Proofs
set_option linter.unusedVariables false
set_option linter.unusedSimpArgs false
set_option maxRecDepth 100000
theorem Rel.log {ρ : Rho} {n : Nat} {t : Tr ABlk} {ws ws' : List Nat} {w : World} (h : Rel ρ ⟨n, t, ws⟩ w) : Rel ρ ⟨n, t, ws'⟩ w :=
  ⟨h.blk, h.apart, h.same, h.fresh, h.size, h.below, h.root⟩
noncomputable def allGe (n : Nat) (l : List Nat) : Bool := List.rec (motive := fun _ => Bool) true (fun x _ ih => bif Nat.ble n x then ih else false) l
theorem allGe_ok {n : Nat} : ∀ {l : List Nat}, allGe n l = true → ∀ x ∈ l, n ≤ x
  | [], _, x, hx => by cases hx
  | y :: l, h, x, hx => by
    change (bif Nat.ble n y then allGe n l else false) = true at h
    cases hc : Nat.ble n y <;> rw [hc] at h
    · cases h
    · rcases List.mem_cons.1 hx with rfl | hx
      · exact Nat.le_of_ble_eq_true hc
      · exact allGe_ok h x hx
noncomputable def keepE (g v o : Nat) (c : Option Nat) (H : AH) : Option (AV × AH) :=
  runF noHooks 4 512 [.sl g v o 1 4 c, .sl H.next 0 0 1 1 none] ⟨H.next + 1, H.t.set H.next (blkOf [.bool false]), []⟩
/-- The hook. -/
noncomputable def pruneN (base : CF) : CF := fun f xs H =>
  bif Nat.beq f 511 then
    (match xs with
    | [.sl g v o 1 4 c, .int .i64 d] => (rowE H g v o 4).bind fun l => match l with
      | [.int .i64 x0, .int .i64 x1, .str s, .sl g' v' o' n' es' c'] => bif (x0 == d) then none else (keepE g v o c H).bind fun p => match p.1 with
        | .nils => bif allGe (H.next + 1) p.2.wr then some (.nils, H) else none
        | _ => none
      | _ => none
    | _ => none)
  else base f xs H
theorem pruneN_log {base : CF} (hb : LogOk base) : LogOk (pruneN base) := by
  intro f xs H v H' h
  unfold pruneN at h
  rcases cond_two h with h | h
  · split at h
    · simp only [Option.bind_eq_some_iff] at h
      obtain ⟨l, hl, h⟩ := h
      split at h
      · rcases cond_two h with h | h
        · cases h
        simp only [Option.bind_eq_some_iff] at h
        obtain ⟨p, hp, h⟩ := h
        split at h
        · replace h := cond_some h
          obtain ⟨_, h⟩ := h
          cases h; exact Logged.refl _
        · cases h
      · cases h
    · cases h
  · exact hb _ _ _ _ _ h
theorem same_below {w w' : World} (h : Same w w') : RowKit.Below w.heap.size w w' := ⟨h.os, h.tape, h.output, h.size, h.heap⟩
theorem pruneN_ok {base : CF} (hb : CallOk Tryz.prog base) : CallOk Tryz.prog (pruneN base) := by
  intro f xs H v H' h ρ w args hr hx
  unfold pruneN at h
  cases hf : Nat.beq f 511 with
  | false => rw [hf] at h; exact hb f xs H v H' h ρ w args hr hx
  | true =>
    rw [hf] at h
    simp only [cond_true] at h
    have := Nat.eq_of_beq_eq_true hf
    subst this
    have hent : (callFunc 511 args).run Tryz.prog w = .ok (.enter 511 args) w := enters_of Tryz.func511 (by kernel_rfl) rfl args w
    refine ⟨hent, ?_⟩
    split at h
    · rename_i g vv o c d
      simp only [Option.bind_eq_some_iff] at h
      obtain ⟨l, hl, h⟩ := h
      obtain ⟨avs, hav⟩ : ∃ avs, args = avs.toArray := ⟨args.toList, by simp⟩
      subst hav
      have hx' : RL ρ [.sl g vv o 1 4 c, .int .i64 d] avs := by simpa using hx
      cases hx' with
      | cons _ sv _ ys hsv hys =>
      cases hys with
      | cons _ dv _ ys hdv hnil =>
      cases hnil
      cases hdv
      split at h
      · rename_i x0 x1 s g' v' o' n' es' c'
        cases hd : (x0 == d) with
        | true => rw [hd] at h; cases h
        | false =>
        rw [hd] at h
        simp only [cond_false, Option.bind_eq_some_iff] at h
        obtain ⟨⟨v2, H2⟩, hp, h⟩ := h
        split at h
        · rename_i hv2
          replace h := cond_some h
          obtain ⟨hge, h⟩ := h
          cases h
          simp only at hv2 hge
          subst hv2
          simp only [rowE, Option.bind_eq_some_iff] at hl
          obtain ⟨b, hb1, hl⟩ := hl
          split at hl
          · rename_i lo hi m cs
            replace hl := cond_some hl
            obtain ⟨hlo, hl⟩ := hl
            rw [Nat.ble_eq] at hlo
            obtain ⟨hlen, hget⟩ := Tr.take_spec cs 4 o _ hl
            cases hsv with
            | sl _ _ _ _ _ _ im cap him hlc hsz hrm hcap =>
            obtain ⟨k1, k2⟩ := hr.blk g _ hb1
            obtain ⟨k0, as1, el, fr, e1, e2, e3, e4⟩ := k2 vv im hlo him
            have hcbl := (Array.getElem?_eq_some_iff.1 e1).1
            have cell : ∀ i y, as1[im.base + (o + i)]? = some y → w.cell? ⟨im.cb, im.base + o + i, none⟩ = some y := fun i y hy => by
              rw [cell_blk e1, Nat.add_assoc]; exact hy
            obtain ⟨_, y0, hy0, hR0⟩ := e4 (o + 0) _ (by omega) (hget 0 _ rfl)
            obtain ⟨_, y1, hy1, hR1⟩ := e4 (o + 1) _ (by omega) (hget 1 _ rfl)
            obtain ⟨_, y2, hy2, hR2⟩ := e4 (o + 2) _ (by omega) (hget 2 _ rfl)
            obtain ⟨_, y3, hy3, hR3⟩ := e4 (o + 3) _ (by omega) (hget 3 _ rfl)
            have c0 := cell 0 _ hy0
            have c1 := cell 1 _ hy1
            have c2 := cell 2 _ hy2
            have c3 := cell 3 _ hy3
            cases hR0
            cases hR1
            cases hR2 with
            | str s2 _ hs2 =>
            obtain ⟨a3, l3, c3', rfl⟩ : ∃ a3 l3 c3, y3 = .slice a3 l3 c3 := by cases hR3 <;> exact ⟨_, _, _, rfl⟩
            have hsl : R ρ (.sl g vv o 1 4 c) (.slice (some ⟨im.cb, im.base + o, none⟩) 1 cap) := .sl _ _ _ _ _ _ im cap him hlc hsz hrm hcap
            refine (callsIn_wide.1 (Tryz.prune_in im.cb (im.base + o) cap d x0 x1 s2 a3 l3 c3' w hcbl hd c0 c1 c2 c3 ?_)).mono ?_
            · intro W mb hW hmb hblk
              have hs := below_same hW
              have hbool : RL ρ [AV.bool false] [Value.bool false] := .cons _ _ _ _ (.bool _) .nil
              obtain ⟨ρ1, a1, a2, a3⟩ := hr.adopt0 hs hmb hblk (by intro o h1 h2; simp at h2) (l := [.bool false]) (by intro x hx; simp at hx; subst hx; rfl) hbool (by
                intro j y hj
                cases j with
                | zero => simpa using hj
                | succ j => simp at hj)
              have a4 : Rel ρ1 ⟨H.next + 1, H.t.set H.next (blkOf [.bool false]), []⟩ W := a1.log
              have hsl1 := R.mono a2.le hsl
              have hmk : R ρ1 (.sl H.next 0 0 1 1 none) (.slice (some ⟨mb, 0, none⟩) 1 1) := by
                have := R.sl (ρ := ρ1) H.next 0 0 1 1 none _ 1 a3 (Nat.le_refl _) (by simp) (by simp [Img.room]) (by intro n hn; cases hn)
                simpa using this
              obtain ⟨_, q⟩ := sub_call (runF_ok noHooks_ok noHooks_log 4) hp rfl (fun g b hg hm => by
                have h1 := a4.below g b hg
                have h2 := allGe_ok hge g hm
                have h3 : g < H.next + 1 := h1
                omega) a4 (args := #[.slice (some ⟨im.cb, im.base + o, none⟩) 1 cap, .slice (some ⟨mb, 0, none⟩) 1 1]) (.cons _ _ _ _ hsl1 (.cons _ _ _ _ hmk .nil))
              refine callsIn_wide.2 (q.mono ?_)
              rintro e W' ⟨ρ2, y, rfl, r1, r2, r3, r4⟩
              cases r1
              exact ⟨rfl, same_below r3⟩
            · rintro e W' ⟨rfl, hB⟩
              obtain ⟨a1, a2⟩ := hr.stay (below_same hB)
              exact ⟨ρ, _, rfl, .nils, a1, a2⟩
          · cases hl
        · cases h
      · cases h
    · cases h
end Go.Proofs.YtllfnhapnndngaaGreatDoor.E
