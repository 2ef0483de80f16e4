/- The contract of text.Unescape. -/
import Derived.Test.YtoccblnjalpcdaaD
import Derived.IntWalk
namespace Go.Proofs.Ytoccblnjalpcdaa
open Go.RowKit Go.Proofs.YtoccblnjalpcdaaW.PrintWords
set_option linter.unusedVariables false
set_option linter.unusedSimpArgs false

def hexIdx (c : Int) : Int := Lib.indexByte [48, 49, 50, 51, 52, 53, 54, 55, 56, 57, 97, 98, 99, 100, 101, 102] c.toNat.toUInt8
def unesc : List Int → List Int → Option (List Int)
  | [], out => some out
  | c :: r, out =>
    if plainB c then unesc r (out ++ [c])
    else if c = 92 then
      match r with
      | a :: b :: r' => if hexIdx a < 0 ∨ hexIdx b < 0 ∨ plainB (16 * hexIdx a + hexIdx b) = true then none else unesc r' (out ++ [16 * hexIdx a + hexIdx b])
      | _ => none
    else none
theorem indexByte_lt (l : List UInt8) (c : UInt8) (h : 0 < l.length) : Lib.indexByte l c < l.length := by
  induction l with
  | nil => simp at h
  | cons b l ih =>
    unfold Lib.indexByte
    split
    · simp
    · cases l with
      | nil => simp [Lib.indexByte]
      | cons b' l' =>
        have := ih (by simp)
        simp only [List.length_cons] at this ⊢
        split <;> omega
theorem hexIdx_range (c : Int) : -1 ≤ hexIdx c ∧ hexIdx c ≤ 15 := by
  exact ⟨Lib.indexByte_ge _ _, Int.le_of_lt_add_one (indexByte_lt [48, 49, 50, 51, 52, 53, 54, 55, 56, 57, 97, 98, 99, 100, 101, 102] _ (by simp))⟩
theorem bytes_drop (s : ByteArray) (k : Nat) (h : k < s.size) : (bytesOf s).drop k = bt s k :: (bytesOf s).drop (k + 1) := by
  rw [List.drop_eq_getElem_cons (by rw [bytesOf_length]; exact h)]
  congr 1
  have := rd_bytesOf s k
  rw [← this]
  simp [rd, List.getD_eq_getElem?_getD, List.getElem?_eq_getElem (show k < (bytesOf s).length by rw [bytesOf_length]; exact h)]
theorem bytes_drop_end (s : ByteArray) (k : Nat) (h : s.size ≤ k) : (bytesOf s).drop k = [] := List.drop_eq_nil_of_le (by rw [bytesOf_length]; exact h)
theorem or_hex (x y : Int) (h0 : 0 ≤ x) (h1 : x ≤ 15) (h2 : 0 ≤ y) (h3 : y ≤ 15) : bits .or .i64 (x * 16) y = 16 * x + y := by
  have h : ∀ a b : Fin 16, bits .or .i64 ((a.val : Int) * 16) (b.val : Int) = 16 * (a.val : Int) + b.val := by decide
  obtain ⟨a, rfl⟩ := Int.eq_ofNat_of_zero_le h0
  obtain ⟨b, rfl⟩ := Int.eq_ofNat_of_zero_le h2
  exact h ⟨a, by omega⟩ ⟨b, by omega⟩

def unescRes (o : Option (List Int)) : Value := .tuple #[.string (strOfNums (o.getD [])), .bool o.isSome]

set_option maxHeartbeats 2000000 in
set_option maxRecDepth 100000 in
theorem unescape_any (s : ByteArray) (w : World) (hs : s.size ≤ 1000000) :
    Calls Try.prog 18 #[.string s] w fun e w' => e = .returned (unescRes (unesc (bytesOf s) [])) ∧ Below w.heap.size w w' := by
  generalize hR : unesc (bytesOf s) [] = R
  have HR := Lib.hid hR
  clear hR
  go_enter Try.func18, Try.ntmps18
  go_wp2
  go_loopw [4, 5] (fun v i wr => ∃ (k : Nat) (out : List Int), k ≤ s.size ∧ i = .int .i64 k ∧ out.length ≤ k ∧ OwnB w.heap.size w wr v out ∧ Hid (unesc ((bytesOf s).drop k) out = R)) (fun _ i _ => s.size - (intOf i).toNat)
  case atStart => exact ⟨0, [], by omega, rfl, by simp, ⟨own_nil _ _ _ _, Below.refl _ _⟩, HR.out⟩
  case round =>
    obtain ⟨k, out, hk, rfl, hlen, HO, HF⟩ := hrel
    have hle : w.heap.size ≤ wr.heap.size := HO.below.size
    by_cases hlt : k < s.size
    · have HD := Lib.hid (bytes_drop s k hlt)
      have hr := bt_range s k
      have hx0 : ((s[k]'hlt).toNat : Int) = bt s k := bt_at s k hlt
      obtain ⟨A, cap, rfl⟩ := own_slice HO.own
      have HF1 := HF.out
      rw [HD.out] at HF1
      unfold unesc at HF1
      generalize hc0 : bt s k = c at *
      clear hc0
      generalize hp : plainB c = b at *
      have HP := Lib.hid hp
      clear hp
      cases b
      · rw [if_neg (by simp)] at HF1
        by_cases h92 : c = 92
        · subst h92
          rw [if_pos rfl] at HF1
          by_cases h3 : s.size - k < 3
          · have h3' : (s.size : Int) - k < 3 := by omega
            have HN : Hid (R = none) := by
              show _ = _
              rw [← HF1]
              have hl : ((bytesOf s).drop (k + 1)).length < 2 := by rw [List.length_drop, bytesOf_length]; omega
              revert hl
              cases (bytesOf s).drop (k + 1) with
              | nil => intro _; rfl
              | cons a r => cases r with
                | nil => intro _; rfl
                | cons b r => intro hl; simp at hl; omega
            clear HF1
            go_wp2_with (first | (go_at_call 30; refine (plain_any _ _).mono ?_; rintro e w' ⟨rfl, rfl⟩; rw [HP.out]))
            go_ret2
            exact ⟨by rw [HN.out]; rfl, HO.below⟩
          · have h3' : ¬ (s.size : Int) - k < 3 := by omega
            have e1 : k + 1 < s.size := by omega
            have e2 : k + 2 < s.size := by omega
            have hx1 : ((s[k + 1]'e1).toNat : Int) = bt s ((k + 1 : Nat) : Int) := bt_at s ((k + 1 : Nat) : Int) e1
            have hx2 : ((s[k + 2]'e2).toNat : Int) = bt s ((k + 2 : Nat) : Int) := bt_at s ((k + 2 : Nat) : Int) e2
            rw [bytes_drop s (k + 1) e1, bytes_drop s (k + 1 + 1) e2] at HF1
            simp only [] at HF1
            generalize bt s ((k + 1 : Nat) : Int) = c1 at *
            rw [show ((k + 1 + 1 : Nat) : Int) = ((k + 2 : Nat) : Int) from rfl] at HF1
            generalize bt s ((k + 2 : Nat) : Int) = c2 at *
            have i1 := hexIdx_range c1
            have i2 := hexIdx_range c2
            have HI1 : Hid (Lib.indexByte [48, 49, 50, 51, 52, 53, 54, 55, 56, 57, 97, 98, 99, 100, 101, 102] c1.toNat.toUInt8 = hexIdx c1) := rfl
            have HI2 : Hid (Lib.indexByte [48, 49, 50, 51, 52, 53, 54, 55, 56, 57, 97, 98, 99, 100, 101, 102] c2.toNat.toUInt8 = hexIdx c2) := rfl
            generalize hexIdx c1 = x at *
            generalize hexIdx c2 = y at *
            have HF2 := Lib.hid HF1
            clear HF1
            go_wp2_with (first | (go_at_call 30; refine (plain_any _ _).mono ?_; rintro e w' ⟨rfl, rfl⟩; rw [HP.out]))
            have s1 : IntKind.i64.wrap ((k : Int) + 1) = k + 1 := IntWalk.i64_in _ (by omega)
            have s2 : IntKind.i64.wrap ((k : Int) + 2) = k + 2 := IntWalk.i64_in _ (by omega)
            have s3 : 0 ≤ (k : Int) + 1 := by omega
            have s4 : 0 ≤ (k : Int) + 2 := by omega
            have s5 : ((k : Int) + 1).toNat = k + 1 := by omega
            have s6 : ((k : Int) + 2).toNat = k + 2 := by omega
            have s7 : (k : Int) + 1 < s.size := by omega
            have s8 : (k : Int) + 2 < s.size := by omega
            go_quiet ((go_at_call 25; exact Calls.quiet_of_same (Try.strings_IndexByte _ _ _)))
            clear s1 s2 s5 s6
            simp only [HI1.out, HI2.out]
            have hdr := HO
            by_cases hx : x < 0
            · have HN : Hid (none = R) := by show _ = _; rw [← HF2.out, if_pos (.inl hx)]
              go_wp2
              go_ret2
              exact ⟨by rw [← HN.out]; rfl, by repeat (first | exact HO.below | apply pw_below_drewN | apply below_drew)⟩
            by_cases hy : y < 0
            · have HN : Hid (none = R) := by show _ = _; rw [← HF2.out, if_pos (.inr (.inl hy))]
              go_wp2
              go_ret2
              exact ⟨by rw [← HN.out]; rfl, by repeat (first | exact HO.below | apply pw_below_drewN | apply below_drew)⟩
            have x0 : 0 ≤ x := by omega
            have y0 : 0 ≤ y := by omega
            have hor := or_hex x y x0 i1.2 y0 i2.2
            have hm : (16 * x + y) % 256 = 16 * x + y := by omega
            generalize hv : 16 * x + y = v at *
            clear hv
            generalize hpv : plainB v = b at *
            have HPV := Lib.hid hpv
            clear hpv hx hy
            cases b
            · have HF3 : Hid (unesc (List.drop (k + 1 + 1 + 1) (bytesOf s)) (out ++ [v]) = R) := by
                show _ = _; rw [← HF2.out, if_neg (by rintro (h | h | h); omega; omega; simp at h)]
              clear HF2
              have HOd : OwnB w.heap.size w (wr.drewN nq) (.slice A out.length cap) out := ⟨HO.own, pw_below_drewN HO.below _⟩
              go_wp2_with (first | (go_at_call 30; refine (plain_any _ _).mono ?_; rintro e w' ⟨rfl, rfl⟩; rw [HPV.out]) | (at_builtin; refine app1 w.heap.size rfl (.tmp 59) (.tmp 65) rfl (.slice A out.length cap) out v rfl rfl HOd hle (by omega) ?_; intro v1 w1 HO1 hz1))
              go_roundw
              case rel => exact ⟨k + 3, _, by omega, by go_num, by simp; omega, HO1, HF3⟩
              case measure => simp [intOf]; omega
            · have HN : Hid (none = R) := by show _ = _; rw [← HF2.out, if_pos (.inr (.inr rfl))]
              clear HF2
              go_wp2_with (first | (go_at_call 30; refine (plain_any _ _).mono ?_; rintro e w' ⟨rfl, rfl⟩; rw [HPV.out]))
              go_ret2
              exact ⟨by rw [← HN.out]; rfl, by repeat (first | exact HO.below | apply pw_below_drewN | apply below_drew)⟩
        · rw [if_neg h92] at HF1
          have h92' : (c == 92) = false := beq_eq_false_iff_ne.2 h92
          have h92'' : (c != 92) = true := bne_iff_ne.2 h92
          have HN := Lib.hid HF1
          clear HF1 h92
          go_wp2_with (first | (go_at_call 30; refine (plain_any _ _).mono ?_; rintro e w' ⟨rfl, rfl⟩; rw [HP.out]))
          go_ret2
          exact ⟨by rw [← HN.out]; rfl, HO.below⟩
      · rw [if_pos rfl] at HF1
        have HF2 := Lib.hid HF1
        clear HF1
        go_wp2_with (first | (go_at_call 30; refine (plain_any _ _).mono ?_; rintro e w' ⟨rfl, rfl⟩; rw [HP.out]) | (at_builtin; refine app1 w.heap.size rfl (.tmp 18) (.tmp 22) rfl (.slice A out.length cap) out c rfl rfl HO hle (by omega) ?_; intro v1 w1 HO1 hz1))
        go_roundw
        case rel => exact ⟨k + 1, _, by omega, by go_num, by simp; omega, HO1, HF2⟩
        case measure => simp [intOf]; omega
    · have HC := own_string (P := Try.prog) Try.underlying22 Try.underlying5 Try.underlying9 HO.own
      go_wp2
      go_ret2
      obtain rfl : k = s.size := by omega
      refine ⟨?_, HO.below⟩
      rw [← HF.out, bytes_drop_end s _ (Nat.le_refl _)]; rfl
end Go.Proofs.Ytoccblnjalpcdaa
