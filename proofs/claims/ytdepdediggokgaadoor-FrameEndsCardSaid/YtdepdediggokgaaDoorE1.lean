import Derived.Test.YtdepdediggokgaaDoorB5
import Derived.Test.YtdepdediggokgaaDoorP2
namespace Go.Proofs.YtdepdediggokgaaDoor
open Go.RowKit
set_option linter.unusedVariables false
/-- Is one a beginning of the other? -/
def beginsB (a b : List UInt8) : Bool := a.take b.length == b.take a.length
theorem begins_iff (a b : List UInt8) : beginsB a b = true ↔ ∀ i, i < a.length → i < b.length → a[i]? = b[i]? := by
  unfold beginsB
  rw [beq_iff_eq]
  constructor
  · intro h i h1 h2
    have := congrArg (fun l => l[i]?) h
    simpa [List.getElem?_take, h1, h2] using this
  · intro h
    apply List.ext_getElem?
    intro i
    by_cases h1 : i < a.length
    · by_cases h2 : i < b.length
      · simp only [List.getElem?_take, h1, h2, if_true]
        exact h i h1 h2
      · rw [List.getElem?_eq_none (by simp; omega), List.getElem?_eq_none (by simp; omega)]
    · rw [List.getElem?_eq_none (by simp; omega), List.getElem?_eq_none (by simp; omega)]
set_option maxHeartbeats 400000 in
theorem begins_any (w : World) (a1 a2 : Option Addr) (n1 n2 c1 c2 : Nat) (l1 l2 : List UInt8) (h1 : R8 w a1 n1 c1 l1) (h2 : R8 w a2 n2 c2 l2) (r : Bool) (hr : beginsB l1 l2 = r) :
    Calls Tryd.prog 48 #[.slice a1 n1 c1, .slice a2 n2 c2] w fun e w' => e = .returned (.bool r) ∧ ∃ n, w' = w.drewN n := by
  have hm1 : n1 ≤ 281474976710656 := h1.2.2.1
  have hm2 : n2 ≤ 281474976710656 := h2.2.2.1
  have E1 := Lib.hid h1.1
  have E2 := Lib.hid h2.1
  have Hr := Lib.hid hr; clear hr
  go_enter Tryd.func48, Tryd.ntmps48
  go_wp2
  go_loopw [5] (fun i wr => ∃ k : Nat, k ≤ n1 ∧ k ≤ n2 ∧ i = .int .i64 k ∧ (∀ j, j < k → l1[j]? = l2[j]?) ∧ ∃ n, wr = w.drewN n) (fun i _ => n1 - (intOf i).toNat)
  case atStart => exact ⟨0, by omega, by omega, rfl, by intro j hj; omega, 0, rfl⟩
  case round =>
    obtain ⟨k, hk1, hk2, rfl, heq, n, rfl⟩ := hrel
    have Heq := Lib.hid heq; clear heq
    by_cases hlt1 : k < n1
    · by_cases hlt2 : k < n2
      · obtain ⟨b1, o1, x1, rfl, hl1, hc1⟩ := h1.at hlt1
        obtain ⟨b2, o2, x2, rfl, hl2, hc2⟩ := h2.at hlt2
        have hb := bne_u8 x1 x2
        have hb' := bne_u8' x1 x2
        clear h1 h2
        by_cases hx : x1 = x2
        · subst hx
          have heq' : ∀ j, j < k + 1 → l1[j]? = l2[j]? := by
            intro j hj
            by_cases e : j = k
            · rw [e, hl1, hl2]
            · exact Heq.out j (by omega)
          have HL := Lib.hid heq'
          clear hl1 hl2 Heq hb hb' heq'
          go_wp2
          go_quiet (fail)
          go_wp2
          go_roundw
          case rel => exact ⟨k+1, by omega, by omega, by go_num, HL.out, _, rfl⟩
          case measure => simp [intOf]; omega
        · have hr' : r = false := by
            rw [← Hr.out, Bool.eq_false_iff, Ne, begins_iff]
            intro h
            have := h k (by rw [E1.out]; exact hlt1) (by rw [E2.out]; exact hlt2)
            rw [hl1, hl2] at this
            exact hx (Option.some.inj this)
          subst hr'
          have hx' : (x1 == x2) = false := by simpa using hx
          rw [hx'] at hb hb'
          clear hl1 hl2 Heq hx' Hr
          go_wp2
          go_quiet (fail)
          go_wp2
          go_ret
          exact ⟨rfl, _, World.drewN_drewN _ _ _⟩
      · have hr' : r = true := by
          rw [← Hr.out, begins_iff]
          exact fun i h1 h2 => Heq.out i (by rw [E2.out] at h2; omega)
        subst hr'
        clear Hr Heq h1 h2
        go_wp2
        go_ret
        exact ⟨rfl, _, rfl⟩
    · have hr' : r = true := by
        rw [← Hr.out, begins_iff]
        exact fun i h1 h2 => Heq.out i (by rw [E1.out] at h1; omega)
      subst hr'
      clear Hr Heq h1 h2
      go_wp2
      go_ret
      exact ⟨rfl, _, rfl⟩

/-! The plain law: the reference's tests are the program's. -/
def headL (q : Nat) : List UInt8 := [209] ++ be 4 q ++ be 4 (crc ([209] ++ be 4 q)).toNat
theorem begins_app {a b t : List UInt8} : beginsB (a ++ b) (a ++ t) = beginsB b t := by
  rw [Bool.eq_iff_iff, begins_iff, begins_iff]
  constructor
  · intro h i h1 h2
    have := h (a.length + i) (by simp; omega) (by simp; omega)
    simpa [List.getElem?_append_right] using this
  · intro h i h1 h2
    by_cases e : i < a.length
    · rw [List.getElem?_append_left e, List.getElem?_append_left e]
    · rw [List.getElem?_append_right (by omega), List.getElem?_append_right (by omega)]
      simp at h1 h2
      exact h _ (by omega) (by omega)
theorem begins_right (x : List UInt8) (y : UInt32) : beginsB (be 4 y.toNat) x = rightB x y := by
  unfold beginsB rightB
  rw [be_len, Bool.eq_iff_iff, beq_iff_eq, beq_iff_eq]
  exact eq_comm
theorem begins_head (l : List UInt8) (h0 : l.getD 0 0 = 209) (h5 : 5 < l.length) : beginsB (headL (lenL l)) l = rightB (l.drop 5) (crc (l.take 5)) := by
  have ht := head5 l h0 (by omega)
  have e : ([209] ++ be 4 (lenL l)).take l.length = [209] ++ be 4 (lenL l) := List.take_of_length_le (by simp [be_len]; omega)
  rw [e] at ht
  have hl : l = ([209] ++ be 4 (lenL l)) ++ l.drop 5 := by rw [← ht, List.take_append_drop]
  rw [ht]
  generalize lenL l = q at *
  generalize l.drop 5 = x at *
  subst hl
  rw [headL, begins_app, begins_right]
theorem begins_whole (l : List UInt8) (n : Nat) (h0 : l.getD 0 0 = 209) (hh : rightB (l.drop 5) (crc (l.take 5)) = true) (hl : 9 + lenL l ≤ l.length) :
    beginsB (packL n ((l.drop 9).take (lenL l))) l = rightB (l.drop (9 + lenL l)) (crc (be 8 n ++ (l.drop 9).take (lenL l))) := by
  have ht := head5 l h0 (by omega)
  have e : ([209] ++ be 4 (lenL l)).take l.length = [209] ++ be 4 (lenL l) := List.take_of_length_le (by simp [be_len]; omega)
  rw [e] at ht
  rw [ht, right_iff] at hh
  rw [show (be 4 (crc ([209] ++ be 4 (lenL l))).toNat).take (l.drop 5).length = be 4 (crc ([209] ++ be 4 (lenL l))).toNat from List.take_of_length_le (by simp [be_len]; omega)] at hh
  have hp : ((l.drop 9).take (lenL l)).length = lenL l := by simp; omega
  have h2 : l = ([209] ++ be 4 (lenL l) ++ be 4 (crc ([209] ++ be 4 (lenL l))).toNat ++ (l.drop 9).take (lenL l)) ++ l.drop (9 + lenL l) := by
    rw [← List.drop_drop, List.append_assoc, List.take_append_drop, ← hh, show 9 = 5 + 4 from rfl, ← List.drop_drop, List.append_assoc, List.take_append_drop, ← ht, List.take_append_drop]
  rw [packL, hp]
  generalize (l.drop 9).take (lenL l) = p at *
  generalize l.drop (9 + lenL l) = x at *
  generalize lenL l = q at *
  clear hh ht e
  subst h2
  rw [begins_app, begins_right]
end Go.Proofs.YtdepdediggokgaaDoor
