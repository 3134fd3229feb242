import Derived.Test.YtakaoacialnjaaaDoorChecked
import Derived.WalkKit
import Derived.WalkSpells
import Derived.BigQuiet
import Derived.Deep.QuietTactic
import Derived.Lib.Hide
import Derived.Deep.RegionHeld3
import Derived.Deep.DeepCutAuto
import Derived.Deep.CutBlock
namespace Go.Proofs.YtakaoacialnjaaaDoor
open Go Go.RowKit
set_option linter.unusedVariables false
theorem ret_bool {a b : Bool} (h : a = b) : Ending.returned (Value.bool a) = Ending.returned (Value.bool b) := by rw [h]
theorem ret_intk {k : IntKind} {a b : Int} (h : a = b) : Ending.returned (Value.int k a) = Ending.returned (Value.int k b) := by rw [h]
theorem below_drewN {B : Nat} {a w : World} (h : Below B a w) (n : Nat) : Below B a (w.drewN n) := h.trans ⟨rfl, rfl, rfl, Nat.le_refl _, fun _ _ => rfl⟩
/-- The tables. -/
def NoTab (w : World) : Prop := w.cell? ⟨0, 0, none⟩ = some (.int .i64 0) ∧ w.cell? ⟨0, 1, none⟩ = some (.bool true)
/-- May something of a kind be laid where another one is wanted? -/
def fitsB (a : Int) (ao : Bool) (b : Int) (bo : Bool) : Bool := if a = 0 ∧ ao = true then bo else (a == b) && (bo || !ao)
set_option maxHeartbeats 1000000 in
theorem fits_any (w : World) (a b : Int) (ao bo : Bool) (ht : NoTab w) (h0 : 0 < w.heap.size) :
    Calls Tryd.prog 28 #[.agg #[.int .i64 a, .bool ao], .agg #[.int .i64 b, .bool bo]] w fun e w' => e = .returned (.bool (fitsB a ao b bo)) ∧ Below w.heap.size w w' := by
  obtain ⟨t0, t1⟩ := ht
  go_enter Tryd.func28, Tryd.ntmps28
  go_wp2
  all_goals go_ret
  all_goals exact ⟨ret_bool (by simp_all [fitsB] <;> try omega), ((Below.refl _ _).alloc (Nat.le_refl _) _).alloc (by simp) _⟩
set_option maxHeartbeats 1000000 in
theorem reffits_any (w : World) (a b : Int) (ao bo : Bool) :
    Calls Tryd.prog 29 #[.agg #[.int .i64 a, .bool ao], .agg #[.int .i64 b, .bool bo]] w fun e w' => e = .returned (.bool (fitsB a ao b bo)) ∧ Below w.heap.size w w' := by
  go_enter Tryd.func29, Tryd.ntmps29
  go_wp2
  all_goals go_ret
  all_goals exact ⟨ret_bool (by simp_all [fitsB] <;> try omega), ((Below.refl _ _).alloc (Nat.le_refl _) _).alloc (by simp) _⟩

def letterB (c : UInt8) : Bool := decide (97 ≤ (c.toNat : Int)) && decide ((c.toNat : Int) ≤ 122)
def digitB (c : UInt8) : Bool := decide (48 ≤ (c.toNat : Int)) && decide ((c.toNat : Int) ≤ 57)
def wordB (c : UInt8) : Bool := letterB c || digitB c || ((c.toNat : Int) == 95)
theorem letter_any (w : World) (c : UInt8) : Calls Tryd.prog 67 #[.int .u8 (c.toNat : Int)] w fun e w' => e = .returned (.bool (letterB c)) ∧ w = w' := by
  go_enter Tryd.func67, Tryd.ntmps67
  go_wp2
  all_goals go_ret
  all_goals exact ⟨ret_bool (by simp_all [letterB] <;> try omega), rfl⟩
theorem refletter_any (w : World) (c : UInt8) : Calls Tryd.prog 70 #[.int .u8 (c.toNat : Int)] w fun e w' => e = .returned (.bool (letterB c)) ∧ w = w' := by
  go_enter Tryd.func70, Tryd.ntmps70
  go_wp2
  all_goals go_ret
  all_goals exact ⟨ret_bool (by simp_all [letterB] <;> try omega), rfl⟩
theorem digit_any (w : World) (c : UInt8) : Calls Tryd.prog 72 #[.int .u8 (c.toNat : Int)] w fun e w' => e = .returned (.bool (digitB c)) ∧ w = w' := by
  go_enter Tryd.func72, Tryd.ntmps72
  go_wp2
  all_goals go_ret
  all_goals exact ⟨ret_bool (by simp_all [digitB] <;> try omega), rfl⟩
theorem refdigit_any (w : World) (c : UInt8) : Calls Tryd.prog 73 #[.int .u8 (c.toNat : Int)] w fun e w' => e = .returned (.bool (digitB c)) ∧ w = w' := by
  go_enter Tryd.func73, Tryd.ntmps73
  go_wp2
  all_goals go_ret
  all_goals exact ⟨ret_bool (by simp_all [digitB] <;> try omega), rfl⟩
set_option maxHeartbeats 1000000 in
theorem ofword_any (w : World) (c : UInt8) : Calls Tryd.prog 68 #[.int .u8 (c.toNat : Int)] w fun e w' => e = .returned (.bool (wordB c)) ∧ w = w' := by
  go_enter Tryd.func68, Tryd.ntmps68
  go_wp2_with (first | (go_at_call 67; refine (letter_any _ _).mono ?_; rintro e w' ⟨rfl, rfl⟩) | (go_at_call 72; refine (digit_any _ _).mono ?_; rintro e w' ⟨rfl, rfl⟩))
  all_goals go_ret
  all_goals exact ⟨ret_bool (by simp_all [wordB]), rfl⟩
set_option maxHeartbeats 1000000 in
theorem refword_any (w : World) (c : UInt8) : Calls Tryd.prog 71 #[.int .u8 (c.toNat : Int)] w fun e w' => e = .returned (.bool (wordB c)) ∧ w = w' := by
  go_enter Tryd.func71, Tryd.ntmps71
  go_wp2_with (first | (go_at_call 70; refine (refletter_any _ _).mono ?_; rintro e w' ⟨rfl, rfl⟩) | (go_at_call 73; refine (refdigit_any _ _).mono ?_; rintro e w' ⟨rfl, rfl⟩))
  all_goals go_ret
  all_goals exact ⟨ret_bool (by simp_all [wordB]), rfl⟩
/-- May a name begin with this run? -/
def nameB (l : List UInt8) : Bool := decide (0 < l.length) && decide (l.length ≤ 64) && letterB (l.getD 0 0) && l.all wordB
theorem take_snoc (s : ByteArray) (k : Nat) (h : k < s.size) : s.data.toList.take (k + 1) = s.data.toList.take k ++ [s[k]] := by
  rw [List.take_succ_eq_append_getElem (by simpa using h)]; rfl
theorem get_first (s : ByteArray) (h : 0 < s.size) : s.data.toList.getD 0 0 = s[0] := by
  have : 0 < s.data.toList.length := by simpa using h
  have e : s.data.toList[0]? = some s.data.toList[0] := List.getElem?_eq_getElem this
  rw [List.getD_eq_getElem?_getD, e]; rfl
theorem lenS (s : ByteArray) : s.data.toList.length = s.size := by simp
theorem all_false (s : ByteArray) (k : Nat) (h : k < s.size) (hw : wordB s[k] = false) : s.data.toList.all wordB = false := by
  have : s.data.toList = s.data.toList.take k ++ [s[k]] ++ s.data.toList.drop (k + 1) := by rw [← take_snoc s k h, List.take_append_drop]
  rw [this]; simp [hw]
set_option maxHeartbeats 1000000 in
theorem starts_any (w : World) (s : ByteArray) (hs : s.size ≤ maxLen) : Calls Tryd.prog 63 #[.string s] w fun e w' => e = .returned (.bool (nameB s.data.toList)) ∧ w = w' := by
  unfold maxLen at hs
  by_cases h0 : s.size = 0
  · go_enter Tryd.func63, Tryd.ntmps63
    go_wp2
    go_ret
    exact ⟨ret_bool (by simp [nameB, h0]), rfl⟩
  by_cases h1 : 64 < s.size
  · have h1' : (64 : Int) < (s.size : Int) := by omega
    go_enter Tryd.func63, Tryd.ntmps63
    go_wp2
    go_ret
    exact ⟨ret_bool (by rw [nameB, lenS, decide_eq_false (show ¬ s.size ≤ 64 by omega)]; simp), rfl⟩
  have h0' : 0 < s.size := by omega
  have hc0 : ((s.size : Int) == 0) = false := by simpa using h0
  have hg := get_first s h0'
  by_cases h2 : letterB s[0] = true
  · have h1' : ¬ (64 : Int) < (s.size : Int) := by omega
    have HG := Lib.hid hg
    have H2 := Lib.hid h2
    clear hg
    go_enter Tryd.func63, Tryd.ntmps63
    go_wp2_with (first | (go_at_call 67; refine (letter_any _ _).mono ?_; rintro e w' ⟨rfl, rfl⟩))
    go_loop [20] (fun i => ∃ k : Nat, k ≤ s.size ∧ i = .int .i64 k ∧ (s.data.toList.take k).all wordB = true) (fun i => s.size - (intOf i).toNat)
    case atStart => exact ⟨0, Nat.zero_le _, rfl, rfl⟩
    case round =>
      obtain ⟨k, hk, rfl, ha⟩ := hrel
      have HA := Lib.hid ha
      clear ha h2
      by_cases hlt : k < s.size
      · have hts := Lib.hid (take_snoc s k hlt)
        by_cases hw : wordB s[k] = true
        · go_wp2_with (first | (go_at_call 68; refine (ofword_any _ _).mono ?_; rintro e w' ⟨rfl, rfl⟩))
          go_round
          case rel => exact ⟨k + 1, by omega, by go_num, by rw [hts.out, List.all_append, HA.out]; simp [hw]⟩
          case measure => simp [intOf]; omega
        · have hw' : wordB s[k] = false := by simpa using hw
          have HW := Lib.hid (all_false s k hlt hw')
          clear hw
          go_wp2_with (first | (go_at_call 68; refine (ofword_any _ _).mono ?_; rintro e w' ⟨rfl, rfl⟩))
          go_ret
          exact ⟨ret_bool (by simp only [nameB, HW.out, Bool.and_false]), rfl⟩
      · go_wp2
        go_ret
        exact ⟨ret_bool (by
          have hA := HA.out
          rw [List.take_of_length_le (by simp; omega)] at hA
          rw [nameB, hA, HG.out, H2.out]; simp; omega), rfl⟩
  · have h2' : letterB s[0] = false := by simpa using h2
    have h1' : ¬ (64 : Int) < (s.size : Int) := by omega
    have HG := Lib.hid hg
    clear h2 hg
    go_enter Tryd.func63, Tryd.ntmps63
    go_wp2_with (first | (go_at_call 67; refine (letter_any _ _).mono ?_; rintro e w' ⟨rfl, rfl⟩))
    go_ret
    exact ⟨ret_bool (by rw [nameB, HG.out, h2']; simp), rfl⟩
end Go.Proofs.YtakaoacialnjaaaDoor
