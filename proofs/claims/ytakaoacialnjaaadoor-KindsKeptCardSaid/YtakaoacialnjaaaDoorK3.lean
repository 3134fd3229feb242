import Derived.Test.YtakaoacialnjaaaDoorK2
namespace Go.Proofs.YtakaoacialnjaaaDoor
open Go Go.RowKit
set_option linter.unusedVariables false
theorem isres_any (w : World) (s : ByteArray) (h : ResTab w 2) : Calls Tryd.prog 64 #[.string s] w fun e w' => e = .returned (.bool (isResB s.data.toList)) ∧ w = w' := by
  go_enter Tryd.func64, Tryd.ntmps64
  go_wp2_with fail
  refine (word_any _ _ h).mono ?_
  rintro e w' ⟨⟨v, rfl, h1, h2⟩, rfl⟩
  rw [ByteArray.toList_eq] at h1 h2
  cases hr : isResB s.data.toList <;> rw [hr] at h1 h2 <;> simp only [Bool.not_false, Bool.not_true] at h1 h2
  all_goals
    have HR := Lib.hid hr
    clear hr
    go_wp2
    go_ret
    exact ⟨ret_bool HR.out.symm, rfl⟩
set_option maxHeartbeats 1000000 in
theorem refisres_any (w : World) (s : ByteArray) (h : ResTab w 1) : Calls Tryd.prog 66 #[.string s] w fun e w' => e = .returned (.bool (isResB s.data.toList)) ∧ w = w' := by
  have HT := Lib.hid h
  clear h
  go_enter Tryd.func66, Tryd.ntmps66
  go_wp2
  go_loop [3] (fun i => ∃ k : Nat, k ≤ 35 ∧ i = .int .i64 k ∧ (resL.take k).any (· == s.toList) = false) (fun i => 35 - (intOf i).toNat)
  case atStart => exact ⟨0, by omega, rfl, rfl⟩
  case round =>
    obtain ⟨k, hk, rfl, ha⟩ := hrel
    have HA := Lib.hid ha
    clear ha
    by_cases hlt : k < 35
    · have hc := HT.out k hlt
      have hltI : (k : Int) < 35 := by omega
      cases hw : ((resS k).toList == s.toList) with
      | true =>
        have HW := Lib.hid (isRes_yes k hlt hw)
        go_wp2
        go_ret
        exact ⟨ret_bool (by have := HW.out; rw [ByteArray.toList_eq] at this; exact this.symm), rfl⟩
      | false =>
        have HW := Lib.hid (isRes_take k hlt HA.out hw)
        go_wp2
        go_round
        case rel => exact ⟨k + 1, by omega, by go_num, HW.out⟩
        case measure => simp [intOf]; omega
    · have hltI : ¬ (k : Int) < 35 := by omega
      have HW := Lib.hid (show isResB s.toList = false by
        have := HA.out
        rwa [List.take_of_length_le (show resL.length ≤ k by have : resL.length = 35 := rfl; omega)] at this)
      go_wp2
      go_ret
      exact ⟨ret_bool (by have := HW.out; rw [ByteArray.toList_eq] at this; exact this.symm), rfl⟩
/-- Is it a name? -/
def legalB (l : List UInt8) : Bool := nameB l && !isResB l
theorem legal_any (w : World) (s : ByteArray) (hs : s.size ≤ maxLen) (h : ResTab w 2) : Calls Tryd.prog 60 #[.string s] w fun e w' => e = .returned (.bool (legalB s.data.toList)) ∧ w = w' := by
  go_enter Tryd.func60, Tryd.ntmps60
  go_wp2_with (first | (go_at_call 63; refine (starts_any _ _ hs).mono ?_; rintro e w' ⟨rfl, rfl⟩) | (go_at_call 64; refine (isres_any _ _ h).mono ?_; rintro e w' ⟨rfl, rfl⟩))
  all_goals go_ret
  all_goals exact ⟨ret_bool (by simp_all [legalB]), rfl⟩
theorem reflegal_any (w : World) (s : ByteArray) (hs : s.size ≤ maxLen) (h : ResTab w 1) : Calls Tryd.prog 62 #[.string s] w fun e w' => e = .returned (.bool (legalB s.data.toList)) ∧ w = w' := by
  go_enter Tryd.func62, Tryd.ntmps62
  go_wp2_with (first | (go_at_call 65; refine (refstarts_any _ _ hs).mono ?_; rintro e w' ⟨rfl, rfl⟩) | (go_at_call 66; refine (refisres_any _ _ h).mono ?_; rintro e w' ⟨rfl, rfl⟩))
  all_goals go_ret
  all_goals exact ⟨ret_bool (by simp_all [legalB]), rfl⟩
end Go.Proofs.YtakaoacialnjaaaDoor
