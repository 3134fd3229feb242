import Derived.Test.YtcnckjlmldnblaaDoorE47
import Derived.Test.YtcnckjlmldnblaaDoorE4
import Derived.BigGuardPart
namespace Go.Proofs.YtcnckjlmldnblaaDoor
open Go Go.RowKit
set_option linter.unusedVariables false
set_option linter.unusedSimpArgs false
set_option maxRecDepth 100000 in
set_option maxHeartbeats 4000000 in
theorem in_any (w : World) (a : Option Addr) (n c : Nat) (l : List ByteArray) (hl : RS 1 Sv w a n c l) (x : ByteArray) :
    Calls Tryd.prog 20 #[.slice a n c, .string x] w fun e w' => e = .returned (.bool (inSS l x)) ∧ w' = w := by
  have HL := Lib.hid hl
  have HLN := Lib.hid hl.1
  have hn48 := hl.2.2.1
  clear hl
  go_enter Tryd.func20, Tryd.ntmps20
  go_wp2_with fail
  go_loop [5] (fun i => ∃ k : Nat, k ≤ n ∧ i = .int .i64 k ∧ ∀ (j : Nat) (y : ByteArray), j < k → l[j]? = some y → (y.toList == x.toList) = false) (fun i => n - (intOf i).toNat)
  case atStart => exact ⟨0, by omega, rfl, fun j y h => by omega⟩
  case round =>
    obtain ⟨k, hk, rfl, hne⟩ := hrel
    have HNE := Lib.hid hne
    clear hne
    by_cases hlt : k < n
    · have hltI : (k : Int) < (n : Int) := by omega
      obtain ⟨b, o, y, rfl, hy, hcl⟩ := HL.out.at hlt
      have c0 := hcl 0 _ rfl
      simp only [Nat.add_zero, Nat.mul_one] at c0
      have HY := Lib.hid hy
      clear hy hcl
      cases hm : (y.toList == x.toList)
      · have HM := Lib.hid hm
        go_wp2_with fail
        go_round
        case rel => exact ⟨k + 1, by omega, by go_num, fun j z hj hz => by
          by_cases e : j = k
          · subst e
            rw [HY.out] at hz
            cases hz
            exact HM.out
          · exact HNE.out j z (by omega) hz⟩
        case measure => simp [intOf]; omega
      · have HS := Lib.hid (show inSS l x = true by
          unfold inSS
          exact List.any_eq_true.2 ⟨y, List.mem_of_getElem? HY.out, hm⟩)
        go_wp2_with fail
        go_ret
        exact ⟨ret_bool HS.out.symm, rfl⟩
    · have hltI : ¬ (k : Int) < (n : Int) := by omega
      have HS := Lib.hid (show inSS l x = false by
        unfold inSS
        rw [List.any_eq_false]
        intro y hy
        obtain ⟨j, hj⟩ := List.getElem?_of_mem hy
        have := HNE.out j y (by have := (List.getElem?_eq_some_iff.1 hj).1; have := HLN.out; omega) hj
        simpa using this)
      go_wp2_with fail
      go_ret
      exact ⟨ret_bool HS.out.symm, rfl⟩
set_option maxRecDepth 100000 in
set_option maxHeartbeats 4000000 in
theorem among_any (w : World) (a : Option Addr) (n c : Nat) (l : List ByteArray) (hl : RS 1 Sv w a n c l) (x : ByteArray) :
    Calls Tryd.prog 45 #[.slice a n c, .string x] w fun e w' => e = .returned (.bool (inSS l x)) ∧ w' = w := by
  have HL := Lib.hid hl
  have HLN := Lib.hid hl.1
  have hn48 := hl.2.2.1
  clear hl
  go_enter Tryd.func45, Tryd.ntmps45
  go_wp2_with fail
  go_loop [5] (fun i => ∃ k : Nat, k ≤ n ∧ i = .int .i64 k ∧ ∀ (j : Nat) (y : ByteArray), j < k → l[j]? = some y → (y.toList == x.toList) = false) (fun i => n - (intOf i).toNat)
  case atStart => exact ⟨0, by omega, rfl, fun j y h => by omega⟩
  case round =>
    obtain ⟨k, hk, rfl, hne⟩ := hrel
    have HNE := Lib.hid hne
    clear hne
    by_cases hlt : k < n
    · have hltI : (k : Int) < (n : Int) := by omega
      obtain ⟨b, o, y, rfl, hy, hcl⟩ := HL.out.at hlt
      have c0 := hcl 0 _ rfl
      simp only [Nat.add_zero, Nat.mul_one] at c0
      have HY := Lib.hid hy
      clear hy hcl
      cases hm : (y.toList == x.toList)
      · have HM := Lib.hid hm
        go_wp2_with fail
        go_round
        case rel => exact ⟨k + 1, by omega, by go_num, fun j z hj hz => by
          by_cases e : j = k
          · subst e
            rw [HY.out] at hz
            cases hz
            exact HM.out
          · exact HNE.out j z (by omega) hz⟩
        case measure => simp [intOf]; omega
      · have HS := Lib.hid (show inSS l x = true by
          unfold inSS
          exact List.any_eq_true.2 ⟨y, List.mem_of_getElem? HY.out, hm⟩)
        go_wp2_with fail
        go_ret
        exact ⟨ret_bool HS.out.symm, rfl⟩
    · have hltI : ¬ (k : Int) < (n : Int) := by omega
      have HS := Lib.hid (show inSS l x = false by
        unfold inSS
        rw [List.any_eq_false]
        intro y hy
        obtain ⟨j, hj⟩ := List.getElem?_of_mem hy
        have := HNE.out j y (by have := (List.getElem?_eq_some_iff.1 hj).1; have := HLN.out; omega) hj
        simpa using this)
      go_wp2_with fail
      go_ret
      exact ⟨ret_bool HS.out.symm, rfl⟩
set_option maxRecDepth 100000 in
set_option maxHeartbeats 4000000 in
theorem within_any (w : World) (r : Int) (hr : I64 r) (n : Nat) (hn : 0 < n) (h48 : n ≤ 281474976710656) :
    Calls Tryd.prog 21 #[.int .i64 r, .int .i64 0, .int .i64 ((n : Int) - 1)] w fun e w' => (∃ q : Nat, q < n ∧ e = .returned (.int .i64 (q : Int))) ∧ w' = w := by
  have HR := Lib.hid hr
  clear hr
  by_cases h0 : 0 ≤ r
  · have h1 : (1 : Int) ≤ (n : Int) := by omega
    have m0 := Int.emod_nonneg r (show (n : Int) ≠ 0 by omega)
    have m1 := Int.emod_lt_of_pos r (show 0 < (n : Int) by omega)
    have HM := Lib.hid m0
    have HM1 := Lib.hid m1
    go_enter Tryd.func21, Tryd.ntmps21
    go_wp2
    all_goals (try go_big_false)
    go_ret
    exact ⟨⟨(r % (n : Int)).toNat, by omega, ret_intk (by have := HM.out; omega)⟩, rfl⟩
  · have hr := HR.out
    have m0 := (rest_sign r (n : Int)).2 (by omega)
    have m1 := (rest_lt (a := r) (b := (n : Int)) (by omega)).2
    have hz : ((n : Int) == 0) = false := by simp; omega
    have h1 : (1 : Int) ≤ (n : Int) := by omega
    have HM := Lib.hid m0
    have HM1 := Lib.hid m1
    obtain ⟨m, hm⟩ : ∃ m, m = r.tmod (n : Int) := ⟨_, rfl⟩
    have hm0 : m ≤ 0 := by rw [hm]; exact m0
    have hm1 : -(n : Int) < m := by rw [hm]; exact m1
    have hwm : wrap64 (r.tmod (n : Int)) = m := by rw [← hm]; exact wrap_in (by unfold I64; omega)
    have hmm := hm.symm
    clear hr m0 m1 hm
    go_enter Tryd.func21, Tryd.ntmps21
    go_wp2
    all_goals (try go_big_false)
    · go_ret
      exact ⟨⟨(m + (n : Int)).toNat, by omega, ret_intk (by have := HM.out; have := HM1.out; omega)⟩, rfl⟩
    · go_ret
      exact ⟨⟨m.toNat, by omega, ret_intk (by have := HM.out; have := HM1.out; omega)⟩, rfl⟩
end Go.Proofs.YtcnckjlmldnblaaDoor
