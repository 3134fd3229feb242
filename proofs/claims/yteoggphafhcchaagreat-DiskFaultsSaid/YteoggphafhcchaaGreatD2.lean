import Derived.Test.YteoggphafhcchaaGreatD1
namespace Go.Proofs.YteoggphafhcchaaGreat
open Go Go.RowKit
set_option maxRecDepth 100000
set_option maxHeartbeats 4000000
set_option linter.unusedVariables false
set_option linter.unusedSimpArgs false
theorem ret_bool {a b : Bool} (h : a = b) : Ending.returned (Value.bool a) = Ending.returned (Value.bool b) := by rw [h]
theorem take_snoc (s : ByteArray) (k : Nat) (h : k < s.size) : s.data.toList.take (k + 1) = s.data.toList.take k ++ [s[k]] := by
  rw [List.take_succ_eq_append_getElem (by simpa using h)]; rfl
theorem lenS (s : ByteArray) : s.data.toList.length = s.size := by simp
theorem all_not (s : ByteArray) (k : Nat) (h : k < s.size) (hw : okC s[k] = false) : s.data.toList.all okC = false := by
  have : s.data.toList = s.data.toList.take k ++ [s[k]] ++ s.data.toList.drop (k + 1) := by rw [← take_snoc s k h, List.take_append_drop]
  rw [this]; simp [hw]
theorem head_is (s : ByteArray) (h : 0 < s.size) : s.data.toList.head? = some s[0] := by
  have hl : 0 < s.data.toList.length := by simpa using h
  rw [List.head?_eq_getElem?, List.getElem?_eq_getElem hl]; rfl
theorem legal_any (w : World) (s : ByteArray) (hs : s.size ≤ maxLen) : Calls Tryz.prog 62 #[.string s] w fun e w' => e = .returned (.bool (legalB s)) ∧ w' = w := by
  unfold maxLen at hs
  by_cases h0 : s.size = 0
  · obtain rfl : s = ByteArray.empty := by
      apply ByteArray.ext; apply Array.toList_inj.1
      exact List.eq_nil_of_length_eq_zero (by rw [lenS]; exact h0)
    go_enter Tryz.func62, Tryz.ntmps62
    go_wp2
    go_ret
    exact ⟨rfl, rfl⟩
  have hne : (s.toList == []) = false := by
    cases hd : s.toList with
    | nil =>
      exfalso; apply h0
      have h1 : s.data.toList = s.toList := by simp [ByteArray.toList_eq]
      have := lenS s
      rw [h1, hd] at this; simpa using this.symm
    | cons => rfl
  by_cases h1 : 32 < s.size
  · have h1' : (32 : Int) < (s.size : Int) := by omega
    go_enter Tryz.func62, Tryz.ntmps62
    go_wp2
    go_ret
    exact ⟨ret_bool (by rw [legalB, decide_eq_false (show ¬ s.size ≤ 32 by omega)]; simp), rfl⟩
  have h0' : 0 < s.size := by omega
  have h1' : ¬ (32 : Int) < (s.size : Int) := by omega
  have hg := head_is s h0'
  by_cases h2 : (s[0].toNat : Int) = 46
  · have h46 : ((s[0].toNat : Int) == 46) = true := by simp; omega
    have HG := Lib.hid (show legalB s = false by
      have : s[0] = 46 := by apply UInt8.toNat_inj.1; simp; omega
      rw [legalB, hg, this]; simp)
    clear hg h2
    go_enter Tryz.func62, Tryz.ntmps62
    go_wp2
    go_ret
    exact ⟨ret_bool HG.out.symm, rfl⟩
  · have h46 : ((s[0].toNat : Int) == 46) = false := by simp; omega
    have HG := Lib.hid (show legalB s = s.data.toList.all okC by
      have h3 : ¬ s[0] = 46 := fun e => h2 (by rw [e]; rfl)
      have h4 : s.data.toList ≠ [] := fun e => by have := lenS s; rw [e] at this; simp at this; omega
      have h5 : (s.data.toList == []) = false := by
        cases hl : s.data.toList with
        | nil => exact absurd hl h4
        | cons => rfl
      have h6 : (some s[0] == some (46 : UInt8)) = false := by simp [h3]
      rw [legalB, hg, decide_eq_true (show s.size ≤ 32 by omega), h5, h6]
      rfl)
    clear hg h2
    go_enter Tryz.func62, Tryz.ntmps62
    go_wp2
    go_loop [19] (fun i => ∃ k : Nat, k ≤ s.size ∧ i = .int .i64 k ∧ (s.data.toList.take k).all okC = true) (fun i => s.size - (intOf i).toNat)
    case atStart => exact ⟨0, Nat.zero_le _, rfl, rfl⟩
    case round =>
      obtain ⟨k, hk, rfl, ha⟩ := hrel
      have HA := Lib.hid ha
      clear ha
      by_cases hlt : k < s.size
      · have hts := Lib.hid (take_snoc s k hlt)
        have hcl : (97 ≤ (s[k].toNat : Int) ∧ (s[k].toNat : Int) ≤ 122) ∨ (48 ≤ (s[k].toNat : Int) ∧ (s[k].toNat : Int) ≤ 57) ∨ (s[k].toNat : Int) = 45 ∨ (s[k].toNat : Int) = 46 ∨ (s[k].toNat : Int) < 45 ∨ (s[k].toNat : Int) = 47 ∨ (58 ≤ (s[k].toNat : Int) ∧ (s[k].toNat : Int) < 97) ∨ 122 < (s[k].toNat : Int) := by omega
        rcases hcl with hcl | hcl | hcl | hcl | hcl | hcl | hcl | hcl
        · have g0 : ¬ (s[k].toNat : Int) < 97 := by omega
          have g1 : ¬ 122 < (s[k].toNat : Int) := by omega
          have g2 : ¬ (s[k].toNat : Int) < 48 := by omega
          have g3 : 57 < (s[k].toNat : Int) := by omega
          have g4 : ((s[k].toNat : Int) == 45) = false := by simp; omega
          have g6 : ((s[k].toNat : Int) != 45) = true := by simp; omega
          have g5 : ((s[k].toNat : Int) == 46) = false := by simp; omega
          have g7 : ((s[k].toNat : Int) != 46) = true := by simp; omega
          have hok : okC s[k] = true := by unfold okC; simp; omega
          have HOK := Lib.hid hok
          clear hok hcl
          go_wp2
          go_round
          case rel => exact ⟨k + 1, by omega, by go_num, by rw [hts.out, List.all_append, HA.out]; simp [HOK.out]⟩
          case measure => simp [intOf]; omega
        · have g0 : (s[k].toNat : Int) < 97 := by omega
          have g1 : ¬ 122 < (s[k].toNat : Int) := by omega
          have g2 : ¬ (s[k].toNat : Int) < 48 := by omega
          have g3 : ¬ 57 < (s[k].toNat : Int) := by omega
          have g4 : ((s[k].toNat : Int) == 45) = false := by simp; omega
          have g6 : ((s[k].toNat : Int) != 45) = true := by simp; omega
          have g5 : ((s[k].toNat : Int) == 46) = false := by simp; omega
          have g7 : ((s[k].toNat : Int) != 46) = true := by simp; omega
          have hok : okC s[k] = true := by unfold okC; simp; omega
          have HOK := Lib.hid hok
          clear hok hcl
          go_wp2
          go_round
          case rel => exact ⟨k + 1, by omega, by go_num, by rw [hts.out, List.all_append, HA.out]; simp [HOK.out]⟩
          case measure => simp [intOf]; omega
        · have g0 : (s[k].toNat : Int) < 97 := by omega
          have g1 : ¬ 122 < (s[k].toNat : Int) := by omega
          have g2 : (s[k].toNat : Int) < 48 := by omega
          have g3 : ¬ 57 < (s[k].toNat : Int) := by omega
          have g4 : ((s[k].toNat : Int) == 45) = true := by simp; omega
          have g6 : ((s[k].toNat : Int) != 45) = false := by simp; omega
          have g5 : ((s[k].toNat : Int) == 46) = false := by simp; omega
          have g7 : ((s[k].toNat : Int) != 46) = true := by simp; omega
          have hok : okC s[k] = true := by unfold okC; simp; omega
          have HOK := Lib.hid hok
          clear hok hcl
          go_wp2
          go_round
          case rel => exact ⟨k + 1, by omega, by go_num, by rw [hts.out, List.all_append, HA.out]; simp [HOK.out]⟩
          case measure => simp [intOf]; omega
        · have g0 : (s[k].toNat : Int) < 97 := by omega
          have g1 : ¬ 122 < (s[k].toNat : Int) := by omega
          have g2 : (s[k].toNat : Int) < 48 := by omega
          have g3 : ¬ 57 < (s[k].toNat : Int) := by omega
          have g4 : ((s[k].toNat : Int) == 45) = false := by simp; omega
          have g6 : ((s[k].toNat : Int) != 45) = true := by simp; omega
          have g5 : ((s[k].toNat : Int) == 46) = true := by simp; omega
          have g7 : ((s[k].toNat : Int) != 46) = false := by simp; omega
          have hok : okC s[k] = true := by unfold okC; simp; omega
          have HOK := Lib.hid hok
          clear hok hcl
          go_wp2
          go_round
          case rel => exact ⟨k + 1, by omega, by go_num, by rw [hts.out, List.all_append, HA.out]; simp [HOK.out]⟩
          case measure => simp [intOf]; omega
        · have g0 : (s[k].toNat : Int) < 97 := by omega
          have g1 : ¬ 122 < (s[k].toNat : Int) := by omega
          have g2 : (s[k].toNat : Int) < 48 := by omega
          have g3 : ¬ 57 < (s[k].toNat : Int) := by omega
          have g4 : ((s[k].toNat : Int) == 45) = false := by simp; omega
          have g6 : ((s[k].toNat : Int) != 45) = true := by simp; omega
          have g5 : ((s[k].toNat : Int) == 46) = false := by simp; omega
          have g7 : ((s[k].toNat : Int) != 46) = true := by simp; omega
          have hok : okC s[k] = false := by unfold okC; simp; omega
          have HW := Lib.hid (all_not s k hlt hok)
          clear hok hcl
          go_wp2
          go_ret
          exact ⟨ret_bool (by simp only [legalB, HW.out, Bool.and_false]), rfl⟩
        · have g0 : (s[k].toNat : Int) < 97 := by omega
          have g1 : ¬ 122 < (s[k].toNat : Int) := by omega
          have g2 : (s[k].toNat : Int) < 48 := by omega
          have g3 : ¬ 57 < (s[k].toNat : Int) := by omega
          have g4 : ((s[k].toNat : Int) == 45) = false := by simp; omega
          have g6 : ((s[k].toNat : Int) != 45) = true := by simp; omega
          have g5 : ((s[k].toNat : Int) == 46) = false := by simp; omega
          have g7 : ((s[k].toNat : Int) != 46) = true := by simp; omega
          have hok : okC s[k] = false := by unfold okC; simp; omega
          have HW := Lib.hid (all_not s k hlt hok)
          clear hok hcl
          go_wp2
          go_ret
          exact ⟨ret_bool (by simp only [legalB, HW.out, Bool.and_false]), rfl⟩
        · have g0 : (s[k].toNat : Int) < 97 := by omega
          have g1 : ¬ 122 < (s[k].toNat : Int) := by omega
          have g2 : ¬ (s[k].toNat : Int) < 48 := by omega
          have g3 : 57 < (s[k].toNat : Int) := by omega
          have g4 : ((s[k].toNat : Int) == 45) = false := by simp; omega
          have g6 : ((s[k].toNat : Int) != 45) = true := by simp; omega
          have g5 : ((s[k].toNat : Int) == 46) = false := by simp; omega
          have g7 : ((s[k].toNat : Int) != 46) = true := by simp; omega
          have hok : okC s[k] = false := by unfold okC; simp; omega
          have HW := Lib.hid (all_not s k hlt hok)
          clear hok hcl
          go_wp2
          go_ret
          exact ⟨ret_bool (by simp only [legalB, HW.out, Bool.and_false]), rfl⟩
        · have g0 : ¬ (s[k].toNat : Int) < 97 := by omega
          have g1 : 122 < (s[k].toNat : Int) := by omega
          have g2 : ¬ (s[k].toNat : Int) < 48 := by omega
          have g3 : 57 < (s[k].toNat : Int) := by omega
          have g4 : ((s[k].toNat : Int) == 45) = false := by simp; omega
          have g6 : ((s[k].toNat : Int) != 45) = true := by simp; omega
          have g5 : ((s[k].toNat : Int) == 46) = false := by simp; omega
          have g7 : ((s[k].toNat : Int) != 46) = true := by simp; omega
          have hok : okC s[k] = false := by unfold okC; simp; omega
          have HW := Lib.hid (all_not s k hlt hok)
          clear hok hcl
          go_wp2
          go_ret
          exact ⟨ret_bool (by simp only [legalB, HW.out, Bool.and_false]), rfl⟩
      · go_wp2
        go_ret
        exact ⟨ret_bool (by
          have hA := HA.out
          rw [List.take_of_length_le (by simp; omega)] at hA
          rw [HG.out, hA]), rfl⟩
end Go.Proofs.YteoggphafhcchaaGreat
