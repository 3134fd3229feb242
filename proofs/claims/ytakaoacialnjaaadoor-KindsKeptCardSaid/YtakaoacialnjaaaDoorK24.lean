import Derived.Test.YtakaoacialnjaaaDoorK23
namespace Go.Proofs.YtakaoacialnjaaaDoor
open Go Go.RowKit
set_option linter.unusedVariables false
set_option maxHeartbeats 1000000 in
theorem kid1 (w : World) : Calls Tryd.prog 61 #[.int .i64 1] w fun e w' => e = .returned (.int .i64 (kidsN 1)) ∧ w = w' := by
  go_enter Tryd.func61, Tryd.ntmps61
  go_wp2
  go_ret
  exact ⟨rfl, rfl⟩
set_option maxHeartbeats 1000000 in
theorem kid2 (w : World) : Calls Tryd.prog 61 #[.int .i64 2] w fun e w' => e = .returned (.int .i64 (kidsN 2)) ∧ w = w' := by
  go_enter Tryd.func61, Tryd.ntmps61
  go_wp2
  go_ret
  exact ⟨rfl, rfl⟩
set_option maxHeartbeats 1000000 in
theorem kid3 (w : World) : Calls Tryd.prog 61 #[.int .i64 3] w fun e w' => e = .returned (.int .i64 (kidsN 3)) ∧ w = w' := by
  go_enter Tryd.func61, Tryd.ntmps61
  go_wp2
  go_ret
  exact ⟨rfl, rfl⟩
set_option maxHeartbeats 1000000 in
theorem kid4 (w : World) : Calls Tryd.prog 61 #[.int .i64 4] w fun e w' => e = .returned (.int .i64 (kidsN 4)) ∧ w = w' := by
  go_enter Tryd.func61, Tryd.ntmps61
  go_wp2
  go_ret
  exact ⟨rfl, rfl⟩
set_option maxHeartbeats 1000000 in
theorem kid5 (w : World) : Calls Tryd.prog 61 #[.int .i64 5] w fun e w' => e = .returned (.int .i64 (kidsN 5)) ∧ w = w' := by
  go_enter Tryd.func61, Tryd.ntmps61
  go_wp2
  go_ret
  exact ⟨rfl, rfl⟩
set_option maxHeartbeats 1000000 in
theorem kid6 (w : World) : Calls Tryd.prog 61 #[.int .i64 6] w fun e w' => e = .returned (.int .i64 (kidsN 6)) ∧ w = w' := by
  go_enter Tryd.func61, Tryd.ntmps61
  go_wp2
  go_ret
  exact ⟨rfl, rfl⟩
set_option maxHeartbeats 1000000 in
theorem kid7 (w : World) : Calls Tryd.prog 61 #[.int .i64 7] w fun e w' => e = .returned (.int .i64 (kidsN 7)) ∧ w = w' := by
  go_enter Tryd.func61, Tryd.ntmps61
  go_wp2
  go_ret
  exact ⟨rfl, rfl⟩
set_option maxHeartbeats 1000000 in
theorem kid8 (w : World) : Calls Tryd.prog 61 #[.int .i64 8] w fun e w' => e = .returned (.int .i64 (kidsN 8)) ∧ w = w' := by
  go_enter Tryd.func61, Tryd.ntmps61
  go_wp2
  go_ret
  exact ⟨rfl, rfl⟩
set_option maxHeartbeats 1000000 in
theorem kid9 (w : World) : Calls Tryd.prog 61 #[.int .i64 9] w fun e w' => e = .returned (.int .i64 (kidsN 9)) ∧ w = w' := by
  go_enter Tryd.func61, Tryd.ntmps61
  go_wp2
  go_ret
  exact ⟨rfl, rfl⟩
set_option maxHeartbeats 1000000 in
theorem kid10 (w : World) : Calls Tryd.prog 61 #[.int .i64 10] w fun e w' => e = .returned (.int .i64 (kidsN 10)) ∧ w = w' := by
  go_enter Tryd.func61, Tryd.ntmps61
  go_wp2
  go_ret
  exact ⟨rfl, rfl⟩
set_option maxHeartbeats 1000000 in
theorem kid11 (w : World) : Calls Tryd.prog 61 #[.int .i64 11] w fun e w' => e = .returned (.int .i64 (kidsN 11)) ∧ w = w' := by
  go_enter Tryd.func61, Tryd.ntmps61
  go_wp2
  go_ret
  exact ⟨rfl, rfl⟩
set_option maxHeartbeats 1000000 in
theorem kid12 (w : World) : Calls Tryd.prog 61 #[.int .i64 12] w fun e w' => e = .returned (.int .i64 (kidsN 12)) ∧ w = w' := by
  go_enter Tryd.func61, Tryd.ntmps61
  go_wp2
  go_ret
  exact ⟨rfl, rfl⟩
set_option maxHeartbeats 1000000 in
theorem kid13 (w : World) : Calls Tryd.prog 61 #[.int .i64 13] w fun e w' => e = .returned (.int .i64 (kidsN 13)) ∧ w = w' := by
  go_enter Tryd.func61, Tryd.ntmps61
  go_wp2
  go_ret
  exact ⟨rfl, rfl⟩
set_option maxHeartbeats 1000000 in
theorem kid14 (w : World) : Calls Tryd.prog 61 #[.int .i64 14] w fun e w' => e = .returned (.int .i64 (kidsN 14)) ∧ w = w' := by
  go_enter Tryd.func61, Tryd.ntmps61
  go_wp2
  go_ret
  exact ⟨rfl, rfl⟩
set_option maxHeartbeats 1000000 in
theorem kid15 (w : World) : Calls Tryd.prog 61 #[.int .i64 15] w fun e w' => e = .returned (.int .i64 (kidsN 15)) ∧ w = w' := by
  go_enter Tryd.func61, Tryd.ntmps61
  go_wp2
  go_ret
  exact ⟨rfl, rfl⟩
set_option maxHeartbeats 1000000 in
theorem kid16 (w : World) : Calls Tryd.prog 61 #[.int .i64 16] w fun e w' => e = .returned (.int .i64 (kidsN 16)) ∧ w = w' := by
  go_enter Tryd.func61, Tryd.ntmps61
  go_wp2
  go_ret
  exact ⟨rfl, rfl⟩
set_option maxHeartbeats 1000000 in
theorem kid17 (w : World) : Calls Tryd.prog 61 #[.int .i64 17] w fun e w' => e = .returned (.int .i64 (kidsN 17)) ∧ w = w' := by
  go_enter Tryd.func61, Tryd.ntmps61
  go_wp2
  go_ret
  exact ⟨rfl, rfl⟩
set_option maxHeartbeats 1000000 in
theorem kid18 (w : World) : Calls Tryd.prog 61 #[.int .i64 18] w fun e w' => e = .returned (.int .i64 (kidsN 18)) ∧ w = w' := by
  go_enter Tryd.func61, Tryd.ntmps61
  go_wp2
  go_ret
  exact ⟨rfl, rfl⟩
set_option maxHeartbeats 1000000 in
theorem kid19 (w : World) : Calls Tryd.prog 61 #[.int .i64 19] w fun e w' => e = .returned (.int .i64 (kidsN 19)) ∧ w = w' := by
  go_enter Tryd.func61, Tryd.ntmps61
  go_wp2
  go_ret
  exact ⟨rfl, rfl⟩
set_option maxHeartbeats 1000000 in
theorem kid20 (w : World) : Calls Tryd.prog 61 #[.int .i64 20] w fun e w' => e = .returned (.int .i64 (kidsN 20)) ∧ w = w' := by
  go_enter Tryd.func61, Tryd.ntmps61
  go_wp2
  go_ret
  exact ⟨rfl, rfl⟩
set_option maxHeartbeats 1000000 in
theorem kid21 (w : World) : Calls Tryd.prog 61 #[.int .i64 21] w fun e w' => e = .returned (.int .i64 (kidsN 21)) ∧ w = w' := by
  go_enter Tryd.func61, Tryd.ntmps61
  go_wp2
  go_ret
  exact ⟨rfl, rfl⟩
set_option maxHeartbeats 1000000 in
theorem kid22 (w : World) : Calls Tryd.prog 61 #[.int .i64 22] w fun e w' => e = .returned (.int .i64 (kidsN 22)) ∧ w = w' := by
  go_enter Tryd.func61, Tryd.ntmps61
  go_wp2
  go_ret
  exact ⟨rfl, rfl⟩
set_option maxHeartbeats 1000000 in
theorem kid23 (w : World) : Calls Tryd.prog 61 #[.int .i64 23] w fun e w' => e = .returned (.int .i64 (kidsN 23)) ∧ w = w' := by
  go_enter Tryd.func61, Tryd.ntmps61
  go_wp2
  go_ret
  exact ⟨rfl, rfl⟩
set_option maxHeartbeats 1000000 in
theorem kid24 (w : World) : Calls Tryd.prog 61 #[.int .i64 24] w fun e w' => e = .returned (.int .i64 (kidsN 24)) ∧ w = w' := by
  go_enter Tryd.func61, Tryd.ntmps61
  go_wp2
  go_ret
  exact ⟨rfl, rfl⟩
set_option maxHeartbeats 1000000 in
theorem kid25 (w : World) : Calls Tryd.prog 61 #[.int .i64 25] w fun e w' => e = .returned (.int .i64 (kidsN 25)) ∧ w = w' := by
  go_enter Tryd.func61, Tryd.ntmps61
  go_wp2
  go_ret
  exact ⟨rfl, rfl⟩
set_option maxHeartbeats 1000000 in
theorem kid26 (w : World) : Calls Tryd.prog 61 #[.int .i64 26] w fun e w' => e = .returned (.int .i64 (kidsN 26)) ∧ w = w' := by
  go_enter Tryd.func61, Tryd.ntmps61
  go_wp2
  go_ret
  exact ⟨rfl, rfl⟩
set_option maxHeartbeats 1000000 in
theorem kid27 (w : World) : Calls Tryd.prog 61 #[.int .i64 27] w fun e w' => e = .returned (.int .i64 (kidsN 27)) ∧ w = w' := by
  go_enter Tryd.func61, Tryd.ntmps61
  go_wp2
  go_ret
  exact ⟨rfl, rfl⟩
set_option maxHeartbeats 1000000 in
theorem kid28 (w : World) : Calls Tryd.prog 61 #[.int .i64 28] w fun e w' => e = .returned (.int .i64 (kidsN 28)) ∧ w = w' := by
  go_enter Tryd.func61, Tryd.ntmps61
  go_wp2
  go_ret
  exact ⟨rfl, rfl⟩
set_option maxHeartbeats 1000000 in
theorem kid29 (w : World) : Calls Tryd.prog 61 #[.int .i64 29] w fun e w' => e = .returned (.int .i64 (kidsN 29)) ∧ w = w' := by
  go_enter Tryd.func61, Tryd.ntmps61
  go_wp2
  go_ret
  exact ⟨rfl, rfl⟩
set_option maxHeartbeats 1000000 in
theorem kid30 (w : World) : Calls Tryd.prog 61 #[.int .i64 30] w fun e w' => e = .returned (.int .i64 (kidsN 30)) ∧ w = w' := by
  go_enter Tryd.func61, Tryd.ntmps61
  go_wp2
  go_ret
  exact ⟨rfl, rfl⟩
set_option maxHeartbeats 1000000 in
theorem kid31 (w : World) : Calls Tryd.prog 61 #[.int .i64 31] w fun e w' => e = .returned (.int .i64 (kidsN 31)) ∧ w = w' := by
  go_enter Tryd.func61, Tryd.ntmps61
  go_wp2
  go_ret
  exact ⟨rfl, rfl⟩
set_option maxHeartbeats 1000000 in
theorem kid32 (w : World) : Calls Tryd.prog 61 #[.int .i64 32] w fun e w' => e = .returned (.int .i64 (kidsN 32)) ∧ w = w' := by
  go_enter Tryd.func61, Tryd.ntmps61
  go_wp2
  go_ret
  exact ⟨rfl, rfl⟩
set_option maxHeartbeats 1000000 in
theorem kid33 (w : World) : Calls Tryd.prog 61 #[.int .i64 33] w fun e w' => e = .returned (.int .i64 (kidsN 33)) ∧ w = w' := by
  go_enter Tryd.func61, Tryd.ntmps61
  go_wp2
  go_ret
  exact ⟨rfl, rfl⟩
set_option maxHeartbeats 1000000 in
theorem kidout (w : World) (op : Int) (h : op < 1 ∨ 34 ≤ op) : Calls Tryd.prog 61 #[.int .i64 op] w fun e w' => e = .returned (.int .i64 (-2)) ∧ w = w' := by
  rcases h with h | h
  · go_enter Tryd.func61, Tryd.ntmps61
    go_wp2
    go_ret
    exact ⟨rfl, rfl⟩
  · have h' : ¬ op < 1 := by omega
    go_enter Tryd.func61, Tryd.ntmps61
    go_wp2
    go_ret
    exact ⟨rfl, rfl⟩
theorem kidsof_any (w : World) (op : Int) : Calls Tryd.prog 61 #[.int .i64 op] w fun e w' => e = .returned (.int .i64 (kidsN op)) ∧ w = w' := by
  by_cases h : op < 1 ∨ 34 ≤ op
  · rw [show kidsN op = -2 by simp only [kidsN]; rw [if_pos h]]
    exact kidout w op h
  · have h : op = 1 ∨ op = 2 ∨ op = 3 ∨ op = 4 ∨ op = 5 ∨ op = 6 ∨ op = 7 ∨ op = 8 ∨ op = 9 ∨ op = 10 ∨ op = 11 ∨ op = 12 ∨ op = 13 ∨ op = 14 ∨ op = 15 ∨ op = 16 ∨ op = 17 ∨ op = 18 ∨ op = 19 ∨ op = 20 ∨ op = 21 ∨ op = 22 ∨ op = 23 ∨ op = 24 ∨ op = 25 ∨ op = 26 ∨ op = 27 ∨ op = 28 ∨ op = 29 ∨ op = 30 ∨ op = 31 ∨ op = 32 ∨ op = 33 := by omega
    rcases h with rfl | rfl | rfl | rfl | rfl | rfl | rfl | rfl | rfl | rfl | rfl | rfl | rfl | rfl | rfl | rfl | rfl | rfl | rfl | rfl | rfl | rfl | rfl | rfl | rfl | rfl | rfl | rfl | rfl | rfl | rfl | rfl | rfl
    · exact kid1 w
    · exact kid2 w
    · exact kid3 w
    · exact kid4 w
    · exact kid5 w
    · exact kid6 w
    · exact kid7 w
    · exact kid8 w
    · exact kid9 w
    · exact kid10 w
    · exact kid11 w
    · exact kid12 w
    · exact kid13 w
    · exact kid14 w
    · exact kid15 w
    · exact kid16 w
    · exact kid17 w
    · exact kid18 w
    · exact kid19 w
    · exact kid20 w
    · exact kid21 w
    · exact kid22 w
    · exact kid23 w
    · exact kid24 w
    · exact kid25 w
    · exact kid26 w
    · exact kid27 w
    · exact kid28 w
    · exact kid29 w
    · exact kid30 w
    · exact kid31 w
    · exact kid32 w
    · exact kid33 w
theorem empty_any (w : World) (b : Int) (o : Bool) : Calls Tryd.prog 55 #[.agg #[.int .i64 b, .bool o]] w fun e w' => e = .returned (.bool (b == 0)) ∧ Below w.heap.size w w' := by
  go_enter Tryd.func55, Tryd.ntmps55
  go_wp2
  go_ret
  exact ⟨rfl, (Below.refl _ _).alloc (Nat.le_refl _) _⟩
/-- The base that two kinds have together, and whether they have one. -/
def bothK (a b : Int × Bool) : Int × Bool := if a.1 = 0 then (b.1, true) else if b.1 = 0 ∨ a.1 = b.1 then (a.1, true) else (0, false)
end Go.Proofs.YtakaoacialnjaaaDoor
