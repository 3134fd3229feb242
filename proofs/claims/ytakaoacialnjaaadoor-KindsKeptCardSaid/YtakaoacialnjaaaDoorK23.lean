import Derived.Test.YtakaoacialnjaaaDoorK20
import Derived.Test.YtakaoacialnjaaaDoorK4
namespace Go.Proofs.YtakaoacialnjaaaDoor
open Go Go.RowKit
set_option linter.unusedVariables false
/-- The reference's table of two bases. -/
def binK (op a b : Int) : Int :=
  if op = 18 then (if a = 1 ∧ b = 1 then 1 else if (a = 4 ∧ b = 1) ∨ (a = 1 ∧ b = 4) then 4 else if a = 5 ∧ (b = 5 ∨ b = 3) then 5 else 0)
  else if op = 19 then (if (a = 1 ∧ b = 1) ∨ (a = 4 ∧ b = 4) then 1 else if a = 4 ∧ b = 1 then 4 else if a = 5 ∧ (b = 5 ∨ b = 3) then 5 else 0)
  else if op = 20 ∨ op = 21 ∨ op = 22 then (if a = 1 ∧ b = 1 then 1 else 0)
  else if op = 13 ∨ op = 14 ∨ op = 15 ∨ op = 16 then (if a = b ∧ (a = 1 ∨ a = 4 ∨ a = 3) then 2 else 0)
  else if op = 17 then (if a = 3 ∧ b = 5 then 2 else 0)
  else if op = 9 ∨ op = 10 then (if a = 2 ∧ b = 2 then 2 else 0)
  else if op = 28 then (if a = 3 ∧ b = 3 then 3 else 0)
  else if op = 31 ∨ op = 32 then (if a = b ∧ (a = 1 ∨ a = 4) then a else 0)
  else 0
set_option maxRecDepth 100000 in
set_option maxHeartbeats 2000000 in
theorem bin9 (w : World) (a b : Int) : Calls Tryd.prog 56 #[.int .i64 9, .int .i64 a, .int .i64 b] w fun e w' => e = .returned (.int .i64 (binK 9 a b)) ∧ w = w' := by
  go_enter Tryd.func56, Tryd.ntmps56
  go_wp2
  all_goals go_ret
  all_goals exact ⟨ret_intk (by simp_all [binK] <;> try omega), rfl⟩
set_option maxRecDepth 100000 in
set_option maxHeartbeats 2000000 in
theorem bin10 (w : World) (a b : Int) : Calls Tryd.prog 56 #[.int .i64 10, .int .i64 a, .int .i64 b] w fun e w' => e = .returned (.int .i64 (binK 10 a b)) ∧ w = w' := by
  go_enter Tryd.func56, Tryd.ntmps56
  go_wp2
  all_goals go_ret
  all_goals exact ⟨ret_intk (by simp_all [binK] <;> try omega), rfl⟩
set_option maxRecDepth 100000 in
set_option maxHeartbeats 2000000 in
theorem bin13 (w : World) (a b : Int) : Calls Tryd.prog 56 #[.int .i64 13, .int .i64 a, .int .i64 b] w fun e w' => e = .returned (.int .i64 (binK 13 a b)) ∧ w = w' := by
  go_enter Tryd.func56, Tryd.ntmps56
  go_wp2
  all_goals go_ret
  all_goals exact ⟨ret_intk (by simp_all [binK] <;> try omega), rfl⟩
set_option maxRecDepth 100000 in
set_option maxHeartbeats 2000000 in
theorem bin14 (w : World) (a b : Int) : Calls Tryd.prog 56 #[.int .i64 14, .int .i64 a, .int .i64 b] w fun e w' => e = .returned (.int .i64 (binK 14 a b)) ∧ w = w' := by
  go_enter Tryd.func56, Tryd.ntmps56
  go_wp2
  all_goals go_ret
  all_goals exact ⟨ret_intk (by simp_all [binK] <;> try omega), rfl⟩
set_option maxRecDepth 100000 in
set_option maxHeartbeats 2000000 in
theorem bin15 (w : World) (a b : Int) : Calls Tryd.prog 56 #[.int .i64 15, .int .i64 a, .int .i64 b] w fun e w' => e = .returned (.int .i64 (binK 15 a b)) ∧ w = w' := by
  go_enter Tryd.func56, Tryd.ntmps56
  go_wp2
  all_goals go_ret
  all_goals exact ⟨ret_intk (by simp_all [binK] <;> try omega), rfl⟩
set_option maxRecDepth 100000 in
set_option maxHeartbeats 2000000 in
theorem bin16 (w : World) (a b : Int) : Calls Tryd.prog 56 #[.int .i64 16, .int .i64 a, .int .i64 b] w fun e w' => e = .returned (.int .i64 (binK 16 a b)) ∧ w = w' := by
  go_enter Tryd.func56, Tryd.ntmps56
  go_wp2
  all_goals go_ret
  all_goals exact ⟨ret_intk (by simp_all [binK] <;> try omega), rfl⟩
set_option maxRecDepth 100000 in
set_option maxHeartbeats 2000000 in
theorem bin17 (w : World) (a b : Int) : Calls Tryd.prog 56 #[.int .i64 17, .int .i64 a, .int .i64 b] w fun e w' => e = .returned (.int .i64 (binK 17 a b)) ∧ w = w' := by
  go_enter Tryd.func56, Tryd.ntmps56
  go_wp2
  all_goals go_ret
  all_goals exact ⟨ret_intk (by simp_all [binK] <;> try omega), rfl⟩
set_option maxRecDepth 100000 in
set_option maxHeartbeats 2000000 in
theorem bin18 (w : World) (a b : Int) : Calls Tryd.prog 56 #[.int .i64 18, .int .i64 a, .int .i64 b] w fun e w' => e = .returned (.int .i64 (binK 18 a b)) ∧ w = w' := by
  go_enter Tryd.func56, Tryd.ntmps56
  go_wp2
  all_goals go_ret
  all_goals exact ⟨ret_intk (by simp_all [binK] <;> try omega), rfl⟩
set_option maxRecDepth 100000 in
set_option maxHeartbeats 2000000 in
theorem bin19 (w : World) (a b : Int) : Calls Tryd.prog 56 #[.int .i64 19, .int .i64 a, .int .i64 b] w fun e w' => e = .returned (.int .i64 (binK 19 a b)) ∧ w = w' := by
  go_enter Tryd.func56, Tryd.ntmps56
  go_wp2
  all_goals go_ret
  all_goals exact ⟨ret_intk (by simp_all [binK] <;> try omega), rfl⟩
set_option maxRecDepth 100000 in
set_option maxHeartbeats 2000000 in
theorem bin20 (w : World) (a b : Int) : Calls Tryd.prog 56 #[.int .i64 20, .int .i64 a, .int .i64 b] w fun e w' => e = .returned (.int .i64 (binK 20 a b)) ∧ w = w' := by
  go_enter Tryd.func56, Tryd.ntmps56
  go_wp2
  all_goals go_ret
  all_goals exact ⟨ret_intk (by simp_all [binK] <;> try omega), rfl⟩
set_option maxRecDepth 100000 in
set_option maxHeartbeats 2000000 in
theorem bin21 (w : World) (a b : Int) : Calls Tryd.prog 56 #[.int .i64 21, .int .i64 a, .int .i64 b] w fun e w' => e = .returned (.int .i64 (binK 21 a b)) ∧ w = w' := by
  go_enter Tryd.func56, Tryd.ntmps56
  go_wp2
  all_goals go_ret
  all_goals exact ⟨ret_intk (by simp_all [binK] <;> try omega), rfl⟩
set_option maxRecDepth 100000 in
set_option maxHeartbeats 2000000 in
theorem bin22 (w : World) (a b : Int) : Calls Tryd.prog 56 #[.int .i64 22, .int .i64 a, .int .i64 b] w fun e w' => e = .returned (.int .i64 (binK 22 a b)) ∧ w = w' := by
  go_enter Tryd.func56, Tryd.ntmps56
  go_wp2
  all_goals go_ret
  all_goals exact ⟨ret_intk (by simp_all [binK] <;> try omega), rfl⟩
set_option maxRecDepth 100000 in
set_option maxHeartbeats 2000000 in
theorem bin28 (w : World) (a b : Int) : Calls Tryd.prog 56 #[.int .i64 28, .int .i64 a, .int .i64 b] w fun e w' => e = .returned (.int .i64 (binK 28 a b)) ∧ w = w' := by
  go_enter Tryd.func56, Tryd.ntmps56
  go_wp2
  all_goals go_ret
  all_goals exact ⟨ret_intk (by simp_all [binK] <;> try omega), rfl⟩
set_option maxRecDepth 100000 in
set_option maxHeartbeats 2000000 in
theorem bin31 (w : World) (a b : Int) : Calls Tryd.prog 56 #[.int .i64 31, .int .i64 a, .int .i64 b] w fun e w' => e = .returned (.int .i64 (binK 31 a b)) ∧ w = w' := by
  go_enter Tryd.func56, Tryd.ntmps56
  go_wp2
  all_goals go_ret
  all_goals exact ⟨ret_intk (by simp_all [binK] <;> try omega), rfl⟩
set_option maxRecDepth 100000 in
set_option maxHeartbeats 2000000 in
theorem bin32 (w : World) (a b : Int) : Calls Tryd.prog 56 #[.int .i64 32, .int .i64 a, .int .i64 b] w fun e w' => e = .returned (.int .i64 (binK 32 a b)) ∧ w = w' := by
  go_enter Tryd.func56, Tryd.ntmps56
  go_wp2
  all_goals go_ret
  all_goals exact ⟨ret_intk (by simp_all [binK] <;> try omega), rfl⟩
theorem binary_any (w : World) (op a b : Int) (h : op = 9 ∨ op = 10 ∨ op = 13 ∨ op = 14 ∨ op = 15 ∨ op = 16 ∨ op = 17 ∨ op = 18 ∨ op = 19 ∨ op = 20 ∨ op = 21 ∨ op = 22 ∨ op = 28 ∨ op = 31 ∨ op = 32) : Calls Tryd.prog 56 #[.int .i64 op, .int .i64 a, .int .i64 b] w fun e w' => e = .returned (.int .i64 (binK op a b)) ∧ w = w' := by
  rcases h with rfl | rfl | rfl | rfl | rfl | rfl | rfl | rfl | rfl | rfl | rfl | rfl | rfl | rfl | rfl
  · exact bin9 w a b
  · exact bin10 w a b
  · exact bin13 w a b
  · exact bin14 w a b
  · exact bin15 w a b
  · exact bin16 w a b
  · exact bin17 w a b
  · exact bin18 w a b
  · exact bin19 w a b
  · exact bin20 w a b
  · exact bin21 w a b
  · exact bin22 w a b
  · exact bin28 w a b
  · exact bin31 w a b
  · exact bin32 w a b
end Go.Proofs.YtakaoacialnjaaaDoor
