import Derived.Test.YtakaoacialnjaaaDoorK39
namespace Go.Proofs.YtakaoacialnjaaaDoor
open Go Go.RowKit
set_option linter.unusedVariables false
def KsOut (e : Ending) (w w' : World) (r : List (Int × Bool)) : Prop :=
  ∃ a c, e = .returned (.slice a r.length c) ∧ w'.ownsRow w.heap.size 30 2 (.slice a r.length c) r.length (r.flatMap Kd)
theorem new_two (w : World) (x y : Int × Bool) (j : Nat) (u : Value) (h : (Kd x ++ Kd y)[j]? = some u) : (w.alloc (.cells #[.int .i64 x.1, .bool x.2, .int .i64 y.1, .bool y.2] 30)).cell? ((⟨w.heap.size, 0, none⟩ : Addr).add j) = some u := by
  rw [Addr.add_lit, cell_of_row _ _ _ _ _ _ (heap_alloc_new w _), Nat.zero_add]
  simpa [Kd] using h
theorem own_new1 (w : World) (x : Int × Bool) : (w.alloc (.cells #[.int .i64 x.1, .bool x.2] 30)).ownsRow w.heap.size 30 2 (.slice (some ⟨w.heap.size, 0, none⟩) 1 1) 1 (Kd x) :=
  ⟨rfl, .inr ⟨w.heap.size, 1, #[.int .i64 x.1, .bool x.2], rfl, Nat.le_refl _, heap_alloc_new w _, Nat.le_refl _, by decide, rfl, rfl⟩⟩
theorem k11_step (b : Nat) (h1 : 1 ≤ b) (h2 : b ≤ 5) : (K11.take (2 * (b + 1) - 1)).flatMap Kd = (K11.take (2 * b - 1)).flatMap Kd ++ (Kd ((b : Int), false) ++ Kd ((b : Int), true)) := by
  have : b = 1 ∨ b = 2 ∨ b = 3 ∨ b = 4 ∨ b = 5 := by omega
  rcases this with rfl | rfl | rfl | rfl | rfl <;> rfl
set_option maxRecDepth 100000 in
set_option maxHeartbeats 4000000 in
theorem all_any (w : World) : Calls Tryd.prog 9 #[] w fun e w' => KsOut e w w' K11 ∧ Below w.heap.size w w' := by
  go_enter Tryd.func9, Tryd.ntmps9
  go_wp2_with fail
  have HO1 := Lib.hid (own_new1 w (0, true))
  have HB1 := Lib.hid (show Below w.heap.size w (w.alloc (.cells #[.int .i64 0, .bool true] 30)) from (Below.refl _ _).alloc (Nat.le_refl _) _)
  go_loopw [1, 2] (fun v i wr => ∃ b : Nat, 1 ≤ b ∧ b ≤ 6 ∧ i = .int .i64 b ∧ (∃ la lc, v = .slice la (2 * b - 1) lc) ∧ wr.ownsRow w.heap.size 30 2 v (2 * b - 1) ((K11.take (2 * b - 1)).flatMap Kd) ∧ Below w.heap.size w wr) (fun _ i _ => 6 - (intOf i).toNat)
  case atStart => exact ⟨1, by omega, by omega, rfl, ⟨_, _, rfl⟩, HO1.out, HB1.out⟩
  case round =>
    obtain ⟨b, hb1, hb6, rfl, ⟨la, lc, rfl⟩, ho, hb⟩ := hrel
    have HO := Lib.hid ho
    have HB := Lib.hid hb
    have HZ := Lib.hid hb.size
    clear ho hb
    by_cases hlt : b ≤ 5
    · have hltI : (b : Int) ≤ 5 := by omega
      have HS := Lib.hid (k11_step b hb1 hlt)
      go_wp2_with (at_builtin; go_loud (refine L_appendN rfl _ _ _ rfl sl22 w.heap.size (.slice la (2 * b - 1) lc) (2 * b - 1) _ rfl (own_below HO.out ((Below.refl _ _).alloc (Nat.le_refl _) (.cells #[.int .i64 b, .bool false, .int .i64 b, .bool true] 30))) _ 2 2 (Kd ((b : Int), false) ++ Kd ((b : Int), true)) rfl rfl (new_two wr ((b : Int), false) ((b : Int), true)) (by simp [Kd, Value.oneCell']) (by omega) (by simp [maxLen]; omega) (by have := HZ.out; simp; omega) (fun a6 c6 w6 ho6 hg6 hat6 => ?_)))
      have HB6 := Lib.hid ((HB.out.alloc HZ.out _).grown hg6 (by have := HZ.out; simp; omega) (fun q hq => by have := (HO.out.lt q hq).1; omega))
      rw [← HS.out] at ho6
      have he : 2 * b - 1 + 2 = 2 * (b + 1) - 1 := by omega
      rw [he] at ho6
      have HO6 := Lib.hid ho6
      clear ho6 hg6 hat6
      go_roundw
      case rel => exact ⟨b + 1, by omega, by omega, by go_num, ⟨a6, c6, by rw [← he]⟩, by rw [he]; exact HO6.out, HB6.out⟩
      case measure => simp [intOf]; omega
    · have hltI : ¬ (b : Int) ≤ 5 := by omega
      obtain rfl : b = 6 := by omega
      go_wp2
      go_ret
      exact ⟨⟨la, lc, rfl, HO.out⟩, HB.out⟩
end Go.Proofs.YtakaoacialnjaaaDoor
