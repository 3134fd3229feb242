import Derived.Test.YtakaoacialnjaaaDoorK3
import Derived.RegionTactic
import Derived.ChangeAlike
namespace Go.Proofs.YtakaoacialnjaaaDoor
open Go Go.RowKit
set_option linter.unusedVariables false
/-- The base of operators of one part. -/
def oneK (op b : Int) : Int × Bool := if op = 7 then (1, b == 1) else if op = 8 then (2, b == 2) else (1, b == 3 || b == 5)
/-- The kind of what is either of two. -/
def joinedK (x y : Int × Bool) : (Int × Bool) × Bool := if x = (0, true) then ((y.1, true), true) else if y = (0, true) then ((x.1, true), true) else ((x.1, x.2 || y.2), x.1 == y.1)
def OneOut (e : Ending) (r : Int × Bool) : Prop := e = .returned (.tuple #[.int .i64 r.1, .bool r.2])
def KindOut (e : Ending) (r : (Int × Bool) × Bool) : Prop := e = .returned (.tuple #[.agg #[.int .i64 r.1.1, .bool r.1.2], .bool r.2])
set_option maxHeartbeats 1000000 in
theorem one_any (w : World) (op b : Int) (o : Bool) : Calls Tryd.prog 50 #[.int .i64 op, .agg #[.int .i64 b, .bool o]] w fun e w' => OneOut e (oneK op b) ∧ Below w.heap.size w w' := by
  have hw : Below w.heap.size w (w.alloc (.cells #[.int .i64 b, .bool o] 30)) := (Below.refl _ _).alloc (Nat.le_refl _) _
  by_cases h7 : op = 7
  · subst h7
    go_enter Tryd.func50, Tryd.ntmps50
    go_wp2
    go_quiet (fail)
    go_wp2
    go_ret2
    exact ⟨rfl, below_drewN hw _⟩
  by_cases h8 : op = 8
  · subst h8
    go_enter Tryd.func50, Tryd.ntmps50
    go_wp2
    go_quiet (fail)
    go_wp2
    go_ret2
    exact ⟨rfl, below_drewN hw _⟩
  have e7 : (op == 7) = false := by simpa using h7
  have e8 : (op == 8) = false := by simpa using h8
  by_cases h3 : b = 3
  · subst h3
    go_enter Tryd.func50, Tryd.ntmps50
    go_wp2
    go_quiet (fail)
    go_wp2
    go_ret2
    exact ⟨by simp [OneOut, oneK, h7, h8], below_drewN hw _⟩
  · have e3 : (b == 3) = false := by simpa using h3
    go_enter Tryd.func50, Tryd.ntmps50
    go_wp2
    go_quiet (fail)
    go_wp2
    go_ret2
    exact ⟨by simp [OneOut, oneK, h7, h8, e3], below_drewN hw _⟩
set_option maxHeartbeats 1000000 in
theorem joined_any (w : World) (xb yb : Int) (xo yo : Bool) (ht : NoTab w) (h0 : 0 < w.heap.size) :
    Calls Tryd.prog 51 #[.agg #[.int .i64 xb, .bool xo], .agg #[.int .i64 yb, .bool yo]] w fun e w' => KindOut e (joinedK (xb, xo) (yb, yo)) ∧ Below w.heap.size w w' := by
  obtain ⟨t0, t1⟩ := ht
  have hw : ∀ o, Below w.heap.size w (((w.alloc (.cells #[.int .i64 xb, .bool xo] 30)).alloc (.cells #[.int .i64 yb, .bool yo] 30)).alloc (.cells o 30)) := fun o => (((Below.refl _ _).alloc (Nat.le_refl _) _).alloc (by simp) _).alloc (by simp; omega) _
  by_cases hx : xb = 0 ∧ xo = true
  · obtain ⟨rfl, rfl⟩ := hx
    go_enter Tryd.func51, Tryd.ntmps51
    go_wp2
    exact bodyPost_ret (v := .tuple #[.agg #[.int .i64 yb, .bool true], .bool true]) (by simp [results, Tryd.results51, go_sem]) rfl ⟨rfl, hw _⟩
  by_cases hy : yb = 0 ∧ yo = true
  · obtain ⟨rfl, rfl⟩ := hy
    have hx' : xo = true → (xb == 0) = false := fun h => by simp; exact fun e => hx ⟨e, h⟩
    have e : joinedK (xb, xo) (0, true) = ((xb, true), true) := by
      simp only [joinedK]; rw [if_neg (by intro h; exact hx (by simpa using h))]; simp
    cases xo
    · go_enter Tryd.func51, Tryd.ntmps51
      go_wp2
      exact bodyPost_ret (v := .tuple #[.agg #[.int .i64 xb, .bool true], .bool true]) (by simp [results, Tryd.results51, go_sem]) rfl ⟨by first | rfl | (rw [e]; rfl), hw _⟩
    · have hx2 := hx' rfl
      have hx3 : ¬ xb = 0 := by simpa using hx2
      clear hx'
      go_enter Tryd.func51, Tryd.ntmps51
      go_wp2
      exact bodyPost_ret (v := .tuple #[.agg #[.int .i64 xb, .bool true], .bool true]) (by simp [results, Tryd.results51, go_sem]) rfl ⟨by first | rfl | (rw [e]; rfl), hw _⟩
  have e : joinedK (xb, xo) (yb, yo) = ((xb, xo || yo), xb == yb) := by
    simp only [joinedK]; rw [if_neg (by intro h; exact hx (by simpa using h)), if_neg (by intro h; exact hy (by simpa using h))]
  have HE := Lib.hid e
  clear e
  cases xo <;> cases yo
  all_goals
    simp only [and_true, Bool.false_eq_true, and_false, not_false_eq_true] at hx hy
    go_enter Tryd.func51, Tryd.ntmps51
    go_wp2
    go_region
    all_goals go_wp2
    all_goals first
      | exact bodyPost_ret (v := .tuple #[.agg #[.int .i64 xb, .bool false], .bool (xb == yb)]) (by simp [results, Tryd.results51, go_sem]) rfl ⟨by rw [HE.out]; rfl, (hw _).drew⟩
      | exact bodyPost_ret (v := .tuple #[.agg #[.int .i64 xb, .bool true], .bool (xb == yb)]) (by simp [results, Tryd.results51, go_sem]) rfl ⟨by rw [HE.out]; rfl, (hw _).drew⟩
end Go.Proofs.YtakaoacialnjaaaDoor
