import Derived.Test.YtakaoacialnjaaaDoorK6
namespace Go.Proofs.YtakaoacialnjaaaDoor
open Go Go.RowKit
set_option linter.unusedVariables false
def eqK (x y : Int × Bool) : Bool := (x.1 == y.1) || (x.1 == 0 && x.2 && y.2) || (y.1 == 0 && y.2 && x.2)
def opN (op : Int) : Int := if op = 14 ∨ op = 15 ∨ op = 16 then 13 else if op = 32 then 31 else op
def hitB (op a b : Int) (r : Row) : Bool := r.op == op && r.b0 == a && r.b1 == b
def lookR (op a b : Int) (l : List Row) : (Int × Bool) × Bool := match l.find? (hitB op a b) with
  | some r => ((r.is, false), true)
  | none => ((0, false), false)
/-- The kind of operators of two parts. -/
def twoK (op : Int) (x y : Int × Bool) : (Int × Bool) × Bool :=
  if op = 11 ∨ op = 12 then ((2, false), eqK x y) else if op = 33 then (((joinedK x y).1.1, y.2), (joinedK x y).2) else lookR (opN op) x.1 y.1 pairT
theorem NoTab.below {w w' : World} {B : Nat} (h : NoTab w) (hb : Below B w w') (h0 : 0 < B) : NoTab w' :=
  ⟨by rw [hb.cell (p := ⟨0, 0, none⟩) h0]; exact h.1, by rw [hb.cell (p := ⟨0, 1, none⟩) h0]; exact h.2⟩
set_option maxHeartbeats 2000000 in
theorem two_eq (w : World) (op : Int) (hop : op = 11 ∨ op = 12) (xb yb : Int) (xo yo : Bool) (ht : NoTab w) (h0 : 0 < w.heap.size) (a : Option Addr) (n c : Nat) :
    Calls Tryd.prog 52 #[.int .i64 op, .slice a n c, .agg #[.int .i64 xb, .bool xo], .agg #[.int .i64 yb, .bool yo]] w fun e w' => KindOut e ((2, false), eqK (xb, xo) (yb, yo)) ∧ Below w.heap.size w w' := by
  obtain ⟨t0, t1⟩ := ht
  have hw : ∀ p q o, Below w.heap.size w (((w.alloc (.cells p 30)).alloc (.cells q 30)).alloc (.cells o 30)) := fun p q o => (((Below.refl _ _).alloc (Nat.le_refl _) _).alloc (by simp) _).alloc (by simp; omega) _
  have fin : ∀ (e1 : Bool), eqK (xb, xo) (yb, yo) = e1 → KindOut (.returned (.tuple #[.agg #[.int .i64 2, .bool false], .bool e1])) ((2, false), eqK (xb, xo) (yb, yo)) := fun e1 h => by rw [h]; rfl
  by_cases h1 : xb = yb
  · subst h1
    have F := Lib.hid (fin true (by simp [eqK]))
    clear fin
    rcases hop with rfl | rfl
    all_goals
      go_enter Tryd.func52, Tryd.ntmps52
      go_wp2
      exact bodyPost_ret (v := .tuple #[.agg #[.int .i64 2, .bool false], .bool true]) (by simp [results, Tryd.results52, go_sem]) rfl ⟨F.out, hw _ _ _⟩
  have g1 : (xb == yb) = false := by simpa using h1
  by_cases h2 : xb = 0
  · subst h2
    have g3 : (yb == 0) = false := by simp; omega
    have g4 : ¬ yb = 0 := by omega
    have F := Lib.hid (fin (xo && yo) (by simp [eqK, g1, g3]))
    clear fin
    rcases hop with rfl | rfl <;> cases xo <;> cases yo
    all_goals
      simp only [Bool.and_self, Bool.and_true, Bool.and_false] at F
      go_enter Tryd.func52, Tryd.ntmps52
      go_wp2
      first
        | (refine bodyPost_ret (v := .tuple #[.agg #[.int .i64 2, .bool false], .bool true]) ?_ rfl ⟨F.out, hw _ _ _⟩
           simp [results, Tryd.results52, go_sem]; done)
        | (refine bodyPost_ret (v := .tuple #[.agg #[.int .i64 2, .bool false], .bool false]) ?_ rfl ⟨F.out, hw _ _ _⟩
           simp [results, Tryd.results52, go_sem]; done)
  have g2 : (xb == 0) = false := by simpa using h2
  by_cases h3 : yb = 0
  · subst h3
    have F := Lib.hid (fin (xo && yo) (by cases xo <;> cases yo <;> simp [eqK, g1]))
    clear fin
    rcases hop with rfl | rfl <;> cases xo <;> cases yo
    all_goals
      simp only [Bool.and_self, Bool.and_true, Bool.and_false] at F
      go_enter Tryd.func52, Tryd.ntmps52
      go_wp2
      first
        | (refine bodyPost_ret (v := .tuple #[.agg #[.int .i64 2, .bool false], .bool true]) ?_ rfl ⟨F.out, hw _ _ _⟩
           simp [results, Tryd.results52, go_sem]; done)
        | (refine bodyPost_ret (v := .tuple #[.agg #[.int .i64 2, .bool false], .bool false]) ?_ rfl ⟨F.out, hw _ _ _⟩
           simp [results, Tryd.results52, go_sem]; done)
  have g3 : (yb == 0) = false := by simpa using h3
  have F := Lib.hid (fin false (by simp [eqK, g1, g2, g3]))
  clear fin
  rcases hop with rfl | rfl
  all_goals
    go_enter Tryd.func52, Tryd.ntmps52
    go_wp2
    exact bodyPost_ret (v := .tuple #[.agg #[.int .i64 2, .bool false], .bool false]) (by simp [results, Tryd.results52, go_sem]) rfl ⟨F.out, hw _ _ _⟩
end Go.Proofs.YtakaoacialnjaaaDoor
