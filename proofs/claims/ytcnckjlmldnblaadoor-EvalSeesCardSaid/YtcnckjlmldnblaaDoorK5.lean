import Derived.Test.YtcnckjlmldnblaaDoorK1
import Derived.RegionTactic
import Derived.ChangeAlike
namespace Go.Proofs.YtcnckjlmldnblaaDoor
open Go Go.RowKit
set_option linter.unusedVariables false
/-- The base of operators of one part. -/
def oneK (op b : Int) : Int × Bool := if op = 7 then (1, b == 1) else if op = 8 then (2, b == 2) else (1, b == 3 || b == 5)
/-- The kind of what is either of two. -/
def joinedK (x y : Int × Bool) : (Int × Bool) × Bool := if x = (0, true) then ((y.1, true), true) else if y = (0, true) then ((x.1, true), true) else ((x.1, x.2 || y.2), x.1 == y.1)
def OneOut (e : Ending) (r : Int × Bool) : Prop := e = .returned (.tuple #[.int .i64 r.1, .bool r.2])
def KindOut (e : Ending) (r : (Int × Bool) × Bool) : Prop := e = .returned (.tuple #[.agg #[.int .i64 r.1.1, .bool r.1.2], .bool r.2])
set_option maxHeartbeats 1000000 in
theorem one_any (w : World) (op b : Int) (o : Bool) : Calls Tryd.prog 60 #[.int .i64 op, .agg #[.int .i64 b, .bool o]] w fun e w' => OneOut e (oneK op b) ∧ Below w.heap.size w w' := by
  have hw : Below w.heap.size w (w.alloc (.cells #[.int .i64 b, .bool o] 74)) := (Below.refl _ _).alloc (Nat.le_refl _) _
  by_cases h7 : op = 7
  · subst h7
    go_enter Tryd.func60, Tryd.ntmps60
    go_wp2
    go_quiet (fail)
    go_wp2
    go_ret2
    exact ⟨rfl, below_drewN hw _⟩
  by_cases h8 : op = 8
  · subst h8
    go_enter Tryd.func60, Tryd.ntmps60
    go_wp2
    go_quiet (fail)
    go_wp2
    go_ret2
    exact ⟨rfl, below_drewN hw _⟩
  have e7 : (op == 7) = false := by simpa using h7
  have e8 : (op == 8) = false := by simpa using h8
  by_cases h3 : b = 3
  · subst h3
    go_enter Tryd.func60, Tryd.ntmps60
    go_wp2
    go_quiet (fail)
    go_wp2
    go_ret2
    exact ⟨by simp [OneOut, oneK, h7, h8], below_drewN hw _⟩
  · have e3 : (b == 3) = false := by simpa using h3
    go_enter Tryd.func60, Tryd.ntmps60
    go_wp2
    go_quiet (fail)
    go_wp2
    go_ret2
    exact ⟨by simp [OneOut, oneK, h7, h8, e3], below_drewN hw _⟩
set_option maxHeartbeats 1000000 in
theorem joined_any (w : World) (xb yb : Int) (xo yo : Bool) (ht : NoTab w) (h0 : 0 < w.heap.size) :
    Calls Tryd.prog 61 #[.agg #[.int .i64 xb, .bool xo], .agg #[.int .i64 yb, .bool yo]] w fun e w' => KindOut e (joinedK (xb, xo) (yb, yo)) ∧ Below w.heap.size w w' := by
  obtain ⟨t0, t1⟩ := ht
  have hw : ∀ o, Below w.heap.size w (((w.alloc (.cells #[.int .i64 xb, .bool xo] 74)).alloc (.cells #[.int .i64 yb, .bool yo] 74)).alloc (.cells o 74)) := fun o => (((Below.refl _ _).alloc (Nat.le_refl _) _).alloc (by simp) _).alloc (by simp; omega) _
  by_cases hx : xb = 0 ∧ xo = true
  · obtain ⟨rfl, rfl⟩ := hx
    go_enter Tryd.func61, Tryd.ntmps61
    go_wp2
    exact bodyPost_ret (v := .tuple #[.agg #[.int .i64 yb, .bool true], .bool true]) (by simp [results, Tryd.results61, go_sem]) rfl ⟨rfl, hw _⟩
  by_cases hy : yb = 0 ∧ yo = true
  · obtain ⟨rfl, rfl⟩ := hy
    have hx' : xo = true → (xb == 0) = false := fun h => by simp; exact fun e => hx ⟨e, h⟩
    have e : joinedK (xb, xo) (0, true) = ((xb, true), true) := by
      simp only [joinedK]; rw [if_neg (by intro h; exact hx (by simpa using h))]; simp
    cases xo
    · go_enter Tryd.func61, Tryd.ntmps61
      go_wp2
      exact bodyPost_ret (v := .tuple #[.agg #[.int .i64 xb, .bool true], .bool true]) (by simp [results, Tryd.results61, go_sem]) rfl ⟨by first | rfl | (rw [e]; rfl), hw _⟩
    · have hx2 := hx' rfl
      have hx3 : ¬ xb = 0 := by simpa using hx2
      clear hx'
      go_enter Tryd.func61, Tryd.ntmps61
      go_wp2
      exact bodyPost_ret (v := .tuple #[.agg #[.int .i64 xb, .bool true], .bool true]) (by simp [results, Tryd.results61, go_sem]) rfl ⟨by first | rfl | (rw [e]; rfl), hw _⟩
  have e : joinedK (xb, xo) (yb, yo) = ((xb, xo || yo), xb == yb) := by
    simp only [joinedK]; rw [if_neg (by intro h; exact hx (by simpa using h)), if_neg (by intro h; exact hy (by simpa using h))]
  have HE := Lib.hid e
  clear e
  cases xo <;> cases yo
  all_goals
    simp only [and_true, Bool.false_eq_true, and_false, not_false_eq_true] at hx hy
    go_enter Tryd.func61, Tryd.ntmps61
    go_wp2
    go_region
    all_goals go_wp2
    all_goals first
      | exact bodyPost_ret (v := .tuple #[.agg #[.int .i64 xb, .bool false], .bool (xb == yb)]) (by simp [results, Tryd.results61, go_sem]) rfl ⟨by rw [HE.out]; rfl, (hw _).drew⟩
      | exact bodyPost_ret (v := .tuple #[.agg #[.int .i64 xb, .bool true], .bool (xb == yb)]) (by simp [results, Tryd.results61, go_sem]) rfl ⟨by rw [HE.out]; rfl, (hw _).drew⟩
end Go.Proofs.YtcnckjlmldnblaaDoor
namespace Go.Proofs.YtcnckjlmldnblaaDoor
open Go Go.RowKit
set_option linter.unusedVariables false
/-- A slice of structs of s cells that can be read in w. -/
def RS {α : Type} (s : Nat) (enc : α → List Value) (w : World) (a : Option Addr) (len cap : Nat) (xs : List α) : Prop :=
  xs.length = len ∧ len ≤ cap ∧ len ≤ 281474976710656 ∧ ∀ i x, xs[i]? = some x → ∃ b off, a = some ⟨b, off, none⟩ ∧ ∀ j v, (enc x)[j]? = some v → w.cell? ⟨b, off + i * s + j, none⟩ = some v
theorem RS.below {α : Type} {s : Nat} {enc : α → List Value} {w w' : World} {a : Option Addr} {len cap : Nat} {xs : List α} (h : RS s enc w a len cap xs) (hb : Below w.heap.size w w') : RS s enc w' a len cap xs := by
  obtain ⟨h1, h2, h3, h4⟩ := h
  refine ⟨h1, h2, h3, fun i x hx => ?_⟩
  obtain ⟨b, off, e, hc⟩ := h4 i x hx
  exact ⟨b, off, e, fun j v hv => by rw [hb.cell (World.block_lt_of_cell? w _ (hc j v hv))]; exact hc j v hv⟩
theorem RS.at {α : Type} {s : Nat} {enc : α → List Value} {w : World} {a : Option Addr} {len cap : Nat} {xs : List α} (h : RS s enc w a len cap xs) {i : Nat} (hi : i < len) :
    ∃ b off x, a = some ⟨b, off, none⟩ ∧ xs[i]? = some x ∧ ∀ j v, (enc x)[j]? = some v → w.cell? ⟨b, off + i * s + j, none⟩ = some v := by
  obtain ⟨h1, h2, h3, h4⟩ := h
  obtain ⟨b, off, e, hc⟩ := h4 i xs[i] (List.getElem?_eq_getElem (by omega))
  exact ⟨b, off, _, e, List.getElem?_eq_getElem (by omega), hc⟩
structure Row where
  op : Int
  b0 : Int
  b1 : Int
  is : Int
def Row.cs (r : Row) : List Value := [.int .i64 r.op, .int .i64 r.b0, .int .i64 r.b1, .int .i64 r.is]
/-- The rows of the operators of two parts. -/
def pairT : List Row := [⟨18, 1, 1, 1⟩, ⟨18, 4, 1, 4⟩, ⟨18, 1, 4, 4⟩, ⟨18, 5, 5, 5⟩, ⟨18, 5, 3, 5⟩, ⟨19, 1, 1, 1⟩, ⟨19, 4, 4, 1⟩, ⟨19, 4, 1, 4⟩, ⟨19, 5, 5, 5⟩, ⟨19, 5, 3, 5⟩, ⟨20, 1, 1, 1⟩, ⟨21, 1, 1, 1⟩, ⟨22, 1, 1, 1⟩, ⟨13, 1, 1, 2⟩, ⟨13, 4, 4, 2⟩, ⟨13, 3, 3, 2⟩, ⟨17, 3, 5, 2⟩, ⟨9, 2, 2, 2⟩, ⟨10, 2, 2, 2⟩, ⟨28, 3, 3, 3⟩, ⟨31, 1, 1, 1⟩, ⟨31, 4, 4, 4⟩]
def pairV : Array Value := (pairT.flatMap Row.cs).toArray
set_option maxRecDepth 100000 in
set_option maxHeartbeats 2000000 in
theorem pairs_any (w : World) : Calls Tryd.prog 47 #[] w fun e w' => e = .returned (.slice (some ⟨w.heap.size, 0, none⟩) 22 22) ∧ w' = w.alloc (.cells pairV 110) := by
  have hp : pairV = #[.int .i64 18, .int .i64 1, .int .i64 1, .int .i64 1, .int .i64 18, .int .i64 4, .int .i64 1, .int .i64 4, .int .i64 18, .int .i64 1, .int .i64 4, .int .i64 4, .int .i64 18, .int .i64 5, .int .i64 5, .int .i64 5, .int .i64 18, .int .i64 5, .int .i64 3, .int .i64 5, .int .i64 19, .int .i64 1, .int .i64 1, .int .i64 1, .int .i64 19, .int .i64 4, .int .i64 4, .int .i64 1, .int .i64 19, .int .i64 4, .int .i64 1, .int .i64 4, .int .i64 19, .int .i64 5, .int .i64 5, .int .i64 5, .int .i64 19, .int .i64 5, .int .i64 3, .int .i64 5, .int .i64 20, .int .i64 1, .int .i64 1, .int .i64 1, .int .i64 21, .int .i64 1, .int .i64 1, .int .i64 1, .int .i64 22, .int .i64 1, .int .i64 1, .int .i64 1, .int .i64 13, .int .i64 1, .int .i64 1, .int .i64 2, .int .i64 13, .int .i64 4, .int .i64 4, .int .i64 2, .int .i64 13, .int .i64 3, .int .i64 3, .int .i64 2, .int .i64 17, .int .i64 3, .int .i64 5, .int .i64 2, .int .i64 9, .int .i64 2, .int .i64 2, .int .i64 2, .int .i64 10, .int .i64 2, .int .i64 2, .int .i64 2, .int .i64 28, .int .i64 3, .int .i64 3, .int .i64 3, .int .i64 31, .int .i64 1, .int .i64 1, .int .i64 1, .int .i64 31, .int .i64 4, .int .i64 4, .int .i64 4] := by rfl
  rw [hp]
  go_enter Tryd.func47, Tryd.ntmps47
  go_wp2
  go_ret
  exact ⟨rfl, rfl⟩
end Go.Proofs.YtcnckjlmldnblaaDoor
