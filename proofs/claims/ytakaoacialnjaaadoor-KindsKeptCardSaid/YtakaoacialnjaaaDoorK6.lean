import Derived.Test.YtakaoacialnjaaaDoorK5
namespace Go.Proofs.YtakaoacialnjaaaDoor
open Go Go.RowKit
set_option linter.unusedVariables false
/-- A slice of structs of s cells that can be read in w. -/
def RS {α : Type} (s : Nat) (enc : α → List Value) (w : World) (a : Option Addr) (len cap : Nat) (xs : List α) : Prop :=
  xs.length = len ∧ len ≤ cap ∧ len ≤ 281474976710656 ∧ ∀ i x, xs[i]? = some x → ∃ b off, a = some ⟨b, off, none⟩ ∧ ∀ j v, (enc x)[j]? = some v → w.cell? ⟨b, off + i * s + j, none⟩ = some v
theorem RS.below {α : Type} {s : Nat} {enc : α → List Value} {w w' : World} {a : Option Addr} {len cap : Nat} {xs : List α} (h : RS s enc w a len cap xs) (hb : Below w.heap.size w w') : RS s enc w' a len cap xs := by
  obtain ⟨h1, h2, h3, h4⟩ := h
  refine ⟨h1, h2, h3, fun i x hx => ?_⟩
  obtain ⟨b, off, e, hc⟩ := h4 i x hx
  exact ⟨b, off, e, fun j v hv => by rw [hb.cell (World.block_lt_of_cell? w _ (hc j v hv))]; exact hc j v hv⟩
theorem RS.at {α : Type} {s : Nat} {enc : α → List Value} {w : World} {a : Option Addr} {len cap : Nat} {xs : List α} (h : RS s enc w a len cap xs) {i : Nat} (hi : i < len) :
    ∃ b off x, a = some ⟨b, off, none⟩ ∧ xs[i]? = some x ∧ ∀ j v, (enc x)[j]? = some v → w.cell? ⟨b, off + i * s + j, none⟩ = some v := by
  obtain ⟨h1, h2, h3, h4⟩ := h
  obtain ⟨b, off, e, hc⟩ := h4 i xs[i] (List.getElem?_eq_getElem (by omega))
  exact ⟨b, off, _, e, List.getElem?_eq_getElem (by omega), hc⟩
structure Row where
  op : Int
  b0 : Int
  b1 : Int
  is : Int
def Row.cs (r : Row) : List Value := [.int .i64 r.op, .int .i64 r.b0, .int .i64 r.b1, .int .i64 r.is]
/-- The rows of the operators of two parts. -/
def pairT : List Row := [⟨18, 1, 1, 1⟩, ⟨18, 4, 1, 4⟩, ⟨18, 1, 4, 4⟩, ⟨18, 5, 5, 5⟩, ⟨18, 5, 3, 5⟩, ⟨19, 1, 1, 1⟩, ⟨19, 4, 4, 1⟩, ⟨19, 4, 1, 4⟩, ⟨19, 5, 5, 5⟩, ⟨19, 5, 3, 5⟩, ⟨20, 1, 1, 1⟩, ⟨21, 1, 1, 1⟩, ⟨22, 1, 1, 1⟩, ⟨13, 1, 1, 2⟩, ⟨13, 4, 4, 2⟩, ⟨13, 3, 3, 2⟩, ⟨17, 3, 5, 2⟩, ⟨9, 2, 2, 2⟩, ⟨10, 2, 2, 2⟩, ⟨28, 3, 3, 3⟩, ⟨31, 1, 1, 1⟩, ⟨31, 4, 4, 4⟩]
def pairV : Array Value := (pairT.flatMap Row.cs).toArray
set_option maxRecDepth 100000 in
set_option maxHeartbeats 2000000 in
theorem pairs_any (w : World) : Calls Tryd.prog 33 #[] w fun e w' => e = .returned (.slice (some ⟨w.heap.size, 0, none⟩) 22 22) ∧ w' = w.alloc (.cells pairV 104) := by
  have hp : pairV = #[.int .i64 18, .int .i64 1, .int .i64 1, .int .i64 1, .int .i64 18, .int .i64 4, .int .i64 1, .int .i64 4, .int .i64 18, .int .i64 1, .int .i64 4, .int .i64 4, .int .i64 18, .int .i64 5, .int .i64 5, .int .i64 5, .int .i64 18, .int .i64 5, .int .i64 3, .int .i64 5, .int .i64 19, .int .i64 1, .int .i64 1, .int .i64 1, .int .i64 19, .int .i64 4, .int .i64 4, .int .i64 1, .int .i64 19, .int .i64 4, .int .i64 1, .int .i64 4, .int .i64 19, .int .i64 5, .int .i64 5, .int .i64 5, .int .i64 19, .int .i64 5, .int .i64 3, .int .i64 5, .int .i64 20, .int .i64 1, .int .i64 1, .int .i64 1, .int .i64 21, .int .i64 1, .int .i64 1, .int .i64 1, .int .i64 22, .int .i64 1, .int .i64 1, .int .i64 1, .int .i64 13, .int .i64 1, .int .i64 1, .int .i64 2, .int .i64 13, .int .i64 4, .int .i64 4, .int .i64 2, .int .i64 13, .int .i64 3, .int .i64 3, .int .i64 2, .int .i64 17, .int .i64 3, .int .i64 5, .int .i64 2, .int .i64 9, .int .i64 2, .int .i64 2, .int .i64 2, .int .i64 10, .int .i64 2, .int .i64 2, .int .i64 2, .int .i64 28, .int .i64 3, .int .i64 3, .int .i64 3, .int .i64 31, .int .i64 1, .int .i64 1, .int .i64 1, .int .i64 31, .int .i64 4, .int .i64 4, .int .i64 4] := by rfl
  rw [hp]
  go_enter Tryd.func33, Tryd.ntmps33
  go_wp2
  go_ret
  exact ⟨rfl, rfl⟩
end Go.Proofs.YtakaoacialnjaaaDoor
