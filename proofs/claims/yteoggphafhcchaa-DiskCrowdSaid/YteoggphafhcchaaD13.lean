import Derived.Test.YteoggphafhcchaaD12
import Derived.Maps.AppendAt
import Derived.Maps.RangeWalk
namespace Go.Proofs.Yteoggphafhcchaa
open Go Go.RowKit
set_option maxRecDepth 100000
set_option maxHeartbeats 1000000
set_option linter.unusedVariables false
set_option linter.unusedSimpArgs false
open Go.Maps Go.WideMaps
/-- A new disk, before it is shared: both maps read as the same names. -/
structure New (w : World) (B gd : Nat) (d : Dk) (n : Nat) (D : DataW Unit) : Prop where
  g : w.heap[gd]? = some d.box
  hB : B ≤ gd
  pw : d.power = true
  pl : d.pl = .slice none 0 0
  us : d.used = 0
  ac : d.acts = 0
  m : w.ownsMap Try.prog 9 ptrR d.nb n D
  m2 : ∃ D2, w.ownsMap Try.prog 9 ptrR d.sb n D2
  ne : d.nb ≠ d.sb
  mB : B ≤ d.nb
  sB : B ≤ d.sb
  ch : d.ch = .slice none 0 0
  ok : ∀ s (g : Nat), at? D s = .lit (.int .i64 g) → FileE w g
theorem acts_any (w : World) (gd : Nat) (d : Dk) (hg : w.heap[gd]? = some d.box) :
    Calls Try.prog 9 #[.pointer (some ⟨gd, 0, none⟩)] w fun e w' => e = .returned (.int .i64 d.acts) ∧ w' = w := by
  obtain ⟨c0, -⟩ := Dk.cells hg
  clear hg
  go_enter Try.func9, Try.ntmps9
  go_wp2_with fail
  go_returns
  exact ⟨rfl, rfl⟩
theorem new_any (w : World) :
    Calls Try.prog 13 #[.int .i64 0] w fun e w' => (∃ gd d, e = .returned (.tuple #[.pointer (some ⟨gd, 0, none⟩), .nilIface]) ∧ New w' w.heap.size gd d 0 (.map []) ∧ d.files = 0) ∧ Below w.heap.size w w' := by
  have hmm := @run_makeMap Try.prog
  go_enter Try.func13, Try.ntmps13
  go_wp2_with fail
  go_returns
  refine ⟨⟨w.heap.size + 1 + 1 + 1, ⟨0, 0, 0, 0, 0, true, w.heap.size, w.heap.size + 1, .slice none 0 0, .slice none 0 0, w.heap.size + 1 + 1⟩, rfl, ?_, rfl⟩, ?_⟩
  · have e1 : (w.alloc (.map #[] 0)).heap.size = w.heap.size + 1 := by simp
    have e3 : (((w.alloc (.map #[] 0)).alloc (.map #[] 0)).alloc (.map #[] 0)).heap.size = w.heap.size + 1 + 1 + 1 := by simp
    have g := heap_alloc_new (((w.alloc (.map #[] 0)).alloc (.map #[] 0)).alloc (.map #[] 0)) (Dk.box ⟨0, 0, 0, 0, 0, true, w.heap.size, w.heap.size + 1, .slice none 0 0, .slice none 0 0, w.heap.size + 1 + 1⟩)
    rw [e3] at g
    have m1 := World.ownsMap_made (w.alloc (.map #[] 0)) Try.prog 9 ptrR
    rw [e1] at m1
    refine ⟨g, by omega, rfl, rfl, rfl, rfl, (((World.ownsMap_made w Try.prog 9 ptrR).alloc _).alloc _).alloc _, ⟨_, (m1.alloc _).alloc _⟩, by simp, Nat.le_refl _, by simp, rfl, ?_⟩
    intro s g h
    cases h
  · exact ((((Below.refl _ _).alloc (Nat.le_refl _) _).alloc (by simp) _).alloc (by simp; omega) _).alloc (by simp; omega) _
end Go.Proofs.Yteoggphafhcchaa
