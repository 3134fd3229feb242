import Derived.Test.YtdepdediggokgaaDoorE5
import Derived.Test.YtdepdediggokgaaDoorW5
namespace Go.Proofs.YtdepdediggokgaaDoor
open Go.RowKit Go.Shelf
set_option linter.unusedVariables false
theorem rowsfn_any (w : World) (n : Int) (a : Option Addr) (m c : Nat) (l : List UInt8) (h : R8 w a m c l) (hm : m ≤ 140737488351232) :
    Calls Tryd.prog 42 #[.int .i64 n, .slice a m c] w fun e w' => ∃ a' c', e = .returned (.func (.func 49) #[] #[.pointer (some ⟨w.heap.size, 0, none⟩), .pointer (some ⟨w.heap.size + 1, 0, none⟩)]) ∧
      w'.cell? ⟨w.heap.size, 0, none⟩ = some (.int .i64 n) ∧ w'.cell? ⟨w.heap.size + 1, 0, none⟩ = some (.slice a' m c') ∧ w'.ownsRow w.heap.size 5 1 (.slice a' m c') m (l.map b8) ∧ Below w.heap.size w w' := by
  obtain ⟨B, hB⟩ : ∃ B, B = w.heap.size := ⟨_, rfl⟩
  have b1 : Below w.heap.size w (w.alloc (.cells #[.int .i64 n] 3)) := (Below.refl _ _).alloc (Nat.le_refl _) _
  have b2 : Below w.heap.size w ((w.alloc (.cells #[.int .i64 n] 3)).alloc (.cells #[.slice a m c] 22)) := b1.alloc (by simp) _
  have c1 : ((w.alloc (.cells #[.int .i64 n] 3)).alloc (.cells #[.slice a m c] 22)).cell? ⟨w.heap.size, 0, none⟩ = some (.int .i64 n) := by simp
  have c2 : ((w.alloc (.cells #[.int .i64 n] 3)).alloc (.cells #[.slice a m c] 22)).cell? ⟨w.heap.size + 1, 0, none⟩ = some (.slice a m c) := by simp
  have h2 : ((w.alloc (.cells #[.int .i64 n] 3)).alloc (.cells #[.slice a m c] 22)).heap[w.heap.size + 1]? = some (.cells #[.slice a m c] 22 (0, 0)) := by
    have := heap_alloc_new (w.alloc (.cells #[.int .i64 n] 3)) (.cells #[.slice a m c] 22)
    rwa [World.size_alloc] at this
  have hr2 := h.below b2
  have z2 : ((w.alloc (.cells #[.int .i64 n] 3)).alloc (.cells #[.slice a m c] 22)).heap.size = w.heap.size + 2 := by simp
  go_enter Tryd.func42, Tryd.ntmps42
  go_wp2_with fail
  generalize (w.alloc (.cells #[.int .i64 n] 3)).alloc (.cells #[.slice a m c] 22) = w2 at *
  with_reducible refine (clone_any w2 _ _ _ l hr2 hm).mono ?_
  rintro e w3 ⟨a', c', rfl, o3, b3⟩
  have z3 := b3.size
  have hh3 := (b3.block _ (by omega)).trans h2
  have c31 := (b3.cell (p := ⟨w.heap.size, 0, none⟩) (by show w.heap.size < w2.heap.size; omega)).trans c1
  have c32 := cell_of_row w3 (w.heap.size + 1) 0 _ _ _ hh3
  have f32 := frozen_of_row w3 (w.heap.size + 1) 0 _ _ hh3
  simp at c32
  have O3 := Lib.hid o3
  have B3 := Lib.hid (b2.trans (b3.mono (by omega)))
  have HH := Lib.hid hh3
  clear o3 b3 b2 b1 c1 c2 h2 hr2 hh3
  go_wp2
  go_ret
  have q3 := heap_setCell_same w3 (w.heap.size + 1) 0 _ _ (.slice a' m c') HH.out
  have hg : w3.grownBy (w3.setCell ⟨w.heap.size + 1, 0, none⟩ (.slice a' m c')) (some (w.heap.size + 1)) := ⟨rfl, rfl, rfl, by simp, fun k _ hk => heap_setCell_other w3 ⟨w.heap.size + 1, 0, none⟩ k _ (fun e => hk (by simp [e]))⟩
  have hne : (Value.slice a' m c').ownBlock = none ∨ (Value.slice a' m c').ownBlock ≠ some (w.heap.size + 1) := by
    cases hv : (Value.slice a' m c').ownBlock with
    | none => exact .inl rfl
    | some k => right; intro e; have := (O3.out.lt k hv).1; have := Option.some.inj e; omega
  refine ⟨a', c', rfl, (World.cell?_of_block (heap_setCell_other w3 ⟨w.heap.size + 1, 0, none⟩ w.heap.size _ (by simp))).trans c31, cell_of_row _ _ 0 _ _ _ q3, owns_mono (O3.out.kept hg hne) (by omega), B3.out.setCell (p := ⟨w.heap.size + 1, 0, none⟩) (by simp) _⟩
end Go.Proofs.YtdepdediggokgaaDoor
