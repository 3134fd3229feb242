import Derived.Test.YteoggphafhcchaaGreatM21
import Derived.Test.YteoggphafhcchaaGreatLayF
import Derived.Shelf.SlSortCmp.NoneTotal
namespace Go.Proofs.YteoggphafhcchaaGreat
open Go Go.RowKit Go.Shelf Go.Lib Go.Sort
set_option maxRecDepth 100000
set_option maxHeartbeats 1000000
set_option linter.unusedVariables false
set_option linter.unusedSimpArgs false
open Go.Maps Go.WideMaps
def cmpI (x y : Int) : Int := if x < y then -1 else if y < x then 1 else 0
theorem isnan_any (w : World) (x : Int) : Calls Tryz.prog 78 #[.int .i64 x] w fun e w' => e = .returned (.bool false) ∧ w' = w := by
  have h : (x != x) = false := by simp
  go_enter Tryz.func78, Tryz.ntmps78
  go_wp2
  go_ret
  exact ⟨by simp, rfl⟩
theorem compare_any (w : World) (x y : Int) : Calls Tryz.prog 60 #[.int .i64 x, .int .i64 y] w fun e w' => e = .returned (.int .i64 (cmpI x y)) ∧ w' = w := by
  by_cases h1 : x < y
  · have HE := Lib.hid (show cmpI x y = -1 by unfold cmpI; rw [if_pos h1])
    go_enter Tryz.func60, Tryz.ntmps60
    go_wp2_with (go_at_call 78; refine (isnan_any _ _).mono ?_; rintro e w' ⟨rfl, rfl⟩)
    go_ret
    exact ⟨by rw [HE.out]; rfl, rfl⟩
  · by_cases h2 : y < x
    · have HE := Lib.hid (show cmpI x y = 1 by unfold cmpI; rw [if_neg h1, if_pos h2])
      go_enter Tryz.func60, Tryz.ntmps60
      go_wp2_with (go_at_call 78; refine (isnan_any _ _).mono ?_; rintro e w' ⟨rfl, rfl⟩)
      go_ret
      exact ⟨by rw [HE.out]; rfl, rfl⟩
    · have HE := Lib.hid (show cmpI x y = 0 by unfold cmpI; rw [if_neg h1, if_neg h2])
      go_enter Tryz.func60, Tryz.ntmps60
      go_wp2_with (go_at_call 78; refine (isnan_any _ _).mono ?_; rintro e w' ⟨rfl, rfl⟩)
      go_ret
      exact ⟨by rw [HE.out]; rfl, rfl⟩
/-- reach's closure. -/
theorem bynum_any (w : World) (p q : Nat) (x y : Int) (hp : w.cell? ⟨p, 0, none⟩ = some (.int .i64 x)) (hq : w.cell? ⟨q, 0, none⟩ = some (.int .i64 y)) :
    Calls Tryz.prog 59 #[.pointer (some ⟨p, 0, none⟩), .pointer (some ⟨q, 0, none⟩)] w fun e w' => e = .returned (.int .i64 (cmpI x y)) ∧ ∃ n, w' = w.drewN n := by
  go_enter Tryz.func59, Tryz.ntmps59
  go_wp2_with fail
  go_region_held3 (fun w' => w'.cell? ⟨p, 0, none⟩ = some (.int .i64 x) ∧ w'.cell? ⟨q, 0, none⟩ = some (.int .i64 y)) (exact ⟨hp, hq⟩) (first | (go_at_call 60; refine (compare_any _ _ _).mono ?_; rintro e w' ⟨rfl, rfl⟩))
  go_wp2_with fail
  go_ret
  exact ⟨rfl, 1, rfl⟩
def numC (N : Nat) (x y : { i : Nat // i < N }) : Int := cmpI ((x.1 : Int) + 1) ((y.1 : Int) + 1)
theorem num_lt (N : Nat) (x y : { i : Nat // i < N }) : ltOf (numC N) x y = decide (x.1 < y.1) := by
  unfold ltOf numC cmpI
  by_cases h1 : x.1 < y.1
  · rw [if_pos (by omega)]; simp [h1]
  · rw [if_neg (by omega)]
    by_cases h2 : y.1 < x.1
    · rw [if_pos (by omega)]; simp [h1]
    · rw [if_neg (by omega)]; simp [h1]
theorem num_swo (N : Nat) : SWO (ltOf (numC N)) where
  irrefl x := by rw [num_lt]; simp
  trans x y z h1 h2 := by rw [num_lt] at *; simp at *; omega
  ntrans x y z h1 h2 := by rw [num_lt] at *; simp at *; omega
def ptrE (fa : Nat → Nat) (N : Nat) (x : { i : Nat // i < N }) : Value := .pointer (some ⟨fa x.1, 0, none⟩)
theorem sort_cell {α : Type} [Inhabited α] (enc : α → Value) (w : World) (blk off m : Nat) (dk : Array α) (os : Array Obj) (a : Addr) (h : a.block ≠ blk) (hl : a.block < w.heap.size) : (sortWorld enc w blk off m dk os).cell? a = w.cell? a := by
  unfold sortWorld
  rw [cell?_grow _ _ _ (by simpa [putRow, mapBlock, Sort.ahead] using hl), cell?_putRow_other _ _ _ _ _ _ (.inl h)]
  rfl
theorem sort_block {α : Type} [Inhabited α] (enc : α → Value) (w : World) (blk off m : Nat) (dk : Array α) (os : Array Obj) (k : Nat) (h : k ≠ blk) (hl : k < w.heap.size) : (sortWorld enc w blk off m dk os).heap[k]? = w.heap[k]? := by
  unfold sortWorld
  rw [heap_grow_old _ _ (by simpa [putRow, mapBlock, Sort.ahead] using hl)]
  unfold putRow mapBlock Sort.ahead
  simp [Array.getElem?_modify, Ne.symm h]
end Go.Proofs.YteoggphafhcchaaGreat
