import Derived.Test.YteoggphafhcchaaGreatM12b
import Derived.Test.YteoggphafhcchaaGreatM6c
import Derived.Test.YteoggphafhcchaaGreatM6d
namespace Go.Proofs.YteoggphafhcchaaGreat
open Go Go.RowKit
set_option maxRecDepth 100000
set_option maxHeartbeats 1000000
set_option linter.unusedVariables false
set_option linter.unusedSimpArgs false
open Go.Maps Go.WideMaps
theorem sl50 : Sl Tryz.prog 50 5 (.int .u8 0) 1 1 := ⟨Tryz.underlying50, by kernel_rfl, rfl, by decide⟩
theorem eqn50 (c : Nat) (w : World) : (binOp .eql 50 (.slice none 0 c) (.slice none 0 0)).run Tryz.prog w = .ok (.bool true) w := by kernel_rfl
theorem eqs50 (ad : Addr) (n c : Nat) (w : World) : (binOp .eql 50 (.slice (some ad) n c) (.slice none 0 0)).run Tryz.prog w = .ok (.bool false) w := by kernel_rfl
theorem bclone_any (w : World) (a : Option Addr) (n c : Nat) (l : List UInt8) (h : R8 w a n c l) (hn : n ≤ 140737488355328) :
    Calls Tryz.prog 33 #[.slice a n c] w fun e w' => (∃ a' c', e = .returned (.slice a' n c') ∧ w'.ownsRow w.heap.size 5 1 (.slice a' n c') n (l.map b8)) ∧ Below w.heap.size w w' := by
  cases a with
  | none =>
    have hl : l = [] := by
      cases l with
      | nil => rfl
      | cons x r => obtain ⟨b, off, e, -⟩ := h.2.2.2 0 (by simp); cases e
    subst hl
    obtain rfl : n = 0 := h.1.symm
    have hq := eqn50 c w
    go_enter Tryz.func33, Tryz.ntmps33
    go_wp2_with fail
    go_ret
    exact ⟨⟨none, 0, rfl, by simp, .inl ⟨rfl, rfl⟩⟩, Below.refl _ _⟩
  | some ad =>
    have hq := eqs50 ad n c w
    have hb1 : Below w.heap.size w (w.alloc (.cells #[] 5)) := bel1 _ _
    have HR := Lib.hid (h.below hb1)
    have HO := Lib.hid (show (w.alloc (.cells #[] 5)).ownsRow w.heap.size 5 1 (.slice (some ⟨w.heap.size, 0, none⟩) 0 0) 0 [] from ⟨rfl, .inr ⟨w.heap.size, 0, #[], rfl, Nat.le_refl _, heap_alloc_new w _, Nat.le_refl _, by simp [maxLen], rfl, rfl⟩⟩)
    have HB := Lib.hid hb1
    clear h hb1
    go_enter Tryz.func33, Tryz.ntmps33
    go_wp2_with (at_builtin; refine L_append8 rfl (.tmp 5) (.tmp 6) 50 (by rfl) sl50 w.heap.size (.slice (some ⟨w.heap.size, 0, none⟩) 0 0) 0 [] rfl HO.out (some ad) n c l rfl HR.out (by omega) (by unfold maxLen; omega) (by simp) ?_; intro a4 c4 w4 ho4 hg4 hat4)
    go_ret
    rw [Nat.zero_add] at ho4
    simp only [Nat.zero_add]
    exact ⟨⟨a4, c4, rfl, ho4⟩, HB.out.grown hg4 (by simp) (fun k hk => by cases hk; exact Nat.le_refl _)⟩
end Go.Proofs.YteoggphafhcchaaGreat
