import Derived.Test.YteoggphafhcchaaD23
import Derived.RangeFuncWrites
namespace Go.Proofs.Yteoggphafhcchaa
open Go Go.RowKit Go.Shelf
set_option maxRecDepth 100000
set_option maxHeartbeats 1000000
set_option linter.unusedVariables false
set_option linter.unusedSimpArgs false
open Go.Maps Go.WideMaps Go.ChangeMaps
theorem Kpc.turn {cb : Nat} (W : World) (l : Nat) (o o' : Obj) (h : W.heap[l]? = some o) (hc : o.isCells = false) : Kpc cb W (W.putObj l o') := fun k cs t fz _ hk => by
  have hne : k ≠ l := by rintro rfl; rw [h] at hk; cases hk; cases hc
  exact (World.putObj_heap_other hne).trans hk
/-- Walk's iterator over a disk of empty files. -/
theorem walk_stops (bd gd cb m : Nat) (d : Dk) (D : DataW Unit) (w : World)
    (hbd : w.heap[bd]? = some (boxD gd)) (hg : w.heap[gd]? = some d.box) (hpw : d.power = true) (hm : w.ownsMap Try.prog 9 ptrR d.nb m D) (hok : ∀ s (g : Nat), at? D s = .lit (.int .i64 g) → FileE w g)
    (hnil : ∀ s : ByteArray, at? D s = .nil ↔ has D (kL s) = false) (h0 : 0 < size D) (h1 : size D ≤ 5000) (hcb : cb < w.heap.size) :
    SeqStopsK Fence.wide 4 Try.prog 30 #[.pointer (some ⟨bd, 0, none⟩)] (fun x : ByteArray => #[.string x, .int .i64 0]) (Kpc cb) (fun ys => ys.length = size D) (fun _ => True) (size D) w := fun l J Jx W hW hJ _ hY hJ0 => by
  have hbd' := (hW.block bd (Array.getElem?_eq_some_iff.1 hbd).1).trans hbd
  have hg' := (hW.block gd (Array.getElem?_eq_some_iff.1 hg).1).trans hg
  refine (iter_in 4 (by omega) l bd gd cb m d D J Jx W hJ hY hbd' hg' hpw (hm.kept (gwk hW) (by simp)) (fun s g h => ?_) hnil h0 h1 (Nat.lt_of_lt_of_le hcb hW.size) hJ0).mono ?_
  · obtain ⟨num, hf⟩ := hok s g h
    exact ⟨num, (hW.block g (Array.getElem?_eq_some_iff.1 hf).1).trans hf⟩
  · rintro e W' ⟨h1, ⟨ys, h2, h3⟩ | ⟨pre, h2⟩⟩
    · exact ⟨h1, .inl ⟨ys, h2, h3⟩⟩
    · exact ⟨h1, .inr ⟨pre, trivial, h2⟩⟩
theorem eqf45 (c : Array Value) (w : World) : (binOp .eql 45 (.func (.func 30) #[] c) .nilFunc).run Try.prog w = .ok (.bool false) w := by kernel_rfl
/-- A return ahead of every range over a function. -/
theorem postM_of {F : Fence} {n : Nat} {P : Program} {fn : Func} {R : Ending → World → Prop} {a : Act} {w : World} (h : bodyPost P fn R .ret a w) : bodyPostM F n P fn R .ret a w := by
  have h1 := h.1
  show LeavesInM F n P fn a.tmps R a.defers .returning w
  rw [h1]
  exact h.2
/-- The return behind one range over a function. -/
theorem leave1 {n : Nat} {P : Program} {fn : Func} {R : Ending → World → Prop} {W : World} {tmps : Array Value} {D : Nat} (hK : W.heap[D]? = some (Obj.deferred (some []))) (h : bodyPost P fn R .ret { tmps := tmps, defers := [] } (W.putObj D (.deferred none))) :
    bodyPostM Fence.wide n P fn R .ret { tmps := tmps, defers := [{ target := .collected D, args := #[] }] } W :=
  ⟨by simp, .inl ⟨_, _, rfl, run_takeDeferred hK, h.2⟩⟩
end Go.Proofs.Yteoggphafhcchaa
