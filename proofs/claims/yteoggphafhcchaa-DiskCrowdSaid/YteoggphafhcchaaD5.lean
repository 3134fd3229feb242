import Derived.Test.YteoggphafhcchaaD4
namespace Go.Proofs.Yteoggphafhcchaa
open Go Go.RowKit
set_option maxRecDepth 100000
set_option maxHeartbeats 4000000
set_option linter.unusedVariables false
set_option linter.unusedSimpArgs false
theorem bel1 (w : World) (o : Obj) : Below w.heap.size w (w.alloc o) := (Below.refl _ _).alloc (Nat.le_refl _) _
theorem heap_box3 {w1 : World} {g : Nat} {z0 z1 z2 : Value} {t : TypeId} (h : w1.heap[g]? = some (.cells #[z0, z1, z2] t (0, 0))) (x0 x1 x2 : Value) :
    (((w1.setCell ⟨g, 0, none⟩ x0).setCell ⟨g, 1, none⟩ x1).setCell ⟨g, 2, none⟩ x2).heap[g]? = some (.cells #[x0, x1, x2] t (0, 0)) := by
  have h0 := heap_setCell_same w1 g 0 _ _ x0 h
  have h1 := heap_setCell_same _ g 1 _ _ x1 h0
  exact heap_setCell_same _ g 2 _ _ x2 h1
theorem retbox3 {fn : Func} {p : Tmp} (hf : fn.results = #[.cell p 96]) {tmps : Array Value} {w1 : World} {g : Nat} {z0 z1 z2 x0 x1 x2 : Value} (hg : w1.heap[g]? = some (.cells #[z0, z1, z2] 96 (0, 0))) {R : Ending → World → Prop}
    (hp : tmps.getD p undef = .pointer (some ⟨g, 0, none⟩)) (hR : R (.returned (.agg #[x0, x1, x2])) (((w1.setCell ⟨g, 0, none⟩ x0).setCell ⟨g, 1, none⟩ x1).setCell ⟨g, 2, none⟩ x2)) :
    bodyPost Try.prog fn R .ret { tmps := tmps, defers := [] } (((w1.setCell ⟨g, 0, none⟩ x0).setCell ⟨g, 1, none⟩ x1).setCell ⟨g, 2, none⟩ x2) :=
  bodyPost_ret (results_cell_row hf tmps _ g 96 #[x0, x1, x2] (0, 0) _ hp (heap_box3 hg x0 x1 x2) Try.underlying96 rfl (by kernel_rfl)) rfl hR
theorem below_box3 {B g : Nat} {w w1 : World} (hg : B ≤ g) (hb : Below B w w1) (x0 x1 x2 : Value) : Below B w (((w1.setCell ⟨g, 0, none⟩ x0).setCell ⟨g, 1, none⟩ x1).setCell ⟨g, 2, none⟩ x2) :=
  ((hb.setCell (p := ⟨g, 0, none⟩) hg x0).setCell (p := ⟨g, 1, none⟩) hg x1).setCell (p := ⟨g, 2, none⟩) hg x2
/-- A fault that was planned. -/
abbrev noF : Value := .agg #[.int .i64 0, .int .i64 0, .int .i64 0]
theorem planned_nil (w : World) (gd : Nat) (d : Dk) (hg : w.heap[gd]? = some d.box) (hp : d.pl = .slice none 0 0) (x : Int) :
    Calls Try.prog 36 #[.pointer (some ⟨gd, 0, none⟩), .int .i64 x] w fun e w' => e = .returned noF ∧ Below w.heap.size w w' := by
  obtain ⟨-, -, -, -, -, -, -, -, -, c9, -⟩ := Dk.cells hg
  rw [hp] at c9
  have hlt := (Array.getElem?_eq_some_iff.1 hg).1
  obtain ⟨w1, hw1⟩ : ∃ w1, w1 = w.alloc (.cells #[.int .i64 0, .int .i64 0, .int .i64 0] 96) := ⟨_, rfl⟩
  have hb1 : Below w.heap.size w w1 := by rw [hw1]; exact bel1 _ _
  have g1 : w1.heap[w.heap.size]? = some (.cells #[.int .i64 0, .int .i64 0, .int .i64 0] 96) := by rw [hw1]; exact heap_alloc_new w _
  have c9' := (hb1.cell (p := ⟨gd, 9, none⟩) hlt).trans c9
  have f1 := fun o => frozen_of_row w1 w.heap.size o _ _ g1
  have k0 := cell_of_row _ _ 0 _ _ _ g1
  have k1 := cell_of_row _ _ 1 _ _ _ g1
  have k2 := cell_of_row _ _ 2 _ _ _ g1
  simp only [List.getElem?_toArray, List.getElem?_cons_zero, List.getElem?_cons_succ] at k0 k1 k2
  have HB1 := Lib.hid hb1
  have G1 := Lib.hid g1
  clear hg c9 hb1 hlt g1
  go_enter Try.func36, Try.ntmps36
  go_upto_region 1 with (fail)
  rw [← hw1]
  clear hw1
  go_wp2_with fail
  refine wp_loop_rounds 1 ?_
  rw [rounds_succ]
  go_wp2_with fail
  refine retbox3 rfl G1.out rfl ?_
  exact ⟨rfl, below_box3 (Nat.le_refl _) HB1.out _ _ _⟩
/-- The disk's block, and all that stands beside it, behind one more act. -/
theorem Dk.acts_set {w : World} {gd : Nat} {d : Dk} (h : w.heap[gd]? = some d.box) (x : Int) : (w.setCell ⟨gd, 0, none⟩ (.int .i64 x)).heap[gd]? = some ({ d with acts := x } : Dk).box :=
  heap_setCell_same w gd 0 _ _ (.int .i64 x) h
/-- An act that no fault stops: the counter goes on, and the whole is done. -/
theorem begin_create (w : World) (gd : Nat) (d : Dk) (hg : w.heap[gd]? = some d.box) (hp : d.pl = .slice none 0 0) (ha : wrap64 (d.acts + 1) = d.acts + 1) (x0 x1 pt : Value) (R : World → Prop)
    (hW : ∀ w1, Below w.heap.size w w1 → Calls Try.prog 24 #[x0, x1] (w1.setCell ⟨gd, 0, none⟩ (.int .i64 (d.acts + 1))) fun e w' => e = .returned (.tuple #[]) ∧ R w') :
    Calls Try.prog 23 #[.pointer (some ⟨gd, 0, none⟩), .func (.func 24) #[] #[x0, x1], pt] w fun e w' => e = .returned (.int .i64 0) ∧ R w' := by
  have HW := Lib.hid hW
  have HP := Lib.hid (planned_nil w gd d hg hp d.acts)
  obtain ⟨c0, -, -, -, -, -, -, -, -, -, -, fr⟩ := Dk.cells hg
  have hlt := (Array.getElem?_eq_some_iff.1 hg).1
  have f0 := fr 0
  have HG := Lib.hid hg
  clear hW hg fr
  go_enter Try.func23, Try.ntmps23
  go_upto_region 2 with (go_at_call 36; (refine HP.out.mono ?_); rintro e w1 ⟨rfl, hb1⟩; have HB1 := Lib.hid hb1; clear hb1)
  obtain ⟨w2, hw2⟩ : ∃ w2, w2 = w1.alloc (.cells #[.int .i64 0, .int .i64 0, .int .i64 0] 96) := ⟨_, rfl⟩
  have z1 := HB1.out.size
  have hb2 : Below w.heap.size w w2 := by rw [hw2]; exact HB1.out.alloc z1 _
  have g2 : w2.heap[w1.heap.size]? = some (.cells #[.int .i64 0, .int .i64 0, .int .i64 0] 96) := by rw [hw2]; exact heap_alloc_new w1 _
  have hgd2 := (hb2.block gd hlt).trans HG.out
  rw [← hw2]
  clear hw2
  have hne : w1.heap.size ≠ gd := by omega
  have c0' := (hb2.cell (p := ⟨gd, 0, none⟩) hlt).trans c0
  have f0' := frozen_of_row w2 gd 0 _ _ hgd2
  have k1 : ∀ x, (w2.setCell ⟨gd, 0, none⟩ x).cell? ⟨w1.heap.size, 1, none⟩ = some (.int .i64 0) := fun x => (World.cell?_of_block (heap_setCell_other w2 ⟨gd, 0, none⟩ w1.heap.size x hne)).trans (by rw [cell_of_row _ _ _ _ _ _ g2]; rfl)
  have HC := Lib.hid (HW.out w2 hb2)
  clear c0 f0 g2 hgd2 hb2 HB1 HW HP z1
  go_wp2_with fail
  refine HC.out.mono ?_
  rintro e w3 ⟨rfl, hR3⟩
  clear k1 c0' f0'
  go_wp2_with fail
  go_ret
  exact ⟨rfl, hR3⟩
/-- An act that no fault stops: the counter goes on, and the whole is done. -/
theorem begin_rename (w : World) (gd : Nat) (d : Dk) (hg : w.heap[gd]? = some d.box) (hp : d.pl = .slice none 0 0) (ha : wrap64 (d.acts + 1) = d.acts + 1) (x0 x1 x2 pt : Value) (R : World → Prop)
    (hW : ∀ w1, Below w.heap.size w w1 → Calls Try.prog 28 #[x0, x1, x2] (w1.setCell ⟨gd, 0, none⟩ (.int .i64 (d.acts + 1))) fun e w' => e = .returned (.tuple #[]) ∧ R w') :
    Calls Try.prog 23 #[.pointer (some ⟨gd, 0, none⟩), .func (.func 28) #[] #[x0, x1, x2], pt] w fun e w' => e = .returned (.int .i64 0) ∧ R w' := by
  have HW := Lib.hid hW
  have HP := Lib.hid (planned_nil w gd d hg hp d.acts)
  obtain ⟨c0, -, -, -, -, -, -, -, -, -, -, fr⟩ := Dk.cells hg
  have hlt := (Array.getElem?_eq_some_iff.1 hg).1
  have f0 := fr 0
  have HG := Lib.hid hg
  clear hW hg fr
  go_enter Try.func23, Try.ntmps23
  go_upto_region 2 with (go_at_call 36; (refine HP.out.mono ?_); rintro e w1 ⟨rfl, hb1⟩; have HB1 := Lib.hid hb1; clear hb1)
  obtain ⟨w2, hw2⟩ : ∃ w2, w2 = w1.alloc (.cells #[.int .i64 0, .int .i64 0, .int .i64 0] 96) := ⟨_, rfl⟩
  have z1 := HB1.out.size
  have hb2 : Below w.heap.size w w2 := by rw [hw2]; exact HB1.out.alloc z1 _
  have g2 : w2.heap[w1.heap.size]? = some (.cells #[.int .i64 0, .int .i64 0, .int .i64 0] 96) := by rw [hw2]; exact heap_alloc_new w1 _
  have hgd2 := (hb2.block gd hlt).trans HG.out
  rw [← hw2]
  clear hw2
  have hne : w1.heap.size ≠ gd := by omega
  have c0' := (hb2.cell (p := ⟨gd, 0, none⟩) hlt).trans c0
  have f0' := frozen_of_row w2 gd 0 _ _ hgd2
  have k1 : ∀ x, (w2.setCell ⟨gd, 0, none⟩ x).cell? ⟨w1.heap.size, 1, none⟩ = some (.int .i64 0) := fun x => (World.cell?_of_block (heap_setCell_other w2 ⟨gd, 0, none⟩ w1.heap.size x hne)).trans (by rw [cell_of_row _ _ _ _ _ _ g2]; rfl)
  have HC := Lib.hid (HW.out w2 hb2)
  clear c0 f0 g2 hgd2 hb2 HB1 HW HP z1
  go_wp2_with fail
  refine HC.out.mono ?_
  rintro e w3 ⟨rfl, hR3⟩
  clear k1 c0' f0'
  go_wp2_with fail
  go_ret
  exact ⟨rfl, hR3⟩
/-- An act that no fault stops: the counter goes on, and the whole is done. -/
theorem begin_remove (w : World) (gd : Nat) (d : Dk) (hg : w.heap[gd]? = some d.box) (hp : d.pl = .slice none 0 0) (ha : wrap64 (d.acts + 1) = d.acts + 1) (x0 x1 pt : Value) (R : World → Prop)
    (hW : ∀ w1, Below w.heap.size w w1 → Calls Try.prog 29 #[x0, x1] (w1.setCell ⟨gd, 0, none⟩ (.int .i64 (d.acts + 1))) fun e w' => e = .returned (.tuple #[]) ∧ R w') :
    Calls Try.prog 23 #[.pointer (some ⟨gd, 0, none⟩), .func (.func 29) #[] #[x0, x1], pt] w fun e w' => e = .returned (.int .i64 0) ∧ R w' := by
  have HW := Lib.hid hW
  have HP := Lib.hid (planned_nil w gd d hg hp d.acts)
  obtain ⟨c0, -, -, -, -, -, -, -, -, -, -, fr⟩ := Dk.cells hg
  have hlt := (Array.getElem?_eq_some_iff.1 hg).1
  have f0 := fr 0
  have HG := Lib.hid hg
  clear hW hg fr
  go_enter Try.func23, Try.ntmps23
  go_upto_region 2 with (go_at_call 36; (refine HP.out.mono ?_); rintro e w1 ⟨rfl, hb1⟩; have HB1 := Lib.hid hb1; clear hb1)
  obtain ⟨w2, hw2⟩ : ∃ w2, w2 = w1.alloc (.cells #[.int .i64 0, .int .i64 0, .int .i64 0] 96) := ⟨_, rfl⟩
  have z1 := HB1.out.size
  have hb2 : Below w.heap.size w w2 := by rw [hw2]; exact HB1.out.alloc z1 _
  have g2 : w2.heap[w1.heap.size]? = some (.cells #[.int .i64 0, .int .i64 0, .int .i64 0] 96) := by rw [hw2]; exact heap_alloc_new w1 _
  have hgd2 := (hb2.block gd hlt).trans HG.out
  rw [← hw2]
  clear hw2
  have hne : w1.heap.size ≠ gd := by omega
  have c0' := (hb2.cell (p := ⟨gd, 0, none⟩) hlt).trans c0
  have f0' := frozen_of_row w2 gd 0 _ _ hgd2
  have k1 : ∀ x, (w2.setCell ⟨gd, 0, none⟩ x).cell? ⟨w1.heap.size, 1, none⟩ = some (.int .i64 0) := fun x => (World.cell?_of_block (heap_setCell_other w2 ⟨gd, 0, none⟩ w1.heap.size x hne)).trans (by rw [cell_of_row _ _ _ _ _ _ g2]; rfl)
  have HC := Lib.hid (HW.out w2 hb2)
  clear c0 f0 g2 hgd2 hb2 HB1 HW HP z1
  go_wp2_with fail
  refine HC.out.mono ?_
  rintro e w3 ⟨rfl, hR3⟩
  clear k1 c0' f0'
  go_wp2_with fail
  go_ret
  exact ⟨rfl, hR3⟩
end Go.Proofs.Yteoggphafhcchaa
