import Derived.Test.YteoggphafhcchaaGreatM3
import Derived.BigQuiet
import Derived.Deep.QuietTactic
namespace Go.Proofs.YteoggphafhcchaaGreat
open Go Go.RowKit
set_option maxRecDepth 100000
set_option maxHeartbeats 1000000
set_option linter.unusedVariables false
set_option linter.unusedSimpArgs false
open Go.Maps Go.WideMaps
theorem bel1 (w : World) (o : Obj) : Below w.heap.size w (w.alloc o) := (Below.refl _ _).alloc (Nat.le_refl _) _
theorem heap_box3 {w1 : World} {g : Nat} {z0 z1 z2 : Value} {t : TypeId} (h : w1.heap[g]? = some (.cells #[z0, z1, z2] t (0, 0))) (x0 x1 x2 : Value) :
    (((w1.setCell ⟨g, 0, none⟩ x0).setCell ⟨g, 1, none⟩ x1).setCell ⟨g, 2, none⟩ x2).heap[g]? = some (.cells #[x0, x1, x2] t (0, 0)) := by
  have h0 := heap_setCell_same w1 g 0 _ _ x0 h
  have h1 := heap_setCell_same _ g 1 _ _ x1 h0
  exact heap_setCell_same _ g 2 _ _ x2 h1
theorem retbox3 {fn : Func} {p : Tmp} (hf : fn.results = #[.cell p 56]) {tmps : Array Value} {w1 : World} {g : Nat} {z0 z1 z2 x0 x1 x2 : Value} (hg : w1.heap[g]? = some (.cells #[z0, z1, z2] 56 (0, 0))) {R : Ending → World → Prop}
    (hp : tmps.getD p undef = .pointer (some ⟨g, 0, none⟩)) (hR : R (.returned (.agg #[x0, x1, x2])) (((w1.setCell ⟨g, 0, none⟩ x0).setCell ⟨g, 1, none⟩ x1).setCell ⟨g, 2, none⟩ x2)) :
    bodyPost Tryz.prog fn R .ret { tmps := tmps, defers := [] } (((w1.setCell ⟨g, 0, none⟩ x0).setCell ⟨g, 1, none⟩ x1).setCell ⟨g, 2, none⟩ x2) :=
  bodyPost_ret (results_cell_row hf tmps _ g 56 #[x0, x1, x2] (0, 0) _ hp (heap_box3 hg x0 x1 x2) Tryz.underlying56 rfl (by kernel_rfl)) rfl hR
theorem below_box3 {B g : Nat} {w w1 : World} (hg : B ≤ g) (hb : Below B w w1) (x0 x1 x2 : Value) : Below B w (((w1.setCell ⟨g, 0, none⟩ x0).setCell ⟨g, 1, none⟩ x1).setCell ⟨g, 2, none⟩ x2) :=
  ((hb.setCell (p := ⟨g, 0, none⟩) hg x0).setCell (p := ⟨g, 1, none⟩) hg x1).setCell (p := ⟨g, 2, none⟩) hg x2
abbrev fltA (f : Flt) : Value := .agg #[.int .i64 f.step, .int .i64 f.kind, .int .i64 f.part]
def fltHit (x : Int) (f : Flt) : Bool := decide (f.step = x ∧ 1 ≤ f.kind ∧ f.kind ≤ 6)
theorem planned_hit {d : Dm} {x : Int} {k : Nat} {f : Flt} (hf : d.plan[k]? = some f) (hh : fltHit x f = true) (hn : ∀ j g, j < k → d.plan[j]? = some g → fltHit x g = false) : d.planned x = f := by
  have : d.plan.find? (fltHit x) = some f := by
    rw [List.find?_eq_some_iff_getElem]
    obtain ⟨hk, e⟩ := List.getElem?_eq_some_iff.1 hf
    exact ⟨hh, k, hk, e, fun j hj => by simp [hn j _ hj (List.getElem?_eq_getElem (by omega))]⟩
  unfold Dm.planned
  rw [show (fun f : Flt => decide (f.step = x ∧ 1 ≤ f.kind ∧ f.kind ≤ 6)) = fltHit x from rfl, this]; rfl
theorem planned_none {d : Dm} {x : Int} (hn : ∀ j g, j < d.plan.length → d.plan[j]? = some g → fltHit x g = false) : d.planned x = ⟨0, 0, 0⟩ := by
  have : d.plan.find? (fltHit x) = none := by
    rw [List.find?_eq_none]
    intro g hg
    obtain ⟨j, hj, e⟩ := List.getElem_of_mem hg
    have := hn j g hj (by rw [← e]; exact List.getElem?_eq_getElem hj)
    simp [this]
  unfold Dm.planned
  rw [show (fun f : Flt => decide (f.step = x ∧ 1 ≤ f.kind ∧ f.kind ≤ 6)) = fltHit x from rfl, this]; rfl
theorem planned_any (w : World) (L : Lay) (gd : Nat) (d : Dm) (h : DAt w L gd d) (x : Int) :
    Calls Tryz.prog 67 #[.pointer (some ⟨gd, 0, none⟩), .int .i64 x] w fun e w' => e = .returned (fltA (d.planned x)) ∧ Below w.heap.size w w' := by
  obtain ⟨-, -, -, -, -, -, -, -, -, c9, -⟩ := h.cells
  obtain ⟨a, c, hpl, hrs, -⟩ := h.pl
  rw [hpl] at c9
  have hlt := h.lt
  obtain ⟨w1, hw1⟩ : ∃ w1, w1 = w.alloc (.cells #[.int .i64 0, .int .i64 0, .int .i64 0] 56) := ⟨_, rfl⟩
  have hb1 : Below w.heap.size w w1 := by rw [hw1]; exact bel1 _ _
  have g1 : w1.heap[w.heap.size]? = some (.cells #[.int .i64 0, .int .i64 0, .int .i64 0] 56) := by rw [hw1]; exact heap_alloc_new w _
  have c9' := (hb1.cell (p := ⟨gd, 9, none⟩) hlt).trans c9
  have hlen : d.plan.length ≤ 281474976710656 := hrs.2.2.1
  have HRS := Lib.hid hrs
  have HB1 := Lib.hid hb1
  have G1 := Lib.hid g1
  clear h c9 hb1 hlt g1 hpl hrs
  go_enter Tryz.func67, Tryz.ntmps67
  go_upto_region 1 with (fail)
  rw [← hw1]
  clear hw1
  go_wp2_with fail
  go_loopw [12] (fun v wr => ∃ k : Nat, k ≤ d.plan.length ∧ v = .int .i64 k ∧ Hid (∀ j g, j < k → d.plan[j]? = some g → fltHit x g = false) ∧ Hid (Below w.heap.size w wr ∧ w.heap.size < wr.heap.size ∧ wr.heap[w.heap.size]? = some (.cells #[.int .i64 0, .int .i64 0, .int .i64 0] 56)))
    (fun v _ => d.plan.length - (intOf v).toNat)
  case atStart => exact ⟨0, Nat.zero_le _, rfl, Lib.hid (fun j g hj => absurd hj (Nat.not_lt_zero _)), Lib.hid ⟨HB1.out, (Array.getElem?_eq_some_iff.1 G1.out).1, G1.out⟩⟩
  case round =>
    obtain ⟨k, hk, rfl, HN, HW⟩ := hrel
    by_cases hkl : k < d.plan.length
    · obtain ⟨b, off, f, rfl, hf, hc⟩ := (HRS.out.below HW.out.1).at hkl
      have c0 : wr.cell? ⟨b, off + k * 3, none⟩ = some (.int .i64 f.step) := hc 0 _ rfl
      have c1 := hc 1 _ rfl
      have c2 := hc 2 _ rfl
      have HF := Lib.hid hf
      clear hc hf
      go_upto_region 4 with (fail)
      obtain ⟨w2, hw2⟩ : ∃ w2, w2 = wr.alloc (.cells #[.int .i64 f.step, .int .i64 f.kind, .int .i64 f.part] 56) := ⟨_, rfl⟩
      have hb2 : Below wr.heap.size wr w2 := by rw [hw2]; exact bel1 _ _
      have g2 : w2.heap[wr.heap.size]? = some (.cells #[.int .i64 f.step, .int .i64 f.kind, .int .i64 f.part] 56) := by rw [hw2]; exact heap_alloc_new wr _
      have HW2 := Lib.hid (show Below w.heap.size w w2 ∧ w.heap.size < w2.heap.size ∧ w2.heap[w.heap.size]? = some (.cells #[.int .i64 0, .int .i64 0, .int .i64 0] 56) from ⟨HW.out.1.trans (hb2.mono HW.out.1.size), Nat.lt_of_lt_of_le HW.out.2.1 hb2.size, (hb2.block _ HW.out.2.1).trans HW.out.2.2⟩)
      rw [← hw2]
      clear hw2 c0 c1 c2 hb2
      have q0 := cell_of_row _ _ 0 _ _ _ g2
      have q1 := cell_of_row _ _ 1 _ _ _ g2
      have q2 := cell_of_row _ _ 2 _ _ _ g2
      simp only [List.getElem?_toArray, List.getElem?_cons_zero, List.getElem?_cons_succ] at q0 q1 q2
      clear g2
      have HG : fltHit x f = false → ∀ j g, j < k + 1 → d.plan[j]? = some g → fltHit x g = false := fun hm j g hj hg => by
        by_cases hjk : j = k
        · subst hjk; rw [HF.out] at hg; cases hg; exact hm
        · exact HN.out j g (by omega) hg
      cases e1 : (f.step == x)
      · have HM := Lib.hid (HG (by unfold fltHit; simp at e1; simp [e1]))
        clear HG
        go_wp2_with fail
        exact ⟨⟨k + 1, by omega, by push_cast; rfl, HM, HW2⟩, by simp [intOf]; omega⟩
      · by_cases e2 : f.kind < 1
        · have HM := Lib.hid (HG (by unfold fltHit; simp; intros; omega))
          have e2' : ¬ 1 ≤ f.kind := by omega
          clear HG
          go_wp2_with fail
          exact ⟨⟨k + 1, by omega, by push_cast; rfl, HM, HW2⟩, by simp [intOf]; omega⟩
        · by_cases e3 : 6 < f.kind
          · have HM := Lib.hid (HG (by unfold fltHit; simp; intros; omega))
            have e2' : 1 ≤ f.kind := by omega
            have e3' : ¬ f.kind ≤ 6 := by omega
            clear HG
            go_wp2_with fail
            exact ⟨⟨k + 1, by omega, by push_cast; rfl, HM, HW2⟩, by simp [intOf]; omega⟩
          · have HE := Lib.hid (planned_hit (x := x) HF.out (by unfold fltHit; simp at e1; simp [e1]; omega) HN.out)
            have e2' : 1 ≤ f.kind := by omega
            have e3' : f.kind ≤ 6 := by omega
            have g1 := HW2.out.2.2
            have f1 := fun o => frozen_of_row w2 w.heap.size o _ _ g1
            have k0 := cell_of_row _ _ 0 _ _ _ g1
            have k1 := cell_of_row _ _ 1 _ _ _ g1
            have k2 := cell_of_row _ _ 2 _ _ _ g1
            simp only [List.getElem?_toArray, List.getElem?_cons_zero, List.getElem?_cons_succ] at k0 k1 k2
            clear g1 HG
            go_wp2_with fail
            refine retbox3 rfl HW2.out.2.2 rfl ?_
            exact ⟨by rw [HE.out], below_box3 (Nat.le_refl _) HW2.out.1 _ _ _⟩
    · obtain rfl : k = d.plan.length := by omega
      have HE := Lib.hid (planned_none HN.out)
      have g1 := HW.out.2.2
      have f1 := fun o => frozen_of_row wr w.heap.size o _ _ g1
      have k0 := cell_of_row _ _ 0 _ _ _ g1
      have k1 := cell_of_row _ _ 1 _ _ _ g1
      have k2 := cell_of_row _ _ 2 _ _ _ g1
      simp only [List.getElem?_toArray, List.getElem?_cons_zero, List.getElem?_cons_succ] at k0 k1 k2
      clear g1
      go_wp2_with fail
      refine retbox3 rfl HW.out.2.2 rfl ?_
      exact ⟨by rw [HE.out], below_box3 (Nat.le_refl _) HW.out.1 _ _ _⟩
end Go.Proofs.YteoggphafhcchaaGreat
