import Derived.Test.YteoggphafhcchaaGreatM5
namespace Go.Proofs.YteoggphafhcchaaGreat
open Go Go.RowKit
set_option maxRecDepth 100000
set_option maxHeartbeats 1000000
set_option linter.unusedVariables false
set_option linter.unusedSimpArgs false
open Go.Maps Go.WideMaps
/-- Disk.begin, with the closures 70 and 51. -/
theorem begin_sync (w : World) (L : Lay) (gd : Nat) (d : Dm) (h : DAt w L gd d) (ha : d.acts < 4611686018427387904) (x0 : Value) (Wh : Dm → Dm) (Pt : Int → Dm → Dm)
    (hW : ∀ w2, Upd L.ρ L.ρ w w2 → DAt w2 L gd { d with acts := d.acts + 1 } → Calls Tryz.prog 70 #[x0] w2 fun e w' => e = .returned (.tuple #[]) ∧ ∃ L', DAt w' L' gd (Wh { d with acts := d.acts + 1 }) ∧ Upd L.ρ L'.ρ w2 w')
    (hP : ∀ w2 n, Upd L.ρ L.ρ w w2 → DAt w2 L gd { d with acts := d.acts + 1 } → Calls Tryz.prog 51 #[.int .i64 n] w2 fun e w' => e = .returned (.tuple #[]) ∧ ∃ L', DAt w' L' gd (Pt n { d with acts := d.acts + 1 }) ∧ Upd L.ρ L'.ρ w2 w') :
    Calls Tryz.prog 48 #[.pointer (some ⟨gd, 0, none⟩), .func (.func 70) #[] #[x0], .func (.func 51) #[] #[]] w fun e w' => e = .returned (.int .i64 (d.begin Wh Pt).2) ∧ ∃ L', DAt w' L' gd (d.begin Wh Pt).1 ∧ Upd L.ρ L'.ρ w w' := by
  have hc0 := h.cells.1
  have hlt := h.lt
  have HP0 := Lib.hid (planned_any w L gd d h d.acts)
  have HD := Lib.hid h
  have HW := Lib.hid hW
  have HP := Lib.hid hP
  have e9 : ((d.acts + 1 : Nat) : Int) = (d.acts : Int) + 1 := by omega
  clear h hW hP
  go_enter Tryz.func48, Tryz.ntmps48
  go_upto_region 2 with (go_at_call 67; (refine HP0.out.mono ?_); rintro e w1 ⟨rfl, hb1⟩; have HB1 := Lib.hid hb1; clear hb1 hc0)
  obtain ⟨st, kd, pt, hf⟩ : ∃ st kd pt, (⟨st, kd, pt⟩ : Flt) = d.planned d.acts := ⟨_, _, _, rfl⟩
  have HF := Lib.hid hf
  rw [← hf]
  obtain ⟨w2, hw2⟩ : ∃ w2, w2 = w1.alloc (.cells #[.int .i64 st, .int .i64 kd, .int .i64 pt] 56) := ⟨_, rfl⟩
  have z1 := HB1.out.size
  have hb2 : Below w.heap.size w w2 := by rw [hw2]; exact HB1.out.alloc z1 _
  have g2 : w2.heap[w1.heap.size]? = some (.cells #[.int .i64 st, .int .i64 kd, .int .i64 pt] 56) := by rw [hw2]; exact heap_alloc_new w1 _
  dsimp only
  rw [← hw2]
  clear hw2 hf
  have hd2 := HD.out.below hb2
  have c0 := hd2.cells.1
  have f0 := hd2.cells.2.2.2.2.2.2.2.2.2.2.2 0
  have hne : w1.heap.size ≠ gd := by omega
  have k1 : ∀ x, (w2.setCell ⟨gd, 0, none⟩ x).cell? ⟨w1.heap.size, 1, none⟩ = some (.int .i64 kd) := fun x => (World.cell?_of_block (heap_setCell_other w2 ⟨gd, 0, none⟩ w1.heap.size x hne)).trans (by rw [cell_of_row _ _ _ _ _ _ g2]; rfl)
  have k2 : ∀ x, (w2.setCell ⟨gd, 0, none⟩ x).cell? ⟨w1.heap.size, 2, none⟩ = some (.int .i64 pt) := fun x => (World.cell?_of_block (heap_setCell_other w2 ⟨gd, 0, none⟩ w1.heap.size x hne)).trans (by rw [cell_of_row _ _ _ _ _ _ g2]; rfl)
  have ho3 : Only L.ρ (· = 1) w (w2.setCell ⟨gd, 0, none⟩ (.int .i64 ((d.acts : Int) + 1))) := (Only.of_below hb2).trans (Only.setCell w2 gd 0 _ HD.out.lg)
  have hd3 : DAt (w2.setCell ⟨gd, 0, none⟩ (.int .i64 ((d.acts : Int) + 1))) L gd { d with acts := d.acts + 1 } := HD.out.own1 ho3 (by have h9 := heap_setCell_same w2 gd 0 _ _ (.int .i64 ((d.acts : Int) + 1)) hd2.g; unfold boxDisk; rw [e9]; exact h9) rfl rfl rfl rfl rfl rfl
  have hu3 : Upd L.ρ L.ρ w (w2.setCell ⟨gd, 0, none⟩ (.int .i64 ((d.acts : Int) + 1))) := Upd.of_only ho3 (by omega) (Ext.refl _ _)
  have HWC := Lib.hid (HW.out _ hu3 hd3)
  have HPC := Lib.hid (HP.out _ pt hu3 hd3)
  have HU3 := Lib.hid hu3
  have HD3 := Lib.hid hd3
  clear e9 ho3 hd3 hu3 hd2 g2 hb2 HB1 HP0 HW HP HD
  have hcase : kd = 1 ∨ kd = 2 ∨ kd = 3 ∨ kd = 4 ∨ kd = 5 ∨ kd = 6 ∨ ((kd == 1) = false ∧ (kd == 2) = false ∧ (kd == 3) = false ∧ (kd == 4) = false ∧ (kd == 5) = false ∧ (kd == 6) = false) := by simp; omega
  rcases hcase with rfl | rfl | rfl | rfl | rfl | rfl | ⟨e1, e2, e3, e4, e5, e6⟩
  · go_wp2_with fail
    go_ret
    have hE : d.begin Wh Pt = ({ d with acts := d.acts + 1 }, 30) := by unfold Dm.begin; rw [← HF.out]; simp
    exact ⟨by rw [hE]; rfl, L, by rw [hE]; exact HD3.out, HU3.out⟩
  · go_wp2_with (first | (go_at_call 70; refine HWC.out.mono ?_; clear k1 k2 c0 f0; rintro e w4 ⟨rfl, L4, hd4, hu4⟩; have c5 := hd4.cells.2.2.2.2.2.1; have f5 := hd4.cells.2.2.2.2.2.2.2.2.2.2.2 5; have HD4 := Lib.hid hd4; have HU4 := Lib.hid hu4; clear hd4 hu4))
    go_ret
    have hE : d.begin Wh Pt = (Wh { d with acts := d.acts + 1 }, 30) := by unfold Dm.begin; rw [← HF.out]; simp
    exact ⟨by rw [hE]; rfl, L4, by rw [hE]; exact HD4.out, HU3.out.trans HU4.out⟩
  · go_wp2_with (first | (go_at_call 51; refine HPC.out.mono ?_; clear k1 k2 c0 f0; rintro e w4 ⟨rfl, L4, hd4, hu4⟩; have c5 := hd4.cells.2.2.2.2.2.1; have f5 := hd4.cells.2.2.2.2.2.2.2.2.2.2.2 5; have HD4 := Lib.hid hd4; have HU4 := Lib.hid hu4; clear hd4 hu4))
    go_ret
    have hE : d.begin Wh Pt = (Pt pt { d with acts := d.acts + 1 }, 30) := by unfold Dm.begin; rw [← HF.out]; simp
    exact ⟨by rw [hE]; rfl, L4, by rw [hE]; exact HD4.out, HU3.out.trans HU4.out⟩
  · go_wp2_with (first | (go_at_call 51; refine HPC.out.mono ?_; clear k1 k2 c0 f0; rintro e w4 ⟨rfl, L4, hd4, hu4⟩; have c5 := hd4.cells.2.2.2.2.2.1; have f5 := hd4.cells.2.2.2.2.2.2.2.2.2.2.2 5; have HD4 := Lib.hid hd4; have HU4 := Lib.hid hu4; clear hd4 hu4))
    go_ret
    have hE : d.begin Wh Pt = (Pt pt { d with acts := d.acts + 1 }, 31) := by unfold Dm.begin; rw [← HF.out]; simp
    exact ⟨by rw [hE]; rfl, L4, by rw [hE]; exact HD4.out, HU3.out.trans HU4.out⟩
  · go_wp2_with (first | (go_at_call 51; refine HPC.out.mono ?_; clear k1 k2 c0 f0; rintro e w4 ⟨rfl, L4, hd4, hu4⟩; have c5 := hd4.cells.2.2.2.2.2.1; have f5 := hd4.cells.2.2.2.2.2.2.2.2.2.2.2 5; have HD4 := Lib.hid hd4; have HU4 := Lib.hid hu4; clear hd4 hu4))
    go_ret
    have hE : d.begin Wh Pt = ({ Pt pt { d with acts := d.acts + 1 } with power := false }, 2) := by unfold Dm.begin; rw [← HF.out]; simp
    have ho5 : Only L4.ρ (· = 1) w4 (w4.setCell ⟨gd, 5, none⟩ (.bool false)) := Only.setCell w4 gd 5 _ HD4.out.lg
    exact ⟨by rw [hE]; rfl, L4, by rw [hE]; exact HD4.out.own1 ho5 (heap_setCell_same w4 gd 5 _ _ _ HD4.out.g) rfl rfl rfl rfl rfl rfl, (HU3.out.trans HU4.out).trans (Upd.of_only ho5 (by omega) (Ext.refl _ _))⟩
  · go_wp2_with (first | (go_at_call 70; refine HWC.out.mono ?_; clear k1 k2 c0 f0; rintro e w4 ⟨rfl, L4, hd4, hu4⟩; have c5 := hd4.cells.2.2.2.2.2.1; have f5 := hd4.cells.2.2.2.2.2.2.2.2.2.2.2 5; have HD4 := Lib.hid hd4; have HU4 := Lib.hid hu4; clear hd4 hu4))
    go_ret
    have hE : d.begin Wh Pt = ({ Wh { d with acts := d.acts + 1 } with power := false }, 2) := by unfold Dm.begin; rw [← HF.out]; simp
    have ho5 : Only L4.ρ (· = 1) w4 (w4.setCell ⟨gd, 5, none⟩ (.bool false)) := Only.setCell w4 gd 5 _ HD4.out.lg
    exact ⟨by rw [hE]; rfl, L4, by rw [hE]; exact HD4.out.own1 ho5 (heap_setCell_same w4 gd 5 _ _ _ HD4.out.g) rfl rfl rfl rfl rfl rfl, (HU3.out.trans HU4.out).trans (Upd.of_only ho5 (by omega) (Ext.refl _ _))⟩
  · go_wp2_with (first | (go_at_call 70; refine HWC.out.mono ?_; clear k1 k2 c0 f0; rintro e w4 ⟨rfl, L4, hd4, hu4⟩; have c5 := hd4.cells.2.2.2.2.2.1; have f5 := hd4.cells.2.2.2.2.2.2.2.2.2.2.2 5; have HD4 := Lib.hid hd4; have HU4 := Lib.hid hu4; clear hd4 hu4))
    go_ret
    have hE : d.begin Wh Pt = (Wh { d with acts := d.acts + 1 }, 0) := by unfold Dm.begin; rw [← HF.out]; simp at e1 e2 e3 e4 e5 e6; simp [e1, e2, e3, e4, e5, e6]
    exact ⟨by rw [hE]; rfl, L4, by rw [hE]; exact HD4.out, HU3.out.trans HU4.out⟩
end Go.Proofs.YteoggphafhcchaaGreat
