import Derived.Test.YteoggphafhcchaaD8
namespace Go.Proofs.Yteoggphafhcchaa
open Go Go.RowKit
set_option maxRecDepth 100000
set_option maxHeartbeats 4000000
set_option linter.unusedVariables false
set_option linter.unusedSimpArgs false
open Go.Maps Go.WideMaps
theorem change_drop (w : World) (B gd : Nat) (d : Dk) (q n : Nat) (D : DataW Unit) (h : St w B gd d q n D) (hB : B ≤ w.heap.size) (hq : q ≤ 1000) (f : ByteArray) (hf : f.size ≤ maxLen) (htf : f.toList.isEmpty = false) (g : Nat) (hg : at? D f = .lit (.int .i64 g)) (he : at? D ByteArray.empty = .nil) :
    Calls Try.prog 25 #[.pointer (some ⟨gd, 0, none⟩), chV f ByteArray.empty (.pointer none)] w fun e w' => e = .returned (.tuple #[]) ∧ (∃ c, St w' B gd { d with ch := c } (q + 1) n (D.del (kL f))) ∧ Ot gd d.nb w w' ∧ Below B w w' := by
  obtain ⟨w0, hw0⟩ : ∃ w0, w0 = w.alloc (boxC f ByteArray.empty (.pointer none)) := ⟨_, rfl⟩
  have hb0 : Below w.heap.size w w0 := by rw [hw0]; exact bel1 _ _
  have g0 : w0.heap[w.heap.size]? = some (boxC f ByteArray.empty (.pointer none)) := by rw [hw0]; exact heap_alloc_new w _
  have hS := h.below hb0
  have HS0 := Lib.hid hS
  have HB0 := Lib.hid hb0
  have G0 := Lib.hid g0
  obtain ⟨-, -, c2, -, -, -, c6, -, -, -, -, fr⟩ := Dk.cells hS.g
  have f2 := fr 2
  rw [hS.us] at c2
  obtain ⟨b0, b1, b2⟩ := box3 g0
  have hlt := h.lt
  have hlt0 : gd < w0.heap.size := hS.lt
  have z0 : w.heap.size < w0.heap.size := by rw [hw0]; simp
  have n1 := (hS.ok f g hg).now
  have hlk : ∀ nq : Nat, (Instr.lookup 37 (.map (some d.nb)) (.string ByteArray.empty) false).run Try.prog (w0.drewN nq) = .ok (.pointer none) (w0.drewN nq) := fun nq => by
    have := (look_ptr (show (w0.drewN nq).ownsMap Try.prog 9 ptrR d.nb n D from hS.m) (s := ByteArray.empty) (by unfold maxLen; decide)).1
    rw [he] at this; exact this
  have hlk2 : ∀ wx : World, wx.heap = w0.heap → (Instr.lookup 37 (.map (some d.nb)) (.string f) false).run Try.prog wx = .ok (.pointer (some ⟨g, 0, none⟩)) wx := fun wx hx => by
    have := (look_ptr (show wx.ownsMap Try.prog 9 ptrR d.nb n D from by obtain ⟨es, ck, hm, r⟩ := hS.m; exact ⟨es, ck, by rw [hx]; exact hm, r⟩) hf).1
    rw [hg] at this; exact this
  have HG := Lib.hid hg
  have HLK := Lib.hid hlk2
  clear h hb0 g0 hS fr hg he hlk2
  go_enter Try.func25, Try.ntmps25
  go_upto_region 1 with (fail)
  rw [← hw0]
  clear hw0
  go_wp2_with fail
  go_quiet (fail)
  obtain ⟨wq, hwq⟩ : ∃ wq, wq = w0.drewN nq := ⟨_, rfl⟩
  have hbq : Below w0.heap.size w0 wq := by rw [hwq]; exact below_drewN (Below.refl _ _) nq
  have c2q : wq.cell? ⟨gd, 2, none⟩ = some (.int .i64 0) := by rw [hwq]; exact c2
  have c6q : wq.cell? ⟨gd, 6, none⟩ = some (.map (some d.nb)) := by rw [hwq]; exact c6
  have f2q : wq.frozen? ⟨gd, 2, none⟩ = false := by rw [hwq]; exact f2
  have n1q : wq.cell? ⟨g, 1, none⟩ = some (.slice none 0 0) := by rw [hwq]; exact n1
  have b0q : wq.cell? ⟨w.heap.size, 0, none⟩ = some (.string f) := by rw [hwq]; exact b0
  have b1q : wq.cell? ⟨w.heap.size, 1, none⟩ = some (.string ByteArray.empty) := by rw [hwq]; exact b1
  have hlq : (Instr.lookup 37 (.map (some d.nb)) (.string f) false).run Try.prog wq = .ok (.pointer (some ⟨g, 0, none⟩)) wq := HLK.out wq (by rw [hwq]; rfl)
  have hlq2 : (Instr.lookup 37 (.map (some d.nb)) (.string f) false).run Try.prog wq.drew = .ok (.pointer (some ⟨g, 0, none⟩)) wq.drew := HLK.out wq.drew (by rw [hwq]; rfl)
  rw [← hwq]
  clear hwq c2 f2 n1 b0 b1 b2 c6 HLK
  go_wp2_with fail
  go_still_tail 16, (by kernel_rfl)
  change wpList _ _ _ _ _ wq.drew
  obtain ⟨wz, hwz⟩ : ∃ wz, wz = wq.drew := ⟨_, rfl⟩
  have hbz : Below w0.heap.size w0 wz := by rw [hwz]; exact hbq.drew
  have c2z : wz.cell? ⟨gd, 2, none⟩ = some (.int .i64 0) := by rw [hwz]; exact c2q
  have f2z : wz.frozen? ⟨gd, 2, none⟩ = false := by rw [hwz]; exact f2q
  rw [← hwz]
  have hSz := HS0.out.below hbz
  obtain ⟨hSu, hOu⟩ := hSz.used
  have HS := Lib.hid hSu
  have HO1 := Lib.hid ((Ot.of_below (gd := gd) (nb := d.nb) (HB0.out.trans (hbz.mono (by omega)))).trans hOu)
  have HBB1 := Lib.hid (show Below B w (wz.setCell ⟨gd, 2, none⟩ (.int .i64 0)) from ((HB0.out.trans (hbz.mono (by omega))).mono hB).setCell (p := ⟨gd, 2, none⟩) HS0.out.hB _)
  have G1 := Lib.hid (show (wz.setCell ⟨gd, 2, none⟩ (.int .i64 0)).heap[w.heap.size]? = some (boxC f ByteArray.empty (.pointer none)) from (heap_setCell_other wz ⟨gd, 2, none⟩ w.heap.size _ (by show w.heap.size ≠ gd; omega)).trans ((hbz.block w.heap.size z0).trans G0.out))
  have zz := hbz.size
  obtain ⟨w1, hw1⟩ : ∃ w1, w1 = wz.setCell ⟨gd, 2, none⟩ (.int .i64 0) := ⟨_, rfl⟩
  have z11 : w1.heap.size = wz.heap.size := by rw [hw1]; simp
  have z1 : w.heap.size < w1.heap.size := by omega
  clear hlk c2q f2q b0q b1q n1q hwz hbz hSz hSu hOu hbq hlq hlq2 c6q
  go_upto_region 7 with (fail)
  rw [← hw1] at HS HO1 HBB1 G1 ⊢
  obtain ⟨b0, b1, b2⟩ := box3 G1.out
  obtain ⟨-, -, -, -, -, -, c6, -⟩ := Dk.cells HS.out.g
  have hnw : w.heap.size ≠ d.nb := map_ne HS.out.m G1.out
  have hgn : gd ≠ d.nb := map_ne HS.out.m HS.out.g
  clear hw1 c2z f2z HS0 HB0 G0 zz z11 z0 hlt0
  go_wp2_with fail
  go_region_held3 (fun w' => w'.cell? ⟨gd, 6, none⟩ = some (.map (some d.nb)) ∧ w'.cell? ⟨w.heap.size, 0, none⟩ = some (.string f) ∧ w'.cell? ⟨w.heap.size, 1, none⟩ = some (.string ByteArray.empty) ∧ w'.cell? ⟨w.heap.size, 2, none⟩ = some (.pointer none)) (first | exact ⟨c6, b0, b1, b2⟩ | exact ⟨keepm hgr2 hgn c6, keepm hgr2 hnw b0, keepm hgr2 hnw b1, keepm hgr2 hnw b2⟩) (first | (go_at_call 37; refine (do_drop w1.drew d.nb n D HS.out.m.drew f hf).mono ?_; rintro e w2 ⟨rfl, hm2, hgr2⟩))
  have hce := change_end (show St w1.drew B gd d q n D from HS.out.below (Below.refl _ _).drew) hm2 hgr2 (fun s g' hs => by
    rw [at_del] at hs
    by_cases e2 : s = f
    · rw [if_pos e2] at hs; cases hs
    · rw [if_neg e2] at hs
      exact HS.out.ok s g' hs)
  have HS2 := Lib.hid hce.1
  have HO2 := Lib.hid (HO1.out.trans ((show Ot gd d.nb w1 w1.drew from ⟨Nat.le_refl _, fun _ _ _ _ _ => rfl⟩).trans hce.2))
  have HBB := Lib.hid (show Below B w w2 from HBB1.out.trans ((show Below B w1 w1.drew from (Below.refl _ _).drew).grown hgr2 (by show B ≤ w1.heap.size; omega) (fun k hk => by cases hk; exact HS.out.mB)))
  have G2 := Lib.hid ((hgr2.block w.heap.size (by show w.heap.size < w1.heap.size; omega) (fun e => hnw (Option.some.inj e))).trans G1.out)
  have z2 : w1.heap.size ≤ w2.heap.size := hgr2.size
  obtain ⟨xs, hx⟩ := hce.1.ch
  have HX := Lib.hid hx
  obtain ⟨-, -, -, -, -, -, -, -, e8, -⟩ := Dk.cells hce.1.g
  obtain ⟨b0', b1', b2'⟩ := box3 G2.out
  clear hm2 hgr2 hce hx c6 b0 b1 b2
  go_wp2_with fail
  have hb3 : Below w2.heap.size w2 (w2.drew.alloc (boxC f ByteArray.empty (.pointer none))) := (show Below w2.heap.size w2 w2.drew from (Below.refl _ _).drew).alloc (Nat.le_refl _) _
  have HS3 := Lib.hid (HS2.out.below hb3)
  have HX3 := Lib.hid (own_below HX.out hb3)
  have HN3 := Lib.hid (fun j u => new_ch w2.drew f ByteArray.empty (.pointer none) (k := w2.heap.size) rfl j u)
  have HB3 := Lib.hid (HBB.out.trans (hb3.mono (by omega)))
  have HO3 := Lib.hid (HO2.out.trans (Ot.of_below hb3))
  have HQ1 := Lib.hid (show (q + 1) * 40 ≤ 140737488355328 by omega)
  have HQ2 := Lib.hid (show q + 1 ≤ maxLen by simp [maxLen]; omega)
  have hBz : B ≤ w2.heap.size := by omega
  have hlt2 : gd < w2.heap.size := HS2.out.lt
  have hlt3 : w.heap.size < w2.heap.size := by omega
  clear hb3
  go_region_law (first
    | (refine S_appendN rfl (.tmp 67) (.tmp 69) 38 (by rfl) sl38 B d.ch q xs (by rfl) HX3.out ⟨w2.heap.size, 0, none⟩ 1 1 [.string f, .string ByteArray.empty, .pointer none] (by rfl) (by rfl) HN3.out one_ch HQ1.out HQ2.out (by simp; omega) (fun a4 c4 w4 ho4 hg4 hat4 => ?_)
       have hgr4 := HS3.out.grownCh hg4 ho4
       have hk8 := Dk.cells hgr4.2.2
       have e8' := hk8.2.2.2.2.2.2.2.2.1
       have f8' := hk8.2.2.2.2.2.2.2.2.2.2.2 8
       clear hk8))
  all_goals
    have HE4 := Lib.hid hgr4
    have HB4 := Lib.hid (HB3.out.grown hg4 (by simp; omega) (fun k hk => (HX3.out.lt k hk).1))
    clear hgr4 ho4 hg4 hat4 e8 b0' b1' b2'
    go_wp2_with fail
    go_end0
    exact ⟨rfl, ⟨_, HE4.out.1⟩, HO3.out.trans HE4.out.2.1, HB4.out.setCell (p := ⟨gd, 8, none⟩) (HS.out.hB) _⟩

end Go.Proofs.Yteoggphafhcchaa
