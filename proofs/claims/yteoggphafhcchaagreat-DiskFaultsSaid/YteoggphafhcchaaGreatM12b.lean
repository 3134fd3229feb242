import Derived.Test.YteoggphafhcchaaGreatM12
namespace Go.Proofs.YteoggphafhcchaaGreat
open Go Go.RowKit
set_option maxRecDepth 100000
set_option maxHeartbeats 1000000
set_option linter.unusedVariables false
set_option linter.unusedSimpArgs false
open Go.Maps Go.WideMaps
abbrev rnB : ByteArray := ⟨#[82, 101, 110, 97, 109, 101]⟩
theorem rename_any (w : World) (L : Lay) (gd : Nat) (d : Dm) (h : DAt w L gd d) (hp : Pre d) (s t : Nm) (hs : s.length ≤ maxLen) (ht : t.length ≤ maxLen) :
    Calls Tryz.prog 43 #[.pointer (some ⟨gd, 0, none⟩), .string (bs s), .string (bs t)] w fun e w' => ∃ L', DAt w' L' gd (d.rename s t).1 ∧ Upd L.ρ L'.ρ w w' ∧ ∃ v, e = .returned v ∧ ToldV v w' L'.ρ rnB (bs s) (d.rename s t).2 := by
  obtain ⟨w1, hw1⟩ : ∃ w1, w1 = ((w.alloc (boxD gd)).alloc (boxN (bs s))).alloc (boxN (bs t)) := ⟨_, rfl⟩
  have hb1 : Below w.heap.size w w1 := by rw [hw1]; exact (((Below.refl _ _).alloc (Nat.le_refl _) _).alloc (by simp) _).alloc (by simp; omega) _
  have g0 : w1.heap[w.heap.size]? = some (boxD gd) := by rw [hw1]; exact (heap_alloc_old _ _ (by simp <;> omega)).trans (heap_alloc2_old w _ _)
  have g1 : w1.heap[w.heap.size + 1]? = some (boxN (bs s)) := by rw [hw1]; exact (heap_alloc_old _ _ (by simp <;> omega)).trans (heap_alloc2_new w _ _)
  have g2 : w1.heap[w.heap.size + 2]? = some (boxN (bs t)) := by rw [hw1]; have := heap_alloc_new ((w.alloc (boxD gd)).alloc (boxN (bs s))) (boxN (bs t)); simpa using this
  have z1 : w.heap.size + 2 < w1.heap.size := by rw [hw1]; simp
  have h0 : ∀ g, w.heap.size ≤ g → L.ρ g = 0 := h.new
  have HD1 := Lib.hid (h.below hb1)
  have HU1 := Lib.hid (Upd.of_below (ρ := L.ρ) hb1)
  have G0 := Lib.hid (show Cap w1 L.ρ w.heap.size (boxD gd) from ⟨g0, h0 _ (Nat.le_refl _)⟩)
  have G1 := Lib.hid (show Cap w1 L.ρ (w.heap.size + 1) (boxN (bs s)) from ⟨g1, h0 _ (by omega)⟩)
  have G2 := Lib.hid (show Cap w1 L.ρ (w.heap.size + 2) (boxN (bs t)) from ⟨g2, h0 _ (by omega)⟩)
  have k2 := cell0 g2
  have k0 := cell0 g0
  have k1 := cell0 g1
  have HP := Lib.hid hp
  have HA := Lib.hid (ask2 (w1.alloc (.cells #[.string (bs s), .string (bs t)] 9)) L gd d (HD1.out.below (bel1 _ _)) w1.heap.size 0 2 s t hs ht (by rw [cell_of_row _ _ _ _ _ _ (heap_alloc_new w1 _)]; rfl) (by rw [cell_of_row _ _ _ _ _ _ (heap_alloc_new w1 _)]; rfl))
  clear h hb1 g0 g1 g2 hp h0
  go_enter Tryz.func43, Tryz.ntmps43
  go_upto_region 1 with (fail)
  rw [← hw1]
  clear hw1
  go_wp2_with fail
  with_reducible refine HA.out.mono ?_
  rintro e w3 ⟨rfl, hb3⟩
  have hb13 : Below w1.heap.size w1 w3 := (bel1 w1 _).trans (hb3.mono (by simp))
  have HD3 := Lib.hid (HD1.out.below hb13)
  have HU3 := Lib.hid (HU1.out.trans (Upd.of_below (ρ := L.ρ) hb13))
  have HG0 := Lib.hid (G0.out.below hb13)
  have HG1 := Lib.hid (G1.out.below hb13)
  have HG2 := Lib.hid (G2.out.below hb13)
  have m2 := cell0 HG2.out.1
  have m0 := cell0 HG0.out.1
  have m1 := cell0 HG1.out.1
  clear k0 k1 k2 hb13 hb3 HA
  obtain ⟨r, why, hask⟩ : ∃ r why, d.ask2 s t = (r, why) := ⟨_, _, rfl⟩
  rw [hask]
  dsimp only
  have HASK := Lib.hid hask
  cases e0 : (why == 0)
  · have hr : r = none := ask2_fst hask (by simpa using e0)
    have HE := Lib.hid (show d.rename s t = (d, why) by rw [rename_ask, hask, hr])
    clear hr hask
    go_wp2_with fail
    with_reducible refine (told2 w3 L.ρ HD3.out.dom rnB (bs s) why).mono ?_
    rintro e w9 ⟨⟨v, rfl, hv⟩, hb9⟩
    have HV := Lib.hid hv
    have HB9 := Lib.hid hb9
    clear hv hb9
    go_wp2_with fail
    go_ret
    exact ⟨L, by rw [HE.out]; exact HD3.out.below HB9.out, HU3.out.trans (Upd.of_below HB9.out), v, rfl, by rw [HE.out]; exact HV.out⟩
  obtain rfl : why = 0 := by simpa using e0
  clear e0
  obtain ⟨i, hr, hk, hl, hl2⟩ := ask2_zero hask
  have HE := Lib.hid (show d.rename s t = d.begin (fun e => e.change ⟨s, t, none⟩) (fun _ e => e) by rw [rename_ask, hask, hr])
  have HBG := Lib.hid (begin_rename w3 L gd d HD3.out (by have := HP.out.acts; omega) (.pointer (some ⟨w.heap.size, 0, none⟩)) (.pointer (some ⟨w.heap.size + 1, 0, none⟩)) (.pointer (some ⟨w.heap.size + 2, 0, none⟩)) (fun e => e.change ⟨s, t, none⟩) (fun _ e => e)
    (fun w2 hu2 hd2 => rename1_any w2 L gd _ hd2 (HP.out.act rfl).1 s t ⟨HP.out.nn, hs, ht, by have := HP.out.few; show d.names.length < _; omega, HP.out.chl, (fun _ e => by have e' : lk d.names s = none := e; rw [hk] at e'; cases e'), fun h => absurd rfl h⟩ (legal_len hl2).2 w.heap.size (w.heap.size + 1) (w.heap.size + 2) (HG0.out.upd hu2) (HG1.out.upd hu2) (HG2.out.upd hu2))
    (fun w2 n hu2 hd2 => (nothing_any w2 n).mono fun e w' ⟨he, hw⟩ => by subst hw; exact ⟨he, L, hd2, Upd.refl _ _⟩))
  clear hask hr hk hl hl2
  go_wp2_with (go_at_call 48; refine HBG.out.mono ?_; rintro e w4 ⟨rfl, L4, hd4, hu4⟩; have HD4 := Lib.hid hd4; have HU4 := Lib.hid (HU3.out.trans hu4); have m1' := cell0 (HG1.out.upd hu4).1; clear hd4 hu4 m0 m1 m2)
  obtain ⟨y, hy⟩ : ∃ y, y = (d.begin (fun e => e.change ⟨s, t, none⟩) (fun _ e => e)).2 := ⟨_, rfl⟩
  rw [← hy]
  have HY := Lib.hid hy
  clear hy
  with_reducible refine (told2 w4 L4.ρ HD4.out.dom rnB (bs s) y).mono ?_
  rintro e w9 ⟨⟨v, rfl, hv⟩, hb9⟩
  have HV := Lib.hid hv
  have HB9 := Lib.hid hb9
  clear hv hb9
  go_wp2_with fail
  go_ret
  exact ⟨L4, by rw [HE.out]; exact HD4.out.below HB9.out, HU4.out.trans (Upd.of_below HB9.out), v, rfl, by rw [HE.out, ← HY.out]; exact HV.out⟩
end Go.Proofs.YteoggphafhcchaaGreat
