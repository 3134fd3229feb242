import Derived.Test.YteoggphafhcchaaGreatM16
namespace Go.Proofs.YteoggphafhcchaaGreat
open Go Go.RowKit
set_option maxRecDepth 100000
set_option maxHeartbeats 1000000
set_option linter.unusedVariables false
set_option linter.unusedSimpArgs false
open Go.Maps Go.WideMaps
abbrev cuB : ByteArray := ⟨#[67, 117, 116]⟩
/-- Cut's own part. -/
def cutW (i n : Nat) (e : Dm) : Dm := { (e.setF i ⟨(e.file i).now.take n, (e.file i).safe, (e.file i).loose ++ [⟨[], n⟩]⟩) with used := wrap64 (e.used - wrap64 (((e.file i).now.length : Int) - (n : Int))) }
theorem cut_any (w : World) (L : Lay) (gd : Nat) (d : Dm) (h : DAt w L gd d) (hp : Pre d) (s : Nm) (hs : s.length ≤ maxLen) (n : Int) (hn0 : -9223372036854775808 ≤ n) (hn1 : n ≤ 9223372036854775807) :
    Calls Tryz.prog 41 #[.pointer (some ⟨gd, 0, none⟩), .string (bs s), .int .i64 n] w fun e w' => ∃ L', DAt w' L' gd (d.cut s n).1 ∧ Upd L.ρ L'.ρ w w' ∧ ∃ v, e = .returned v ∧ ToldV v w' L'.ρ cuB (bs s) (d.cut s n).2 := by
  obtain ⟨w1, hw1⟩ : ∃ w1, w1 = (w.alloc (boxD gd)).alloc (boxI n) := ⟨_, rfl⟩
  have hb1 : Below w.heap.size w w1 := by rw [hw1]; exact ((Below.refl _ _).alloc (Nat.le_refl _) _).alloc (by simp) _
  have g0 : w1.heap[w.heap.size]? = some (boxD gd) := by rw [hw1]; exact heap_alloc2_old w _ _
  have g1 : w1.heap[w.heap.size + 1]? = some (boxI n) := by rw [hw1]; exact heap_alloc2_new w _ _
  have z1 : w.heap.size + 1 < w1.heap.size := by rw [hw1]; simp
  have h0 : ∀ g, w.heap.size ≤ g → L.ρ g = 0 := h.new
  have HD1 := Lib.hid (h.below hb1)
  have HU1 := Lib.hid (Upd.of_below (ρ := L.ρ) hb1)
  have G0 := Lib.hid (show Cap w1 L.ρ w.heap.size (boxD gd) from ⟨g0, h0 _ (Nat.le_refl _)⟩)
  have G1 := Lib.hid (show Cap w1 L.ρ (w.heap.size + 1) (boxI n) from ⟨g1, h0 _ (by omega)⟩)
  have k0 := cell0 g0
  have HP := Lib.hid hp
  have HA := Lib.hid (ask1 (w1.alloc (.cells #[.string (bs s)] 9)) L gd d (HD1.out.below (bel1 _ _)) w1.heap.size 0 1 s hs (cell0 (heap_alloc_new w1 _)))
  clear h hb1 g0 g1 hp h0
  go_enter Tryz.func41, Tryz.ntmps41
  go_upto_region 1 with (fail)
  rw [← hw1]
  clear hw1
  go_wp2_with fail
  with_reducible refine HA.out.mono ?_
  rintro e w3 ⟨rfl, hb3⟩
  have hb13 : Below w1.heap.size w1 w3 := (bel1 w1 _).trans (hb3.mono (by simp))
  have HD3 := Lib.hid (HD1.out.below hb13)
  have HU3 := Lib.hid (HU1.out.trans (Upd.of_below (ρ := L.ρ) hb13))
  have HG0 := Lib.hid (G0.out.below hb13)
  have HG1 := Lib.hid (G1.out.below hb13)
  have hz3 : w1.heap.size ≤ w3.heap.size := hb13.size
  clear k0 hb13 hb3 HA
  obtain ⟨r, why, hask⟩ : ∃ r why, d.ask s = (r, why) := ⟨_, _, rfl⟩
  rw [hask]
  dsimp only
  cases e0 : (why == 0)
  · have hr : r = none := ask_fst hask (by simpa using e0)
    subst hr
    have HE := Lib.hid (show d.cut s n = (d, why) by unfold Dm.cut; rw [hask])
    obtain ⟨w4, hw4⟩ : ∃ w4, w4 = w3.alloc (.cells #[.pointer none] 76) := ⟨_, rfl⟩
    have hb4 : Below w3.heap.size w3 w4 := by rw [hw4]; exact bel1 _ _
    have HD4 := Lib.hid (HD3.out.below hb4)
    have HU4 := Lib.hid (HU3.out.trans (Upd.of_below (ρ := L.ρ) hb4))
    rw [show madeV L.fa none = .pointer none from rfl]
    clear hask hb4
    go_upto_region 2 with (fail)
    rw [← hw4]
    clear hw4
    go_wp2_with fail
    go_quiet (fail)
    have HD5 := Lib.hid (HD4.out.below (below_drewN (Below.refl _ _) nq))
    have HU5 := Lib.hid (HU4.out.trans (Upd.of_below (ρ := L.ρ) (below_drewN (Below.refl _ _) nq)))
    go_wp2_with fail
    with_reducible refine (told2 (w4.drewN nq) L.ρ HD5.out.dom cuB (bs s) why).mono ?_
    rintro e w9 ⟨⟨v, rfl, hv⟩, hb9⟩
    have HV := Lib.hid hv
    have HB9 := Lib.hid hb9
    clear hv hb9
    go_wp2_with fail
    go_ret
    exact ⟨L, by rw [HE.out]; exact HD5.out.below HB9.out, HU5.out.trans (Upd.of_below HB9.out), v, rfl, by rw [HE.out]; exact HV.out⟩
  obtain rfl : why = 0 := by simpa using e0
  clear e0
  obtain ⟨i, rfl, hk, hl⟩ := ask_zero hask
  have hi : i < d.fs.length := HP.out.refs.nm s i hk
  rw [show madeV L.fa (some i) = .pointer (some ⟨L.fa i, 0, none⟩) from rfl]
  obtain ⟨w4, hw4⟩ : ∃ w4, w4 = w3.alloc (boxP (L.fa i)) := ⟨_, rfl⟩
  have hb4 : Below w3.heap.size w3 w4 := by rw [hw4]; exact bel1 _ _
  have hcap : Cap w4 L.ρ w3.heap.size (boxP (L.fa i)) := ⟨by rw [hw4]; exact heap_alloc_new w3 _, HD3.out.new _ (Nat.le_refl _)⟩
  have hd4 := HD3.out.below hb4
  have HCAP := Lib.hid hcap
  have HD4 := Lib.hid hd4
  have HU4 := Lib.hid (HU3.out.trans (Upd.of_below (ρ := L.ρ) hb4))
  have HG04 := Lib.hid (HG0.out.below hb4)
  have HG14 := Lib.hid (HG1.out.below hb4)
  obtain ⟨vn, vs, vl, hf⟩ := hd4.at hi
  obtain ⟨av, cv, hvn, -⟩ := owns_shape hf.now.1
  obtain ⟨nv, hnv⟩ : ∃ nv, nv = (d.file i).now.length := ⟨_, rfl⟩
  rw [← hnv] at hvn
  subst hvn
  have n1 := hf.cells.2.1
  have kp := cell0 hcap.1
  have kn := cell0 HG14.out.1
  have kd := cell0 HG04.out.1
  have HNV := Lib.hid hnv
  have hnl : nv ≤ 2147483647 := by rw [hnv]; exact (HP.out.file i).1
  have HASK := Lib.hid hask
  clear hb4 hcap hd4 hf hnv hask
  go_upto_region 2 with (fail)
  rw [← hw4]
  clear hw4
  have hbq : ∀ nq : Nat, Below w4.heap.size w4 (w4.drewN nq) := fun nq => below_drewN (Below.refl _ _) nq
  by_cases hneg : n < 0
  · have HE := Lib.hid (show d.cut s n = (d, 1) by unfold Dm.cut; rw [HASK.out]; dsimp only; rw [if_pos (.inl hneg)])
    go_wp2_with fail
    go_quiet (fail)
    have HD5 := Lib.hid (HD4.out.below (hbq nq))
    have HU5 := Lib.hid (HU4.out.trans (Upd.of_below (ρ := L.ρ) (hbq nq)))
    go_wp2_with fail
    with_reducible refine (told2 (w4.drewN nq) L.ρ HD5.out.dom cuB (bs s) 1).mono ?_
    rintro e w9 ⟨⟨v, rfl, hv⟩, hb9⟩
    have HV := Lib.hid hv
    have HB9 := Lib.hid hb9
    clear hv hb9
    go_wp2_with fail
    go_ret
    exact ⟨L, by rw [HE.out]; exact HD5.out.below HB9.out, HU5.out.trans (Upd.of_below HB9.out), v, rfl, by rw [HE.out]; exact HV.out⟩
  by_cases hbig : (nv : Int) < n
  · have HE := Lib.hid (show d.cut s n = (d, 1) by unfold Dm.cut; rw [HASK.out]; dsimp only; rw [if_pos (.inr (by rw [← HNV.out]; exact hbig))])
    go_wp2_with fail
    go_quiet (fail)
    have HD5 := Lib.hid (HD4.out.below (hbq nq))
    have HU5 := Lib.hid (HU4.out.trans (Upd.of_below (ρ := L.ρ) (hbq nq)))
    go_wp2_with fail
    with_reducible refine (told2 (w4.drewN nq) L.ρ HD5.out.dom cuB (bs s) 1).mono ?_
    rintro e w9 ⟨⟨v, rfl, hv⟩, hb9⟩
    have HV := Lib.hid hv
    have HB9 := Lib.hid hb9
    clear hv hb9
    go_wp2_with fail
    go_ret
    exact ⟨L, by rw [HE.out]; exact HD5.out.below HB9.out, HU5.out.trans (Upd.of_below HB9.out), v, rfl, by rw [HE.out]; exact HV.out⟩
  obtain ⟨m, rfl⟩ : ∃ m : Nat, n = m := ⟨n.toNat, by omega⟩
  have HE := Lib.hid (show d.cut s m = d.begin (cutW i m) (fun _ e => e) by
    unfold Dm.cut; rw [HASK.out]; dsimp only; rw [if_neg (by rw [← HNV.out]; omega)]; simp only [Int.toNat_natCast]; rfl)
  go_wp2_with fail
  go_quiet (fail)
  have hb5 := hbq nq
  have HD5 := Lib.hid (HD4.out.below hb5)
  have HU5 := Lib.hid (HU4.out.trans (Upd.of_below (ρ := L.ρ) hb5))
  have HCAP5 := Lib.hid (HCAP.out.below hb5)
  have HG05 := Lib.hid (HG04.out.below hb5)
  have HG15 := Lib.hid (HG14.out.below hb5)
  have kd5 := cell0 HG05.out.1
  have HBG := Lib.hid (begin_cut (w4.drewN nq) L gd d HD5.out (by have := HP.out.acts; omega) (.pointer (some ⟨w.heap.size, 0, none⟩)) (.pointer (some ⟨w3.heap.size, 0, none⟩)) (.pointer (some ⟨w.heap.size + 1, 0, none⟩)) (cutW i m) (fun _ e => e)
    (fun w2 hu2 hd2 => cut1_any w2 L gd _ hd2 i hi m (by show m ≤ (d.file i).now.length; rw [← HNV.out]; omega) (HP.out.file i).1 (HP.out.file i).2.2 w.heap.size w3.heap.size (w.heap.size + 1) (HG05.out.upd hu2) (HCAP5.out.upd hu2) (HG15.out.upd hu2))
    (fun w2 n hu2 hd2 => (nothing_any w2 n).mono fun e w' ⟨he, hw⟩ => by subst hw; exact ⟨he, L, hd2, Upd.refl _ _⟩))
  clear kd kp kn n1 hb5 hbq hk hl
  go_wp2_with (go_at_call 48; refine HBG.out.mono ?_; rintro e w6 ⟨rfl, L4, hd6, hu6⟩; have HD6 := Lib.hid hd6; have HU6 := Lib.hid (HU5.out.trans hu6); clear hd6 hu6 kd5)
  obtain ⟨y, hy⟩ : ∃ y, y = (d.begin (cutW i m) (fun _ e => e)).2 := ⟨_, rfl⟩
  rw [← hy]
  have HY := Lib.hid hy
  clear hy
  with_reducible refine (told2 w6 L4.ρ HD6.out.dom cuB (bs s) y).mono ?_
  rintro e w9 ⟨⟨v, rfl, hv⟩, hb9⟩
  have HV := Lib.hid hv
  have HB9 := Lib.hid hb9
  clear hv hb9
  go_wp2_with fail
  go_ret
  exact ⟨L4, by rw [HE.out]; exact HD6.out.below HB9.out, HU6.out.trans (Upd.of_below HB9.out), v, rfl, by rw [HE.out, ← HY.out]; exact HV.out⟩
end Go.Proofs.YteoggphafhcchaaGreat
