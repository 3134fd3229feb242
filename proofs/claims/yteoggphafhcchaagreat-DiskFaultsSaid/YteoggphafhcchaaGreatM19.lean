import Derived.Test.YteoggphafhcchaaGreatM18
import Derived.Test.YteoggphafhcchaaGreatLay
import Derived.Test.YteoggphafhcchaaGreatM6g
namespace Go.Proofs.YteoggphafhcchaaGreat
open Go Go.RowKit
set_option maxRecDepth 100000
set_option maxHeartbeats 1000000
set_option linter.unusedVariables false
set_option linter.unusedSimpArgs false
open Go.Maps Go.WideMaps
theorem names_clone (w : World) {ρ : Nat → Nat} {r : Nat} {fa : Nat → Nat} {b : Nat} {m : List (Nm × Nat)} (h : NAt w ρ r fa b m) :
    Calls Tryz.prog 31 #[.map (some b)] w fun e w' => e = .returned (.map (some w.heap.size)) ∧ (∀ (ρ' : Nat → Nat) (r' : Nat), ρ' w.heap.size = r' → NAt w' ρ' r' fa w.heap.size m) ∧ Below w.heap.size w w' ∧ w.heap.size < w'.heap.size := by
  obtain ⟨D, hm, -, hz, hl⟩ := h
  refine (AnyW.maps_Clone_owns Tryz.clone31 9 ptrR b m.length D w hm).mono ?_
  rintro e w' ⟨he, h1, -, hb⟩
  exact ⟨he, fun ρ' r' hr => ⟨D, h1, hr, hz, hl⟩, hb, h1.lt⟩
/-- SyncNames' closure. -/
theorem syncnames1_any (w : World) (L : Lay) (gd : Nat) (d : Dm) (h : DAt w L gd d) (bd : Nat) (hbd : Cap w L.ρ bd (boxD gd)) :
    Calls Tryz.prog 53 #[.pointer (some ⟨bd, 0, none⟩)] w fun e w' => e = .returned (.tuple #[]) ∧ ∃ L', DAt w' L' gd { d with safe := d.names, changes := [] } ∧ Upd L.ρ L'.ρ w w' := by
  have k0 := cell0 hbd.1
  have c6 := h.cells.2.2.2.2.2.2.1
  have hgl := h.lt
  have hbl := (Array.getElem?_eq_some_iff.1 hbd.1).1
  have hne : bd ≠ gd := fun e => by have h1 := hbd.2; have h2 := h.lg; rw [e, h2] at h1; omega
  have HD := Lib.hid h
  have HCL := Lib.hid (names_clone w.drew (h.below (Below.refl _ _).drew).nm)
  have HBD := Lib.hid hbd
  clear h hbd
  go_enter Tryz.func53, Tryz.ntmps53
  go_wp2_with fail
  go_region_held3 (fun w' => w'.cell? ⟨bd, 0, none⟩ = some (.pointer (some ⟨gd, 0, none⟩)) ∧ w'.cell? ⟨gd, 6, none⟩ = some (.map (some L.nb)))
    (first | exact ⟨k0, c6⟩ | exact ⟨keepc hb k0, keepc hb c6⟩ | exact ⟨keeps (keepc hb k0) hne, (World.cell?_setCell_other _ _ _ _ (by simp)).trans (keepc hb c6)⟩)
    (first | (go_at_call 31; refine HCL.out.mono ?_; rintro e w4 ⟨rfl, hN, hb, hz⟩; have hx := (hb.block gd hgl).trans HD.out.g; have s2 := cell_of_row _ _ 7 _ _ _ hx; have f2 := frozen_of_row w4 gd 7 _ _ hx; have HX := Lib.hid hx; simp only [List.getElem?_toArray, List.getElem?_cons_zero, List.getElem?_cons_succ] at s2; clear hx))
  obtain ⟨nb', hnb'⟩ : ∃ nb', nb' = w.heap.size := ⟨_, rfl⟩
  have hN : ∀ (ρ' : Nat → Nat) (r' : Nat), ρ' nb' = r' → NAt w4 ρ' r' L.fa nb' d.names := by rw [hnb']; exact hN
  have hz : nb' < w4.heap.size := by rw [hnb']; exact hz
  rw [← hnb']
  have hnb1 := hnb'
  obtain ⟨w5, hw5⟩ : ∃ w5, w5 = w4.setCell ⟨gd, 7, none⟩ (.map (some nb')) := ⟨_, rfl⟩
  have g5 := heap_setCell_same w4 gd 7 _ _ (.map (some nb')) HX.out
  have m0 : w5.cell? ⟨bd, 0, none⟩ = some (.pointer (some ⟨gd, 0, none⟩)) := by rw [hw5]; exact keeps (keepc hb k0) hne
  rw [← hw5] at g5
  have s3 := cell_of_row _ _ 8 _ _ _ g5
  have f3 := frozen_of_row w5 gd 8 _ _ g5
  simp only [List.getElem?_toArray, List.getElem?_cons_zero, List.getElem?_cons_succ, List.setIfInBounds_toArray, List.set_cons_succ, List.set_cons_zero] at s3
  have HG5 := Lib.hid g5
  have HN := Lib.hid hN
  have HB := Lib.hid hb
  have HW5 := Lib.hid hw5
  rw [← hw5]
  clear hw5 g5 hN hb s2 f2 k0 c6 HX hnb'
  go_wp2_with fail
  go_end0
  have hb4 : Below w.heap.size w w4 := ((Below.refl w.heap.size w).drew).trans HB.out
  have hlg := HD.out.lg
  have ho : Only L.ρ (· = 1) w (w5.setCell ⟨gd, 8, none⟩ (.slice none 0 0)) := by
    rw [HW5.out]
    exact ((Only.of_below hb4).trans (Only.setCell w4 gd 7 _ hlg)).trans (Only.setCell _ gd 8 _ hlg)
  have h0 : L.ρ nb' = 0 := HD.out.new _ (by omega)
  have he : Ext w.heap.size L.ρ (put1 L.ρ nb' 3) := Ext.put 3 h0 (by omega)
  have hk : ∀ k, L.ρ k ≠ 0 → L.ρ k ≠ 1 → (w5.setCell ⟨gd, 8, none⟩ (.slice none 0 0)).heap[k]? = w.heap[k]? := fun k h0 h1 => ho.block k (HD.out.dom k h0) h1
  have hs : ∀ r, r ≠ 0 → ∀ k, L.ρ k = r → put1 L.ρ nb' 3 k = r := fun r hr k e => (he.same k (by omega)).trans e
  have hsz : w4.heap.size = (w5.setCell ⟨gd, 8, none⟩ (.slice none 0 0)).heap.size := by rw [HW5.out]; simp
  refine ⟨rfl, { L with ρ := put1 L.ρ nb' 3, sb := nb', ch := .slice none 0 0 }, ⟨?_, hs 1 (by omega) gd hlg, fun k e => ?_, HD.out.nm.keep (fun k e => hk k (by omega) (by omega)) (hs 2 (by omega)) (fun _ _ _ => rfl), ?_, HD.out.cl.keep (fun k e => hk k (by omega) (by omega)) (hs 4 (by omega)),
    OwnL.nil _ _ _ _ _, HD.out.pl.keep (fun k e => hk k (by omega) (by omega)) (hs 6 (by omega)), fun i f hf => ?_⟩, Upd.of_only ho (by omega) he⟩
  · have h9 := heap_setCell_same w5 gd 8 _ _ (.slice none 0 0) HG5.out
    exact h9
  · by_cases e' : k = nb'
    · rw [← hsz]; omega
    · have e8 : put1 L.ρ nb' 3 k ≠ 0 := e
      unfold put1 at e8
      rw [if_neg e'] at e8
      have := HD.out.dom k e8
      have := ho.size; omega
  · exact (HN.out (put1 L.ρ nb' 3) 3 (by simp [put1])).keep (fun k e => by
      have hkg : k ≠ gd := fun e2 => by rw [e2, hs 1 (by omega) gd hlg] at e; omega
      rw [HW5.out]
      exact (heap_setCell_other _ ⟨gd, 8, none⟩ k _ hkg).trans (heap_setCell_other w4 ⟨gd, 7, none⟩ k _ hkg)) (fun _ e => e) (fun _ _ _ => rfl)
  · obtain ⟨vn, vs, vl, hx⟩ := HD.out.fs i f hf
    exact ⟨vn, vs, vl, hx.keep (fun k e => hk k (by omega) (by omega)) (fun k e => he.same k e)⟩
abbrev snB : ByteArray := ⟨#[83, 121, 110, 99, 78, 97, 109, 101, 115]⟩
theorem syncNames_any (w : World) (L : Lay) (gd : Nat) (d : Dm) (h : DAt w L gd d) (hp : Pre d) :
    Calls Tryz.prog 23 #[.pointer (some ⟨gd, 0, none⟩)] w fun e w' => ∃ L', DAt w' L' gd d.syncNames.1 ∧ Upd L.ρ L'.ρ w w' ∧ ∃ v, e = .returned v ∧ ToldV v w' L'.ρ snB ⟨#[]⟩ d.syncNames.2 := by
  obtain ⟨w1, hw1⟩ : ∃ w1, w1 = w.alloc (boxD gd) := ⟨_, rfl⟩
  have hb1 : Below w.heap.size w w1 := by rw [hw1]; exact bel1 _ _
  have g0 : w1.heap[w.heap.size]? = some (boxD gd) := by rw [hw1]; exact heap_alloc_new w _
  have HD1 := Lib.hid (h.below hb1)
  have HU1 := Lib.hid (Upd.of_below (ρ := L.ρ) hb1)
  have G0 := Lib.hid (show Cap w1 L.ρ w.heap.size (boxD gd) from ⟨g0, h.new _ (Nat.le_refl _)⟩)
  have k0 := cell0 g0
  have HP := Lib.hid hp
  have HA := Lib.hid (ask0 w1 L gd d HD1.out)
  clear h hb1 g0 hp
  go_enter Tryz.func23, Tryz.ntmps23
  go_upto_region 1 with (fail)
  rw [← hw1]
  clear hw1
  by_cases hpw : d.power = false
  · rw [if_pos hpw] at HA
    have HE := Lib.hid (show d.syncNames = (d, 2) by unfold Dm.syncNames; rw [if_pos hpw])
    clear hpw
    go_wp2_with (go_at_call 47; refine HA.out.mono ?_; rintro e w3 ⟨rfl, rfl⟩)
    with_reducible refine (told2 _ L.ρ HD1.out.dom snB ⟨#[]⟩ 2).mono ?_
    rintro e w9 ⟨⟨v, rfl, hv⟩, hb9⟩
    have HV := Lib.hid hv
    have HB9 := Lib.hid hb9
    clear hv hb9
    go_wp2_with fail
    go_ret
    exact ⟨L, by rw [HE.out]; exact HD1.out.below HB9.out, HU1.out.trans (Upd.of_below HB9.out), v, rfl, by rw [HE.out]; exact HV.out⟩
  rw [if_neg hpw] at HA
  have HE := Lib.hid (show d.syncNames = d.begin (fun e => { e with safe := e.names, changes := [] }) (fun _ e => e) by unfold Dm.syncNames; rw [if_neg hpw])
  have HBG := Lib.hid (begin_syncnames w1 L gd d HD1.out (by have := HP.out.acts; omega) (.pointer (some ⟨w.heap.size, 0, none⟩)) (fun e => { e with safe := e.names, changes := [] }) (fun _ e => e)
    (fun w2 hu2 hd2 => syncnames1_any w2 L gd _ hd2 w.heap.size (G0.out.upd hu2))
    (fun w2 n hu2 hd2 => (nothing_any w2 n).mono fun e w' ⟨he, hw⟩ => by subst hw; exact ⟨he, L, hd2, Upd.refl _ _⟩))
  clear hpw
  go_wp2_with (first | (go_at_call 47; refine HA.out.mono ?_; rintro e w3 ⟨rfl, rfl⟩) | (go_at_call 48; refine HBG.out.mono ?_; rintro e w4 ⟨rfl, L4, hd4, hu4⟩; have HD4 := Lib.hid hd4; have HU4 := Lib.hid (HU1.out.trans hu4); clear hd4 hu4))
  obtain ⟨y, hy⟩ : ∃ y, y = (d.begin (fun e => { e with safe := e.names, changes := [] }) (fun _ e => e)).2 := ⟨_, rfl⟩
  rw [← hy]
  have HY := Lib.hid hy
  clear hy
  with_reducible refine (told2 w4 L4.ρ HD4.out.dom snB ⟨#[]⟩ y).mono ?_
  rintro e w9 ⟨⟨v, rfl, hv⟩, hb9⟩
  have HV := Lib.hid hv
  have HB9 := Lib.hid hb9
  clear hv hb9
  go_wp2_with fail
  go_ret
  exact ⟨L4, by rw [HE.out]; exact HD4.out.below HB9.out, HU4.out.trans (Upd.of_below HB9.out), v, rfl, by rw [HE.out, ← HY.out]; exact HV.out⟩
end Go.Proofs.YteoggphafhcchaaGreat
