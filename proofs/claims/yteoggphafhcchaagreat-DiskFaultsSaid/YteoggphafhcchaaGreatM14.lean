import Derived.Test.YteoggphafhcchaaGreatM13
namespace Go.Proofs.YteoggphafhcchaaGreat
open Go Go.RowKit
set_option maxRecDepth 100000
set_option maxHeartbeats 1000000
set_option linter.unusedVariables false
set_option linter.unusedSimpArgs false
open Go.Maps Go.WideMaps
theorem keepc {w3 w4 : World} (hb : Below w3.heap.size w3 w4) {b o : Nat} {v : Value} (h : w3.cell? ⟨b, o, none⟩ = some v) : w4.cell? ⟨b, o, none⟩ = some v :=
  (World.cell?_of_block (hb.block b (World.block_lt_of_cell? w3 _ h))).trans h
theorem keeps {w : World} {b o B o' : Nat} {v u : Value} (h : w.cell? ⟨b, o, none⟩ = some v) (hne : b ≠ B) : (w.setCell ⟨B, o', none⟩ u).cell? ⟨b, o, none⟩ = some v :=
  (World.cell?_of_block (heap_setCell_other w ⟨B, o', none⟩ b u hne)).trans h
theorem put_new {w w' : World} {ρ : Nat → Nat} (dom : ∀ k, ρ k ≠ 0 → k < w.heap.size) {v : Value} {e s n : Nat} {xs : List Value} (ho : w'.ownsRow w.heap.size e s v n xs) (hz : w.heap.size ≤ w'.heap.size) (r : Nat) :
    ∃ ρ', Ext w.heap.size ρ ρ' ∧ (∀ k, ρ' k ≠ 0 → k < w'.heap.size) ∧ (∀ k, v.ownBlock = some k → ρ' k = r) := by
  cases hv : v.ownBlock with
  | none => exact ⟨ρ, Ext.refl _ _, fun k hk => Nat.lt_of_lt_of_le (dom k hk) hz, fun k hk => by cases hk⟩
  | some b =>
    obtain ⟨h1, h2⟩ := ho.lt b hv
    have h0 : ρ b = 0 := by
      rcases Nat.eq_zero_or_pos (ρ b) with h | h
      · exact h
      · have := dom b (by omega); omega
    refine ⟨put1 ρ b r, Ext.put r h0 h1, fun k hk => ?_, fun k hk => by cases hk; simp [put1]⟩
    unfold put1 at hk
    split at hk
    · rename_i e'; rw [e']; exact h2
    · exact Nat.lt_of_lt_of_le (dom k hk) hz
abbrev boxP (g : Nat) : Obj := .cells #[.pointer (some ⟨g, 0, none⟩)] 76
theorem DAt.at {w : World} {L : Lay} {gd : Nat} {d : Dm} (h : DAt w L gd d) {i : Nat} (hi : i < d.fs.length) : ∃ vn vs vl, FAt w L.ρ i (L.fa i) (d.file i) vn vs vl := by
  have hf := List.getElem?_eq_getElem hi
  obtain ⟨vn, vs, vl, hx⟩ := h.fs i _ hf
  refine ⟨vn, vs, vl, ?_⟩
  unfold Dm.file; rw [hf]; exact hx
theorem own_base {w : World} {B e s n : Nat} {v : Value} {xs : List Value} (h : w.ownsRow B e s v n xs) : w.ownsRow 0 e s v n xs := owns_mono h (Nat.zero_le _)
/-- Sync's closure. -/
theorem sync1_any (w : World) (L : Lay) (gd : Nat) (d : Dm) (h : DAt w L gd d) (i : Nat) (hi : i < d.fs.length) (hl : (d.file i).now.length ≤ 140737488355328) (bp : Nat) (hbp : Cap w L.ρ bp (boxP (L.fa i))) :
    Calls Tryz.prog 70 #[.pointer (some ⟨bp, 0, none⟩)] w fun e w' => e = .returned (.tuple #[]) ∧ ∃ L', DAt w' L' gd (d.setF i ⟨(d.file i).now, (d.file i).now, []⟩) ∧ Upd L.ρ L'.ρ w w' := by
  obtain ⟨vn, vs, vl, hf⟩ := h.at hi
  obtain ⟨av, cv, hvn, -⟩ := owns_shape hf.now.1
  obtain ⟨nv, hnv⟩ : ∃ nv, nv = (d.file i).now.length := ⟨_, rfl⟩
  have hr : R8 w av nv cv (d.file i).now := by have h9 := hf.now.1; rw [hvn, ← hnv] at h9; exact R8.of_owns h9 (by omega)
  rw [← hnv] at hvn hl
  subst hvn
  obtain ⟨g, hg⟩ : ∃ g, g = L.fa i := ⟨_, rfl⟩
  rw [← hg] at hbp hf
  have k0 := cell0 hbp.1
  have n1 : w.cell? ⟨g, 1, none⟩ = some (.slice av nv cv) := by rw [cell_of_row _ _ _ _ _ _ hf.box]; rfl
  have hgl : g < w.heap.size := (Array.getElem?_eq_some_iff.1 hf.box).1
  have hne : bp ≠ g := fun e => by have h1 := hbp.2; have h2 := hf.lg; rw [e, h2] at h1; omega
  have HD := Lib.hid h
  have HF := Lib.hid hf
  have HBP := Lib.hid hbp
  have HCL := Lib.hid (bclone_any w.drew av nv cv (d.file i).now (hr.drew) hl)
  have HG := Lib.hid hg
  have HNV := Lib.hid hnv
  clear h hbp hf hr hg hnv hl
  go_enter Tryz.func70, Tryz.ntmps70
  go_wp2_with fail
  go_region_held3 (fun w' => w'.cell? ⟨bp, 0, none⟩ = some (.pointer (some ⟨g, 0, none⟩)) ∧ w'.cell? ⟨g, 1, none⟩ = some (.slice av nv cv))
    (first | exact ⟨k0, n1⟩ | exact ⟨keepc hb k0, keepc hb n1⟩ | exact ⟨keeps (keepc hb k0) hne, (World.cell?_setCell_other _ _ _ _ (by simp)).trans (keepc hb n1)⟩)
    (first | (go_at_call 33; refine HCL.out.mono ?_; rintro e w4 ⟨⟨a4, c4, rfl, hv⟩, hb⟩; have hx := (hb.block g hgl).trans HF.out.box; have s2 := cell_of_row _ _ 2 _ _ _ hx; have f2 := frozen_of_row w4 g 2 _ _ hx; have HX := Lib.hid hx; simp only [List.getElem?_toArray, List.getElem?_cons_zero, List.getElem?_cons_succ] at s2; clear hx))
  obtain ⟨w5, hw5⟩ : ∃ w5, w5 = w4.setCell ⟨g, 2, none⟩ (.slice a4 nv c4) := ⟨_, rfl⟩
  have g5 : w5.heap[g]? = some (boxFile i (.slice av nv cv) (.slice a4 nv c4) vl) := by rw [hw5]; exact heap_setCell_same w4 g 2 _ _ _ HX.out
  have m0 : w5.cell? ⟨bp, 0, none⟩ = some (.pointer (some ⟨g, 0, none⟩)) := by rw [hw5]; exact keeps (keepc hb k0) hne
  have s3 := cell_of_row _ _ 3 _ _ _ g5
  have f3 := frozen_of_row w5 g 3 _ _ g5
  simp only [List.getElem?_toArray, List.getElem?_cons_zero, List.getElem?_cons_succ] at s3
  have HG5 := Lib.hid g5
  have HV := Lib.hid hv
  have HB := Lib.hid hb
  have HW5 := Lib.hid hw5
  rw [← hw5]
  clear hw5 g5 hv hb s2 f2 k0 n1 HX
  go_wp2_with fail
  go_end0
  have hb4 : Below w.heap.size w w4 := ((Below.refl w.heap.size w).drew).trans HB.out
  have hz4 : w.heap.size ≤ w4.heap.size := hb4.size
  have ho4 : Only L.ρ (fun r => 7 + 4 * i ≤ r ∧ r ≤ 10 + 4 * i) w (w5.setCell ⟨g, 3, none⟩ (.slice none 0 0)) := by
    have hgr : 7 + 4 * i ≤ L.ρ g ∧ L.ρ g ≤ 10 + 4 * i := by rw [HF.out.lg]; omega
    rw [HW5.out]
    exact ((Only.of_below hb4).trans (Only.setCell w4 g 2 _ hgr)).trans (Only.setCell _ g 3 _ hgr)
  obtain ⟨ρ', he, hd, hl⟩ := put_new (w := w) (w' := w5.setCell ⟨g, 3, none⟩ (.slice none 0 0)) HD.out.dom (v := .slice a4 nv c4) (show (w5.setCell ⟨g, 3, none⟩ (.slice none 0 0)).ownsRow w.heap.size 5 1 (.slice a4 nv c4) nv ((d.file i).now.map b8) from own_same HV.out (fun k hk => by
    have hkk := HV.out.lt k hk
    have hkg : k ≠ g := by have : w.drew.heap.size = w.heap.size := rfl; omega
    rw [HW5.out]
    exact (heap_setCell_other _ ⟨g, 3, none⟩ k _ hkg).trans (heap_setCell_other w4 ⟨g, 2, none⟩ k _ hkg))) ho4.size (9 + 4 * i)
  have hO : (w5.setCell ⟨g, 3, none⟩ (.slice none 0 0)).ownsRow 0 5 1 (.slice a4 nv c4) nv ((d.file i).now.map b8) := own_base (own_same HV.out (fun k hk => by
    have hkk := HV.out.lt k hk
    have hkg : k ≠ g := by have : w.drew.heap.size = w.heap.size := rfl; omega
    rw [HW5.out]
    exact (heap_setCell_other _ ⟨g, 3, none⟩ k _ hkg).trans (heap_setCell_other w4 ⟨g, 2, none⟩ k _ hkg)))
  refine ⟨rfl, _, HD.out.file1 hi ho4 he hd (f := ⟨(d.file i).now, (d.file i).now, []⟩) (vn := .slice av nv cv) (vs := .slice a4 nv c4) (vl := .slice none 0 0) ?_, Upd.of_only ho4 (by omega) he⟩
  rw [← HG.out]
  refine ⟨heap_setCell_same w5 g 3 _ _ _ HG5.out, (he.same g (by rw [HF.out.lg]; omega)).trans HF.out.lg, ?_, ⟨by rw [← HNV.out]; exact hO, hl⟩, RunsAt.nil _ _ _⟩
  have hnow := HF.out.now
  refine hnow.keep (fun k hk => ?_) (fun k hk => (he.same k (by omega)).trans hk)
  have hkl : k < w.heap.size := HD.out.dom k (by omega)
  have hkg : k ≠ g := fun e => by rw [e, HF.out.lg] at hk; omega
  rw [HW5.out]
  exact ((heap_setCell_other _ ⟨g, 3, none⟩ k _ hkg).trans (heap_setCell_other w4 ⟨g, 2, none⟩ k _ hkg)).trans (hb4.block k hkl)
abbrev syB : ByteArray := ⟨#[83, 121, 110, 99]⟩
theorem sync_any (w : World) (L : Lay) (gd : Nat) (d : Dm) (h : DAt w L gd d) (hp : Pre d) (s : Nm) (hs : s.length ≤ maxLen) :
    Calls Tryz.prog 42 #[.pointer (some ⟨gd, 0, none⟩), .string (bs s)] w fun e w' => ∃ L', DAt w' L' gd (d.sync s).1 ∧ Upd L.ρ L'.ρ w w' ∧ ∃ v, e = .returned v ∧ ToldV v w' L'.ρ syB (bs s) (d.sync s).2 := by
  have HA := Lib.hid (ask1 (w.alloc (.cells #[.string (bs s)] 9)) L gd d (h.below (bel1 _ _)) w.heap.size 0 1 s hs (cell0 (heap_alloc_new w _)))
  have HD0 := Lib.hid h
  have HP := Lib.hid hp
  clear h hp
  go_enter Tryz.func42, Tryz.ntmps42
  go_wp2_with fail
  with_reducible refine HA.out.mono ?_
  rintro e w3 ⟨rfl, hb3⟩
  have hb13 : Below w.heap.size w w3 := (bel1 w _).trans (hb3.mono (by simp))
  have HD3 := Lib.hid (HD0.out.below hb13)
  have HU3 := Lib.hid (Upd.of_below (ρ := L.ρ) hb13)
  clear hb13 hb3 HA HD0
  obtain ⟨r, why, hask⟩ : ∃ r why, d.ask s = (r, why) := ⟨_, _, rfl⟩
  rw [hask]
  dsimp only
  cases e0 : (why == 0)
  · have hr : r = none := ask_fst hask (by simpa using e0)
    subst hr
    have HE := Lib.hid (show d.sync s = (d, why) by unfold Dm.sync; rw [hask])
    have HD4 := Lib.hid (HD3.out.below (bel1 w3 (.cells #[.pointer none] 76)))
    have HU4 := Lib.hid (HU3.out.trans (Upd.of_below (ρ := L.ρ) (bel1 w3 (.cells #[.pointer none] 76))))
    rw [show madeV L.fa none = .pointer none from rfl]
    clear hask
    go_wp2_with fail
    with_reducible refine (told2 (w3.alloc (.cells #[.pointer none] 76)) L.ρ HD4.out.dom syB (bs s) why).mono ?_
    rintro e w9 ⟨⟨v, rfl, hv⟩, hb9⟩
    have HV := Lib.hid hv
    have HB9 := Lib.hid hb9
    clear hv hb9
    go_wp2_with fail
    go_ret
    exact ⟨L, by rw [HE.out]; exact HD4.out.below HB9.out, HU4.out.trans (Upd.of_below HB9.out), v, rfl, by rw [HE.out]; exact HV.out⟩
  obtain rfl : why = 0 := by simpa using e0
  clear e0
  obtain ⟨i, rfl, hk, hl⟩ := ask_zero hask
  have hi : i < d.fs.length := HP.out.refs.nm s i hk
  have HE := Lib.hid (show d.sync s = d.begin (fun e => e.setF i ⟨(e.file i).now, (e.file i).now, []⟩) (fun _ e => e) by unfold Dm.sync; rw [hask])
  rw [show madeV L.fa (some i) = .pointer (some ⟨L.fa i, 0, none⟩) from rfl]
  have hb4 : Below w3.heap.size w3 (w3.alloc (boxP (L.fa i))) := bel1 _ _
  have HD4 := Lib.hid (HD3.out.below hb4)
  have HU4 := Lib.hid (HU3.out.trans (Upd.of_below (ρ := L.ρ) hb4))
  have hcap : Cap (w3.alloc (boxP (L.fa i))) L.ρ w3.heap.size (boxP (L.fa i)) := ⟨heap_alloc_new w3 _, HD3.out.new _ (Nat.le_refl _)⟩
  have HBG := Lib.hid (begin_sync (w3.alloc (boxP (L.fa i))) L gd d HD4.out (by have := HP.out.acts; omega) (.pointer (some ⟨w3.heap.size, 0, none⟩)) (fun e => e.setF i ⟨(e.file i).now, (e.file i).now, []⟩) (fun _ e => e)
    (fun w2 hu2 hd2 => sync1_any w2 L gd _ hd2 i hi (by have := (HP.out.file i).1; show (d.file i).now.length ≤ _; omega) w3.heap.size (hcap.upd hu2))
    (fun w2 n hu2 hd2 => (nothing_any w2 n).mono fun e w' ⟨he, hw⟩ => by subst hw; exact ⟨he, L, hd2, Upd.refl _ _⟩))
  clear hask hk hl hb4 hcap
  go_wp2_with (go_at_call 48; refine HBG.out.mono ?_; rintro e w4 ⟨rfl, L4, hd4, hu4⟩; have HD5 := Lib.hid hd4; have HU5 := Lib.hid (HU4.out.trans hu4); clear hd4 hu4)
  obtain ⟨y, hy⟩ : ∃ y, y = (d.begin (fun e => e.setF i ⟨(e.file i).now, (e.file i).now, []⟩) (fun _ e => e)).2 := ⟨_, rfl⟩
  rw [← hy]
  have HY := Lib.hid hy
  clear hy
  with_reducible refine (told2 w4 L4.ρ HD5.out.dom syB (bs s) y).mono ?_
  rintro e w9 ⟨⟨v, rfl, hv⟩, hb9⟩
  have HV := Lib.hid hv
  have HB9 := Lib.hid hb9
  clear hv hb9
  go_wp2_with fail
  go_ret
  exact ⟨L4, by rw [HE.out]; exact HD5.out.below HB9.out, HU5.out.trans (Upd.of_below HB9.out), v, rfl, by rw [HE.out, ← HY.out]; exact HV.out⟩
end Go.Proofs.YteoggphafhcchaaGreat
