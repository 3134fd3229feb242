import Derived.Test.YtgkehahklccacaaGreatDoorQ12
namespace Go.Proofs.YtgkehahklccacaaGreatDoor
open Go Go.RowKit
set_option maxRecDepth 100000
set_option maxHeartbeats 1000000
set_option linter.unusedVariables false
set_option linter.unusedSimpArgs false
open Go.Maps Go.WideMaps
theorem ask_fst {d : Dm} {s : Nm} {r : Option Nat} {y : Int} (h : d.ask s = (r, y)) (hy : y ≠ 0) : r = none := by
  unfold Dm.ask at h
  split at h
  · cases h; rfl
  · split at h
    · cases h; rfl
    · split at h
      · cases h; rfl
      · cases h; exact absurd rfl hy
theorem ask_zero {d : Dm} {s : Nm} {r : Option Nat} (h : d.ask s = (r, 0)) : ∃ i, r = some i ∧ lk d.names s = some i ∧ legalB (bs s) = true := by
  unfold Dm.ask at h
  split at h
  · simp at h
  · split at h
    · simp at h
    · rename_i h2
      split at h
      · simp at h
      · rename_i i hk
        cases h
        exact ⟨i, rfl, hk, by simpa using h2⟩
theorem DAt.new {w : World} {L : Lay} {gd : Nat} {d : Dm} (h : DAt w L gd d) : ∀ g, w.heap.size ≤ g → L.ρ g = 0 := fun g hg => by
  rcases Nat.eq_zero_or_pos (L.ρ g) with h9 | h9
  · exact h9
  · have := h.dom g (by omega); omega
theorem keepc {w3 w4 : World} (hb : Below w3.heap.size w3 w4) {b o : Nat} {v : Value} (h : w3.cell? ⟨b, o, none⟩ = some v) : w4.cell? ⟨b, o, none⟩ = some v :=
  (World.cell?_of_block (hb.block b (World.block_lt_of_cell? w3 _ h))).trans h
theorem keeps {w : World} {b o B o' : Nat} {v u : Value} (h : w.cell? ⟨b, o, none⟩ = some v) (hne : b ≠ B) : (w.setCell ⟨B, o', none⟩ u).cell? ⟨b, o, none⟩ = some v :=
  (World.cell?_of_block (heap_setCell_other w ⟨B, o', none⟩ b u hne)).trans h
theorem put_new {w w' : World} {ρ : Nat → Nat} (dom : ∀ k, ρ k ≠ 0 → k < w.heap.size) {v : Value} {e s n : Nat} {xs : List Value} (ho : w'.ownsRow w.heap.size e s v n xs) (hz : w.heap.size ≤ w'.heap.size) (r : Nat) :
    ∃ ρ', Ext w.heap.size ρ ρ' ∧ (∀ k, ρ' k ≠ 0 → k < w'.heap.size) ∧ (∀ k, v.ownBlock = some k → ρ' k = r) := by
  cases hv : v.ownBlock with
  | none => exact ⟨ρ, Ext.refl _ _, fun k hk => Nat.lt_of_lt_of_le (dom k hk) hz, fun k hk => by cases hk⟩
  | some b =>
    obtain ⟨h1, h2⟩ := ho.lt b hv
    have h0 : ρ b = 0 := by
      rcases Nat.eq_zero_or_pos (ρ b) with h | h
      · exact h
      · have := dom b (by omega); omega
    refine ⟨put1 ρ b r, Ext.put r h0 h1, fun k hk => ?_, fun k hk => by cases hk; simp [put1]⟩
    unfold put1 at hk
    split at hk
    · rename_i e'; rw [e']; exact h2
    · exact Nat.lt_of_lt_of_le (dom k hk) hz
abbrev boxP (g : Nat) : Obj := .cells #[.pointer (some ⟨g, 0, none⟩)] 109
theorem DAt.at {w : World} {L : Lay} {gd : Nat} {d : Dm} (h : DAt w L gd d) {i : Nat} (hi : i < d.fs.length) : ∃ vn vs vl, FAt w L.ρ i (L.fa i) (d.file i) vn vs vl := by
  have hf := List.getElem?_eq_getElem hi
  obtain ⟨vn, vs, vl, hx⟩ := h.fs i _ hf
  refine ⟨vn, vs, vl, ?_⟩
  unfold Dm.file; rw [hf]; exact hx
theorem own_base {w : World} {B e s n : Nat} {v : Value} {xs : List Value} (h : w.ownsRow B e s v n xs) : w.ownsRow 0 e s v n xs := owns_mono h (Nat.zero_le _)
/-- Sync's closure. -/
theorem sync1_any (w : World) (L : Lay) (gd : Nat) (d : Dm) (h : DAt w L gd d) (i : Nat) (hi : i < d.fs.length) (hl : (d.file i).now.length ≤ 140737488355328) (bp : Nat) (hbp : Cap w L.ρ bp (boxP (L.fa i))) :
    Calls Tryz.prog 166 #[.pointer (some ⟨bp, 0, none⟩)] w fun e w' => e = .returned (.tuple #[]) ∧ ∃ L', DAt w' L' gd (d.setF i ⟨(d.file i).now, (d.file i).now, []⟩) ∧ Upd L.ρ L'.ρ w w' := by
  obtain ⟨vn, vs, vl, hf⟩ := h.at hi
  obtain ⟨av, cv, hvn, -⟩ := owns_shape hf.now.1
  obtain ⟨nv, hnv⟩ : ∃ nv, nv = (d.file i).now.length := ⟨_, rfl⟩
  have hr : R8 w av nv cv (d.file i).now := by have h9 := hf.now.1; rw [hvn, ← hnv] at h9; exact R8.of_owns h9 (by omega)
  rw [← hnv] at hvn hl
  subst hvn
  obtain ⟨g, hg⟩ : ∃ g, g = L.fa i := ⟨_, rfl⟩
  rw [← hg] at hbp hf
  have k0 := cell0 hbp.1
  have n1 : w.cell? ⟨g, 1, none⟩ = some (.slice av nv cv) := by rw [cell_of_row _ _ _ _ _ _ hf.box]; rfl
  have hgl : g < w.heap.size := (Array.getElem?_eq_some_iff.1 hf.box).1
  have hne : bp ≠ g := fun e => by have h1 := hbp.2; have h2 := hf.lg; rw [e, h2] at h1; omega
  have HD := Lib.hid h
  have HF := Lib.hid hf
  have HBP := Lib.hid hbp
  have HCL := Lib.hid (bclone_any w.drew av nv cv (d.file i).now (hr.drew) hl)
  have HG := Lib.hid hg
  have HNV := Lib.hid hnv
  clear h hbp hf hr hg hnv hl
  go_enter Tryz.func166, Tryz.ntmps166
  go_wp2_with fail
  go_region_held3 (fun w' => w'.cell? ⟨bp, 0, none⟩ = some (.pointer (some ⟨g, 0, none⟩)) ∧ w'.cell? ⟨g, 1, none⟩ = some (.slice av nv cv))
    (first | exact ⟨k0, n1⟩ | exact ⟨keepc hb k0, keepc hb n1⟩ | exact ⟨keeps (keepc hb k0) hne, (World.cell?_setCell_other _ _ _ _ (by simp)).trans (keepc hb n1)⟩)
    (first | (go_at_call 54; refine HCL.out.mono ?_; rintro e w4 ⟨⟨a4, c4, rfl, hv⟩, hb⟩; have hx := (hb.block g hgl).trans HF.out.box; have s2 := cell_of_row _ _ 2 _ _ _ hx; have f2 := frozen_of_row w4 g 2 _ _ hx; have HX := Lib.hid hx; simp only [List.getElem?_toArray, List.getElem?_cons_zero, List.getElem?_cons_succ] at s2; clear hx))
  obtain ⟨w5, hw5⟩ : ∃ w5, w5 = w4.setCell ⟨g, 2, none⟩ (.slice a4 nv c4) := ⟨_, rfl⟩
  have g5 : w5.heap[g]? = some (boxFile i (.slice av nv cv) (.slice a4 nv c4) vl) := by rw [hw5]; exact heap_setCell_same w4 g 2 _ _ _ HX.out
  have m0 : w5.cell? ⟨bp, 0, none⟩ = some (.pointer (some ⟨g, 0, none⟩)) := by rw [hw5]; exact keeps (keepc hb k0) hne
  have s3 := cell_of_row _ _ 3 _ _ _ g5
  have f3 := frozen_of_row w5 g 3 _ _ g5
  simp only [List.getElem?_toArray, List.getElem?_cons_zero, List.getElem?_cons_succ] at s3
  have HG5 := Lib.hid g5
  have HV := Lib.hid hv
  have HB := Lib.hid hb
  have HW5 := Lib.hid hw5
  rw [← hw5]
  clear hw5 g5 hv hb s2 f2 k0 n1 HX
  go_wp2_with fail
  go_end0
  have hb4 : Below w.heap.size w w4 := ((Below.refl w.heap.size w).drew).trans HB.out
  have hz4 : w.heap.size ≤ w4.heap.size := hb4.size
  have ho4 : Only L.ρ (fun r => 7 + 4 * i ≤ r ∧ r ≤ 10 + 4 * i) w (w5.setCell ⟨g, 3, none⟩ (.slice none 0 0)) := by
    have hgr : 7 + 4 * i ≤ L.ρ g ∧ L.ρ g ≤ 10 + 4 * i := by rw [HF.out.lg]; omega
    rw [HW5.out]
    exact ((Only.of_below hb4).trans (Only.setCell w4 g 2 _ hgr)).trans (Only.setCell _ g 3 _ hgr)
  obtain ⟨ρ', he, hd, hl⟩ := put_new (w := w) (w' := w5.setCell ⟨g, 3, none⟩ (.slice none 0 0)) HD.out.dom (v := .slice a4 nv c4) (show (w5.setCell ⟨g, 3, none⟩ (.slice none 0 0)).ownsRow w.heap.size 5 1 (.slice a4 nv c4) nv ((d.file i).now.map b8) from own_same HV.out (fun k hk => by
    have hkk := HV.out.lt k hk
    have hkg : k ≠ g := by have : w.drew.heap.size = w.heap.size := rfl; omega
    rw [HW5.out]
    exact (heap_setCell_other _ ⟨g, 3, none⟩ k _ hkg).trans (heap_setCell_other w4 ⟨g, 2, none⟩ k _ hkg))) ho4.size (9 + 4 * i)
  have hO : (w5.setCell ⟨g, 3, none⟩ (.slice none 0 0)).ownsRow 0 5 1 (.slice a4 nv c4) nv ((d.file i).now.map b8) := own_base (own_same HV.out (fun k hk => by
    have hkk := HV.out.lt k hk
    have hkg : k ≠ g := by have : w.drew.heap.size = w.heap.size := rfl; omega
    rw [HW5.out]
    exact (heap_setCell_other _ ⟨g, 3, none⟩ k _ hkg).trans (heap_setCell_other w4 ⟨g, 2, none⟩ k _ hkg)))
  refine ⟨rfl, _, HD.out.file1 hi ho4 he hd (f := ⟨(d.file i).now, (d.file i).now, []⟩) (vn := .slice av nv cv) (vs := .slice a4 nv c4) (vl := .slice none 0 0) ?_, Upd.of_only ho4 (by omega) he⟩
  rw [← HG.out]
  refine ⟨heap_setCell_same w5 g 3 _ _ _ HG5.out, (he.same g (by rw [HF.out.lg]; omega)).trans HF.out.lg, ?_, ⟨by rw [← HNV.out]; exact hO, hl⟩, RunsAt.nil _ _ _⟩
  have hnow := HF.out.now
  refine hnow.keep (fun k hk => ?_) (fun k hk => (he.same k (by omega)).trans hk)
  have hkl : k < w.heap.size := HD.out.dom k (by omega)
  have hkg : k ≠ g := fun e => by rw [e, HF.out.lg] at hk; omega
  rw [HW5.out]
  exact ((heap_setCell_other _ ⟨g, 3, none⟩ k _ hkg).trans (heap_setCell_other w4 ⟨g, 2, none⟩ k _ hkg)).trans (hb4.block k hkl)
abbrev syB : ByteArray := ⟨#[83, 121, 110, 99]⟩
theorem sync_any (w : World) (L : Lay) (gd : Nat) (d : Dm) (h : DAt w L gd d) (hp : Pre d) (s : Nm) (hs : s.length ≤ maxLen) :
    Calls Tryz.prog 101 #[.pointer (some ⟨gd, 0, none⟩), .string (bs s)] w fun e w' => ∃ L', DAt w' L' gd (d.sync s).1 ∧ Upd L.ρ L'.ρ w w' ∧ ∃ v, e = .returned v ∧ ToldV v w' L'.ρ syB (bs s) (d.sync s).2 := by
  have HA := Lib.hid (ask1 (w.alloc (.cells #[.string (bs s)] 9)) L gd d (h.below (bel1 _ _)) w.heap.size 0 1 s hs (cell0 (heap_alloc_new w _)))
  have HD0 := Lib.hid h
  have HP := Lib.hid hp
  clear h hp
  go_enter Tryz.func101, Tryz.ntmps101
  go_wp2_with fail
  with_reducible refine HA.out.mono ?_
  rintro e w3 ⟨rfl, hb3⟩
  have hb13 : Below w.heap.size w w3 := (bel1 w _).trans (hb3.mono (by simp))
  have HD3 := Lib.hid (HD0.out.below hb13)
  have HU3 := Lib.hid (Upd.of_below (ρ := L.ρ) hb13)
  clear hb13 hb3 HA HD0
  obtain ⟨r, why, hask⟩ : ∃ r why, d.ask s = (r, why) := ⟨_, _, rfl⟩
  rw [hask]
  dsimp only
  cases e0 : (why == 0)
  · have hr : r = none := ask_fst hask (by simpa using e0)
    subst hr
    have HE := Lib.hid (show d.sync s = (d, why) by unfold Dm.sync; rw [hask])
    have HD4 := Lib.hid (HD3.out.below (bel1 w3 (.cells #[.pointer none] 109)))
    have HU4 := Lib.hid (HU3.out.trans (Upd.of_below (ρ := L.ρ) (bel1 w3 (.cells #[.pointer none] 109))))
    rw [show madeV L.fa none = .pointer none from rfl]
    clear hask
    go_wp2_with fail
    with_reducible refine (told2 (w3.alloc (.cells #[.pointer none] 109)) L.ρ HD4.out.dom syB (bs s) why).mono ?_
    rintro e w9 ⟨⟨v, rfl, hv⟩, hb9⟩
    have HV := Lib.hid hv
    have HB9 := Lib.hid hb9
    clear hv hb9
    go_wp2_with fail
    go_ret
    exact ⟨L, by rw [HE.out]; exact HD4.out.below HB9.out, HU4.out.trans (Upd.of_below HB9.out), v, rfl, by rw [HE.out]; exact HV.out⟩
  obtain rfl : why = 0 := by simpa using e0
  clear e0
  obtain ⟨i, rfl, hk, hl⟩ := ask_zero hask
  have hi : i < d.fs.length := HP.out.refs.nm s i hk
  have HE := Lib.hid (show d.sync s = d.begin (fun e => e.setF i ⟨(e.file i).now, (e.file i).now, []⟩) (fun _ e => e) by unfold Dm.sync; rw [hask])
  rw [show madeV L.fa (some i) = .pointer (some ⟨L.fa i, 0, none⟩) from rfl]
  have hb4 : Below w3.heap.size w3 (w3.alloc (boxP (L.fa i))) := bel1 _ _
  have HD4 := Lib.hid (HD3.out.below hb4)
  have HU4 := Lib.hid (HU3.out.trans (Upd.of_below (ρ := L.ρ) hb4))
  have hcap : Cap (w3.alloc (boxP (L.fa i))) L.ρ w3.heap.size (boxP (L.fa i)) := ⟨heap_alloc_new w3 _, HD3.out.new _ (Nat.le_refl _)⟩
  have HBG := Lib.hid (begin_sync (w3.alloc (boxP (L.fa i))) L gd d HD4.out (by have := HP.out.acts; omega) (.pointer (some ⟨w3.heap.size, 0, none⟩)) (fun e => e.setF i ⟨(e.file i).now, (e.file i).now, []⟩) (fun _ e => e)
    (fun w2 hu2 hd2 => sync1_any w2 L gd _ hd2 i hi (by have := (HP.out.file i).1; show (d.file i).now.length ≤ _; omega) w3.heap.size (hcap.upd hu2))
    (fun w2 n hu2 hd2 => (nothing_any w2 n).mono fun e w' ⟨he, hw⟩ => by subst hw; exact ⟨he, L, hd2, Upd.refl _ _⟩))
  clear hask hk hl hb4 hcap
  go_wp2_with (go_at_call 94; refine HBG.out.mono ?_; rintro e w4 ⟨rfl, L4, hd4, hu4⟩; have HD5 := Lib.hid hd4; have HU5 := Lib.hid (HU4.out.trans hu4); clear hd4 hu4)
  obtain ⟨y, hy⟩ : ∃ y, y = (d.begin (fun e => e.setF i ⟨(e.file i).now, (e.file i).now, []⟩) (fun _ e => e)).2 := ⟨_, rfl⟩
  rw [← hy]
  have HY := Lib.hid hy
  clear hy
  with_reducible refine (told2 w4 L4.ρ HD5.out.dom syB (bs s) y).mono ?_
  rintro e w9 ⟨⟨v, rfl, hv⟩, hb9⟩
  have HV := Lib.hid hv
  have HB9 := Lib.hid hb9
  clear hv hb9
  go_wp2_with fail
  go_ret
  exact ⟨L4, by rw [HE.out]; exact HD5.out.below HB9.out, HU5.out.trans (Upd.of_below HB9.out), v, rfl, by rw [HE.out, ← HY.out]; exact HV.out⟩
end Go.Proofs.YtgkehahklccacaaGreatDoor
namespace Go.Proofs.YtgkehahklccacaaGreatDoor
open Go Go.RowKit
set_option maxRecDepth 100000
set_option maxHeartbeats 1000000
set_option linter.unusedVariables false
set_option linter.unusedSimpArgs false
open Go.Maps Go.WideMaps
theorem DAt.relab {w : World} {L : Lay} {gd : Nat} {d : Dm} (h : DAt w L gd d) {ρ' : Nat → Nat} (hs : ∀ k, L.ρ k ≠ 0 → ρ' k = L.ρ k) (hd : ∀ k, ρ' k ≠ 0 → k < w.heap.size) : DAt w { L with ρ := ρ' } gd d := by
  have hr : ∀ r, r ≠ 0 → ∀ k, L.ρ k = r → ρ' k = r := fun r hr k e => (hs k (by omega)).trans e
  refine ⟨h.g, hr 1 (by omega) gd h.lg, hd, h.nm.keep (fun _ _ => rfl) (hr 2 (by omega)) (fun _ _ _ => rfl), h.sf.keep (fun _ _ => rfl) (hr 3 (by omega)) (fun _ _ _ => rfl), h.cl.keep (fun _ _ => rfl) (hr 4 (by omega)), h.ch.keep (fun _ _ => rfl) (hr 5 (by omega)), h.pl.keep (fun _ _ => rfl) (hr 6 (by omega)), fun i f hf => ?_⟩
  obtain ⟨vn, vs, vl, hx⟩ := h.fs i f hf
  exact ⟨vn, vs, vl, hx.keep (fun _ _ => rfl) hs⟩
theorem FAt.lt {w : World} {ρ : Nat → Nat} {i g : Nat} {f : Fl} {vn vs vl : Value} (h : FAt w ρ i g f vn vs vl) : g < w.heap.size := (Array.getElem?_eq_some_iff.1 h.box).1
theorem FAt.cells {w : World} {ρ : Nat → Nat} {i g : Nat} {f : Fl} {vn vs vl : Value} (h : FAt w ρ i g f vn vs vl) : w.cell? ⟨g, 0, none⟩ = some (.int .i64 ((i : Int) + 1)) ∧ w.cell? ⟨g, 1, none⟩ = some vn ∧ w.cell? ⟨g, 2, none⟩ = some vs ∧ w.cell? ⟨g, 3, none⟩ = some vl ∧ ∀ o, w.frozen? ⟨g, o, none⟩ = false := by
  have h := h.box
  refine ⟨?_, ?_, ?_, ?_, fun o => frozen_of_row w g o _ _ h⟩ <;> (rw [cell_of_row _ _ _ _ _ _ h]; rfl)
/-- A file's bytes written. -/
theorem DAt.nowTo {w w4 : World} {L : Lay} {gd i : Nat} {d : Dm} (h : DAt w L gd d) (hi : i < d.fs.length) {vn vs vl : Value} (hf : FAt w L.ρ i (L.fa i) (d.file i) vn vs vl) (hg : w.grownBy w4 vn.ownBlock) {v' : Value} {l : List UInt8} (ho : w4.ownsRow 0 5 1 v' l.length (l.map b8)) (hat : v'.ownBlock = vn.ownBlock ∨ v'.ownBlock = some w.heap.size) :
    ∃ ρ', DAt (w4.setCell ⟨L.fa i, 1, none⟩ v') { L with ρ := ρ' } gd (d.setF i ⟨l, (d.file i).safe, (d.file i).loose⟩) ∧ Upd L.ρ ρ' w (w4.setCell ⟨L.fa i, 1, none⟩ v') ∧ FAt (w4.setCell ⟨L.fa i, 1, none⟩ v') ρ' i (L.fa i) ⟨l, (d.file i).safe, (d.file i).loose⟩ v' vs vl := by
  have hlg := hf.lg
  have hgl := hf.lt
  have hgb : ∀ k, vn.ownBlock = some k → k ≠ L.fa i := fun k hk e => by have := hf.now.2 k hk; rw [e, hlg] at this; omega
  have o1 : Only L.ρ (fun r => r = 8 + 4 * i ∨ r = 7 + 4 * i) w w4 := Only.of_grown hg (fun k e => .inl (hf.now.2 k e))
  have o2 : Only L.ρ (fun r => r = 8 + 4 * i ∨ r = 7 + 4 * i) w (w4.setCell ⟨L.fa i, 1, none⟩ v') := o1.trans (Only.setCell w4 _ 1 v' (.inr hlg))
  have ho' : (w4.setCell ⟨L.fa i, 1, none⟩ v').ownsRow 0 5 1 v' l.length (l.map b8) := own_same ho (fun k hk => heap_setCell_other w4 ⟨L.fa i, 1, none⟩ k _ (fun e => by
    have e1 : k = L.fa i := e
    rcases hat with hat | hat
    · exact hgb k (by rw [← hat]; exact hk) e1
    · rw [hat] at hk; have := Option.some.inj hk; omega))
  obtain ⟨ρ', he, hd, hO⟩ := relabel hf.now h.dom ho' hat (by omega) o2.size
  have hk : ∀ k, L.ρ k ≠ 0 → L.ρ k ≠ 8 + 4 * i → L.ρ k ≠ 7 + 4 * i → (w4.setCell ⟨L.fa i, 1, none⟩ v').heap[k]? = w.heap[k]? := fun k h0 h1 h2 => o2.block k (h.dom k h0) (by omega)
  have hbx : w4.heap[L.fa i]? = some (boxFile i vn vs vl) := (hg.block _ hgl (fun e => hgb _ e.symm rfl)).trans hf.box
  have hF : FAt (w4.setCell ⟨L.fa i, 1, none⟩ v') ρ' i (L.fa i) ⟨l, (d.file i).safe, (d.file i).loose⟩ v' vs vl :=
    ⟨heap_setCell_same w4 _ 1 _ _ v' hbx, (he.same _ (by omega)).trans hlg, hO, hf.safe.keep (fun k e => hk k (by omega) (by omega) (by omega)) (fun k e => (he.same k (by omega)).trans e), hf.loose.keep (fun k e => hk k (by omega) (by omega) (by omega)) (fun k e => he.same k (by omega))⟩
  exact ⟨ρ', h.file1 hi (o2.mono (fun r hr => by omega)) he hd hF, Upd.of_only o2 (by omega) he, hF⟩
/-- One more run laid behind a file's others. -/
theorem DAt.looseTo {w w4 : World} {L : Lay} {gd i : Nat} {d : Dm} (h : DAt w L gd d) (hi : i < d.fs.length) {f : Fl} (hfile : d.file i = f) {vn vs vl : Value} (hf : FAt w L.ρ i (L.fa i) f vn vs vl) (hg : w.grownBy w4 vl.ownBlock) {v' lv : Value} {u : Run} {rs : List (Value × Int)} {n' : Nat} (hn : n' = f.loose.length + 1)
    (hrs : rs.length = f.loose.length) (hall : ∀ (k : Nat) (p : Value × Int) (u : Run), rs[k]? = some p → f.loose[k]? = some u → p.2 = (u.cut : Int) ∧ RdL w L.ρ p.1 u.laid) (hlv : RdL w L.ρ lv u.laid)
    (hO0 : OwnL w L.ρ 172 2 (10 + 4 * i) vl f.loose.length (rs.flatMap runV)) (ho : w4.ownsRow 0 172 2 v' n' (rs.flatMap runV ++ [lv, .int .i64 u.cut])) (hat : v'.ownBlock = vl.ownBlock ∨ v'.ownBlock = some w.heap.size) :
    ∃ ρ', DAt (w4.setCell ⟨L.fa i, 3, none⟩ v') { L with ρ := ρ' } gd (d.setF i ⟨f.now, f.safe, f.loose ++ [u]⟩) ∧ Upd L.ρ ρ' w (w4.setCell ⟨L.fa i, 3, none⟩ v') := by
  subst hfile
  subst hn
  have hlg := hf.lg
  have hgl := hf.lt
  have hgb : ∀ k, vl.ownBlock = some k → k ≠ L.fa i := fun k hk e => by have := hO0.2 k hk; rw [e, hlg] at this; omega
  have o1 : Only L.ρ (fun r => r = 10 + 4 * i ∨ r = 7 + 4 * i) w w4 := Only.of_grown hg (fun k e => .inl (hO0.2 k e))
  have o2 : Only L.ρ (fun r => r = 10 + 4 * i ∨ r = 7 + 4 * i) w (w4.setCell ⟨L.fa i, 3, none⟩ v') := o1.trans (Only.setCell w4 _ 3 v' (.inr hlg))
  have ho' : (w4.setCell ⟨L.fa i, 3, none⟩ v').ownsRow 0 172 2 v' ((d.file i).loose.length + 1) (rs.flatMap runV ++ [lv, .int .i64 u.cut]) := own_same ho (fun k hk => heap_setCell_other w4 ⟨L.fa i, 3, none⟩ k _ (fun e => by
    have e1 : k = L.fa i := e
    rcases hat with hat | hat
    · exact hgb k (by rw [← hat]; exact hk) e1
    · rw [hat] at hk; have := Option.some.inj hk; omega))
  obtain ⟨ρ', he, hd, hO⟩ := relabel hO0 h.dom ho' hat (by omega) o2.size
  have hk : ∀ k, L.ρ k ≠ 0 → L.ρ k ≠ 10 + 4 * i → L.ρ k ≠ 7 + 4 * i → (w4.setCell ⟨L.fa i, 3, none⟩ v').heap[k]? = w.heap[k]? := fun k h0 h1 h2 => o2.block k (h.dom k h0) (by omega)
  have hrd : ∀ {v : Value} {l : List UInt8}, RdL w L.ρ v l → RdL (w4.setCell ⟨L.fa i, 3, none⟩ v') ρ' v l := fun hx => hx.keep (fun k e => hk k (by omega) (by omega) (by omega)) (fun k e => (he.same k (by omega)).trans e)
  have hbx : w4.heap[L.fa i]? = some (boxFile i vn vs vl) := (hg.block _ hgl (fun e => hgb _ e.symm rfl)).trans hf.box
  have hF : FAt (w4.setCell ⟨L.fa i, 3, none⟩ v') ρ' i (L.fa i) ⟨(d.file i).now, (d.file i).safe, (d.file i).loose ++ [u]⟩ vn vs v' :=
    ⟨heap_setCell_same w4 _ 3 _ _ v' hbx, (he.same _ (by omega)).trans hlg, hf.now.keep (fun k e => hk k (by omega) (by omega) (by omega)) (fun k e => (he.same k (by omega)).trans e), hf.safe.keep (fun k e => hk k (by omega) (by omega) (by omega)) (fun k e => (he.same k (by omega)).trans e),
      rs ++ [(lv, (u.cut : Int))], by simp [hrs], by
        show OwnL _ ρ' 172 2 (10 + 4 * i) v' ((d.file i).loose ++ [u]).length _
        rw [List.flatMap_append, List.length_append]
        exact hO, fun k p x hp hx => by
        by_cases hkl : k < rs.length
        · rw [List.getElem?_append_left hkl] at hp
          have hx' : ((d.file i).loose ++ [u])[k]? = some x := hx
          rw [List.getElem?_append_left (by omega)] at hx'
          exact ⟨(hall k p x hp hx').1, hrd (hall k p x hp hx').2⟩
        · rw [List.getElem?_append_right (by omega)] at hp
          have hx' : ((d.file i).loose ++ [u])[k]? = some x := hx
          rw [List.getElem?_append_right (by omega)] at hx'
          have h1 := (List.getElem?_eq_some_iff.1 hp).1
          obtain h2 : k - rs.length = 0 := by simp at h1; omega
          rw [h2] at hp
          rw [show k - (d.file i).loose.length = 0 by omega] at hx'
          simp at hp hx'
          subst hp; subst hx'
          exact ⟨rfl, hrd hlv⟩⟩
  exact ⟨ρ', h.file1 hi (o2.mono (fun r hr => by omega)) he hd hF, Upd.of_only o2 (by omega) he⟩
theorem Dm.file_set {d : Dm} {i : Nat} (hi : i < d.fs.length) (f : Fl) : (d.setF i f).file i = f := by unfold Dm.setF Dm.file; simp [hi]
theorem Dm.set_set {d : Dm} {i : Nat} (f f2 : Fl) : (d.setF i f).setF i f2 = d.setF i f2 := by unfold Dm.setF; simp
theorem RdL.nil (w : World) (ρ : Nat → Nat) : RdL w ρ (.slice none 0 0) [] := ⟨none, 0, rfl, R8.nil w 0, fun b off e => by cases e⟩
theorem sl82 : Sl Tryz.prog 115 172 (.agg #[.slice none 0 0, .int .i64 0]) 2 32 := ⟨Tryz.underlying115, by kernel_rfl, rfl, by decide⟩
/-- b[:n] of an owned row. -/
theorem own_take {w : World} {e s n m : Nat} {a : Option Addr} {c : Nat} {xs : List Value} (h : w.ownsRow 0 e s (.slice a n c) n xs) (hm : m ≤ n) : w.ownsRow 0 e s (.slice a m c) m (xs.take (m * s)) := by
  obtain ⟨h1, h2⟩ := h
  refine ⟨by rw [List.length_take]; have := Nat.mul_le_mul_right s hm; omega, ?_⟩
  rcases h2 with ⟨hv, hx⟩ | ⟨g, cap, cur, hv, hb, hg, hn, hc, hs, ht⟩
  · injection hv with e1 e2 e3
    subst e1 e3
    left
    subst hx
    obtain rfl : m = 0 := by omega
    exact ⟨rfl, by simp⟩
  · injection hv with e1 e2 e3
    subst e1 e3
    right
    exact ⟨g, c, cur, rfl, hb, hg, by omega, hc, hs, by rw [← ht, List.take_take]; congr 1; have := Nat.mul_le_mul_right s hm; omega⟩
end Go.Proofs.YtgkehahklccacaaGreatDoor
namespace Go.Proofs.YtgkehahklccacaaGreatDoor
open Go Go.RowKit
set_option maxRecDepth 100000
set_option maxHeartbeats 1000000
set_option linter.unusedVariables false
set_option linter.unusedSimpArgs false
open Go.Maps Go.WideMaps
theorem new_run (w : World) (v : Value) (m : Int) {k : Nat} (hk : w.heap.size = k) (j : Nat) (u : Value) (h : [v, .int .i64 m][j]? = some u) : (w.alloc (.cells #[v, .int .i64 m] 172)).cell? ((⟨k, 0, none⟩ : Addr).add j) = some u := by
  subst hk
  rw [Addr.add_lit, cell_of_row _ _ _ _ _ _ (heap_alloc_new w _), Nat.zero_add]
  simpa using h
theorem one_run (v : Value) (m : Int) (hv : v.oneCell' = true) : ∀ u ∈ [v, .int .i64 m], u.oneCell' = true := by
  intro u hu
  simp only [List.mem_cons, List.not_mem_nil, or_false] at hu
  rcases hu with rfl | rfl
  · exact hv
  · rfl
abbrev boxI (n : Int) : Obj := .cells #[.int .i64 n] 3
theorem slice_cut (w : World) (a : Option Addr) (n c k : Nat) (hk : k ≤ c) : (Instr.slice 53 (.slice a n c) none (some (.int .i64 (k : Int))) none).run Tryz.prog w = .ok (.slice a k c) w := by
  obtain ⟨h1, h2⟩ := sl50.elem w
  rw [run_slice_h w 53 a n c h1 .i64 k (by omega) (by omega), h2]
  have e : a.map (·.add 0) = a := by cases a with | none => rfl | some x => cases x; simp [Addr.add]
  simp [Result.andThen, sliced, e]
/-- Cut's closure. -/
theorem cut1_any (w : World) (L : Lay) (gd : Nat) (d : Dm) (h : DAt w L gd d) (i : Nat) (hi : i < d.fs.length) (n : Nat) (hn : n ≤ (d.file i).now.length) (hl : (d.file i).now.length ≤ 2147483647) (hlo : (d.file i).loose.length < 1099511627776) (bd bp bn : Nat) (hbd : Cap w L.ρ bd (boxD gd)) (hbp : Cap w L.ρ bp (boxP (L.fa i))) (hbn : Cap w L.ρ bn (boxI n)) :
    Calls Tryz.prog 98 #[.pointer (some ⟨bd, 0, none⟩), .pointer (some ⟨bp, 0, none⟩), .pointer (some ⟨bn, 0, none⟩)] w fun e w' => e = .returned (.tuple #[]) ∧ ∃ L', DAt w' L' gd { (d.setF i ⟨(d.file i).now.take n, (d.file i).safe, (d.file i).loose ++ [⟨[], n⟩]⟩) with used := wrap64 (d.used - wrap64 (((d.file i).now.length : Int) - n)) } ∧ Upd L.ρ L'.ρ w w' := by
  obtain ⟨vn, vs, vl, hf⟩ := h.at hi
  obtain ⟨av, cv, hvn, -⟩ := owns_shape hf.now.1
  obtain ⟨nv, hnv⟩ : ∃ nv, nv = (d.file i).now.length := ⟨_, rfl⟩
  rw [← hnv] at hvn hl hn
  subst hvn
  obtain ⟨g, hg⟩ : ∃ g, g = L.fa i := ⟨_, rfl⟩
  rw [← hg] at hbp
  have hgl := hf.lt
  have hgd := h.lt
  have HF := Lib.hid hf
  have HD := Lib.hid h
  have HBD := Lib.hid hbd
  have HBP := Lib.hid hbp
  have HBN := Lib.hid hbn
  have HNV := Lib.hid hnv
  have HG := Lib.hid hg
  have kd := cell0 hbd.1
  have kp := cell0 hbp.1
  have kn := cell0 hbn.1
  have c2 := h.cells.2.2.1
  have f2 := h.cells.2.2.2.2.2.2.2.2.2.2.2 2
  have n1 := hf.cells.2.1
  rw [← hg] at n1
  clear h hf hbd hbp hbn hnv hg
  go_enter Tryz.func98, Tryz.ntmps98
  go_wp2_with fail
  go_still_tail 12, (by kernel_rfl)
  change wpList _ _ _ _ _ w.drew
  obtain ⟨wz, hwz⟩ : ∃ wz, wz = w.drew := ⟨_, rfl⟩
  have hbz : Below w.heap.size w wz := by rw [hwz]; exact (Below.refl _ _).drew
  have c2z := keepc hbz c2
  have f2z : wz.frozen? ⟨gd, 2, none⟩ = false := by rw [hwz]; exact f2
  rw [← hwz]
  clear hwz kd kp kn c2 f2 n1
  have HBZ := Lib.hid hbz
  clear hbz
  go_upto_region 1 with (fail)
  obtain ⟨u', hu'⟩ : ∃ u', u' = wrap64 (d.used - ((nv : Int) - (n : Int))) := ⟨_, rfl⟩
  rw [← hu']
  have hdz := HD.out.below HBZ.out
  have hoz : Only L.ρ (· = 1) wz (wz.setCell ⟨gd, 2, none⟩ (.int .i64 u')) := Only.setCell wz gd 2 _ hdz.lg
  have hd1 := hdz.own1 hoz (d' := { d with used := u' }) (heap_setCell_same wz gd 2 _ _ _ hdz.g) rfl rfl rfl rfl rfl rfl
  have hu1 : Upd L.ρ L.ρ w (wz.setCell ⟨gd, 2, none⟩ (.int .i64 u')) := (Upd.of_below (ρ := L.ρ) HBZ.out).trans (Upd.of_only hoz (by omega) (Ext.refl _ _))
  obtain ⟨w1, hw1⟩ : ∃ w1, w1 = wz.setCell ⟨gd, 2, none⟩ (.int .i64 u') := ⟨_, rfl⟩
  rw [← hw1] at hoz hd1 hu1 ⊢
  have hf1 : FAt w1 L.ρ i (L.fa i) (d.file i) (.slice av nv cv) vs vl := (HF.out.keep (w' := wz) (ρ' := L.ρ) (fun k e => HBZ.out.block k (HD.out.dom k (by omega))) (fun _ _ => rfl)).keep (fun k e => hoz.block k (Nat.lt_of_lt_of_le (HD.out.dom k (by omega)) HBZ.out.size) (by omega)) (fun _ _ => rfl)
  have HD1 := Lib.hid hd1
  have HU1 := Lib.hid hu1
  have HF1 := Lib.hid hf1
  have HBP1 := Lib.hid (HBP.out.upd hu1)
  have HBN1 := Lib.hid (HBN.out.upd hu1)
  have HUU := Lib.hid hu'
  have kp := cell0 HBP1.out.1
  have kn := cell0 HBN1.out.1
  have n1 := hf1.cells.2.1
  have f1 := hf1.cells.2.2.2.2 1
  rw [← HG.out] at n1 f1
  have hcap : (n : Int) ≤ (cv : Int) := by
    rcases hf1.now.1.2 with ⟨hv, h0⟩ | ⟨b, cap, cur, hv, -, -, hc, -⟩
    · have h1 : nv = 0 := by injection hv
      omega
    · have h1 : nv = (d.file i).now.length := HNV.out
      injection hv with e1 e2 e3; omega
  have hsl := fun wx => slice_cut wx av nv cv n (by omega)
  clear hw1 hdz hoz hd1 hu1 hf1 c2z f2z hu' HBZ HD HF
  go_wp2_with fail
  go_still_tail 7, (by kernel_rfl)
  change wpList _ _ _ _ _ w1.drew
  obtain ⟨wy, hwy⟩ : ∃ wy, wy = w1.drew := ⟨_, rfl⟩
  have hby : Below w1.heap.size w1 wy := by rw [hwy]; exact (Below.refl _ _).drew
  have n1z := keepc hby n1
  have f1z : wy.frozen? ⟨g, 1, none⟩ = false := by rw [hwy]; exact f1
  have HBY := Lib.hid hby
  rw [← hwy]
  clear hwy kp kn n1 f1 hsl hby
  go_upto_region 2 with (fail)
  have hlt : ((d.file i).now.take n).length = n := by rw [List.length_take]; have := HNV.out; omega
  have hto := HD1.out.nowTo (i := i) hi HF1.out (w4 := wy) ⟨HBY.out.os, HBY.out.tape, HBY.out.output, HBY.out.size, fun k hk _ => HBY.out.block k hk⟩ (v' := .slice av n cv) (l := (d.file i).now.take n) (by
    have h9 := own_below HF1.out.now.1 HBY.out
    have h8 : wy.ownsRow 0 5 1 (.slice av nv cv) nv ((d.file i).now.map b8) := by rw [HNV.out]; rw [HNV.out] at h9; exact h9
    have h7 := own_take h8 (by omega : n ≤ nv)
    rw [Nat.mul_one, ← List.map_take] at h7
    rw [hlt]; exact h7) (.inl (by cases av <;> rfl))
  rw [← HG.out] at hto
  obtain ⟨w2, hw2⟩ : ∃ w2, w2 = wy.setCell ⟨g, 1, none⟩ (.slice av n cv) := ⟨_, rfl⟩
  rw [← hw2] at hto ⊢
  obtain ⟨ρ2, hd2, hu2, hf2⟩ := hto
  have HU2 := Lib.hid (HU1.out.trans hu2)
  have HBP2 := Lib.hid (HBP1.out.upd hu2)
  have HBN2 := Lib.hid (HBN1.out.upd hu2)
  have hgl2 : g < w2.heap.size := hf2.lt
  clear hw2 hu2 n1z f1z HBY hlt HD1 HF1 HU1 HBP1 HBN1 hcap
  obtain ⟨rs, hrl, hO, hall⟩ := hf2.loose
  obtain ⟨la, lc, hvl, -⟩ := owns_shape hO.1
  obtain ⟨ln, hln⟩ : ∃ ln, ln = (d.file i).loose.length := ⟨_, rfl⟩
  have hO1 : OwnL w2 ρ2 172 2 (10 + 4 * i) vl ln (rs.flatMap runV) := by rw [hln]; exact hO
  have hvl1 : vl = .slice la ln lc := by rw [hln]; exact hvl
  subst hvl1
  have kp := cell0 HBP2.out.1
  have hbpl := (Array.getElem?_eq_some_iff.1 HBP2.out.1).1
  have kn := cell0 HBN2.out.1
  have hbnl := (Array.getElem?_eq_some_iff.1 HBN2.out.1).1
  have l3 := hf2.cells.2.2.2.1
  have HD2 := Lib.hid hd2
  have HF2 := Lib.hid hf2
  have HO1 := Lib.hid hO1
  have HRL := Lib.hid hrl
  have HALL := Lib.hid hall
  have HLN := Lib.hid hln
  have HUE := Lib.hid (show (({ d with used := u' } : Dm).setF i ⟨(d.file i).now.take n, (d.file i).safe, (d.file i).loose⟩).setF i ⟨(d.file i).now.take n, (d.file i).safe, (d.file i).loose ++ [⟨[], n⟩]⟩ = { (d.setF i ⟨(d.file i).now.take n, (d.file i).safe, (d.file i).loose ++ [⟨[], n⟩]⟩) with used := wrap64 (d.used - wrap64 (((d.file i).now.length : Int) - n)) } by rw [HUU.out, Dm.set_set, ← HNV.out, wrap64_small (x := (nv : Int) - n) (by omega) (by omega)]; rfl)
  clear hd2 hf2 hO hO1 hrl hall hvl hln
  go_wp2_with fail
  have hb3 : Below w2.heap.size w2 (w2.drew.alloc (.cells #[(.slice none 0 0), .int .i64 n] 172)) := (show Below w2.heap.size w2 w2.drew from (Below.refl _ _).drew).alloc (Nat.le_refl _) _
  have HD3 := Lib.hid (HD2.out.below hb3)
  have HBP3 := Lib.hid (HBP2.out.below hb3)
  have HF3 := Lib.hid (HF2.out.keep (w' := w2.drew.alloc (.cells #[(.slice none 0 0), .int .i64 n] 172)) (ρ' := ρ2) (fun k e => hb3.block k (HD2.out.dom k (by show ρ2 k ≠ 0; omega))) (fun _ _ => rfl))
  have HU3 := Lib.hid (HU2.out.trans (Upd.of_below (ρ := ρ2) hb3))
  have HO3 := Lib.hid (HO1.out.keep (w' := w2.drew.alloc (.cells #[(.slice none 0 0), .int .i64 n] 172)) (ρ' := ρ2) (fun k e => hb3.block k (HD2.out.dom k (by show ρ2 k ≠ 0; omega))) (fun _ e => e))
  have HA3 := Lib.hid (fun (k : Nat) (p : Value × Int) (u : Run) hp hx => (⟨(HALL.out k p u hp hx).1, (HALL.out k p u hp hx).2.keep (fun k e => hb3.block k (HD2.out.dom k (by show ρ2 k ≠ 0; omega))) (fun _ e => e)⟩ : p.2 = (u.cut : Int) ∧ RdL (w2.drew.alloc (.cells #[(.slice none 0 0), .int .i64 n] 172)) ρ2 p.1 u.laid))
  have HN3 := Lib.hid (fun j u => new_run w2.drew (.slice none 0 0) (n : Int) (k := w2.heap.size) rfl j u)
  have HQ1 := Lib.hid (show (ln + 1) * 32 ≤ 140737488355328 by have := HLN.out; omega)
  have HQ2 := Lib.hid (show ln + 1 ≤ maxLen by have := HLN.out; simp [maxLen]; omega)
  have hgl3 : g < w2.heap.size := hgl2
  clear hb3
  go_region_law (first
    | (refine S_appendN rfl (.tmp 30) (.tmp 33) 115 (by rfl) sl82 0 (.slice la ln lc) ln (rs.flatMap runV) (by rfl) HO3.out.1 ⟨w2.heap.size, 0, none⟩ 1 1 [(.slice none 0 0), .int .i64 n] (by rfl) (by rfl) HN3.out (one_run _ _ rfl) HQ1.out HQ2.out (Nat.zero_le _) (fun a4 c4 w4 ho4 hg4 hat4 => ?_)
       have hlo4 := HD3.out.looseTo (i := i) (by show i < (d.fs.set i _).length; rw [List.length_set]; exact hi) (Dm.file_set hi _) (by have h9 := HF3.out; rw [HG.out] at h9; exact h9) hg4 (u := ⟨[], n⟩) (by have := HLN.out; show ln + 1 = (d.file i).loose.length + 1; omega) (by have h9 := HRL.out; exact h9) HA3.out (RdL.nil _ _) (by show OwnL _ _ 172 2 _ _ (d.file i).loose.length _; rw [← HLN.out]; exact HO3.out) ho4 hat4
       have k4 : w4.heap[g]? = some (boxFile i (.slice av n cv) vs (.slice la ln lc)) := (hg4.block g (by have := hgl3; simp; omega) (fun e => by have h9 := HO3.out.2 g e.symm; have h8 := HF3.out.lg; rw [h9] at h8; omega)).trans HF3.out.box
       have kp4 := cell0 ((hg4.block bp (by have := hbpl; simp; omega) (fun e => by have h9 := HO3.out.2 bp e.symm; have h8 := HBP2.out.2; rw [h9] at h8; omega)).trans (HBP3.out.1))
       have e8' := cell_of_row _ _ 3 _ _ _ k4
       have f8' := frozen_of_row w4 g 3 _ _ k4
       simp only [List.getElem?_toArray, List.getElem?_cons_zero, List.getElem?_cons_succ] at e8'
       rw [← HG.out] at hlo4
       clear k4))
  all_goals
    have HE4 := Lib.hid hlo4
    clear hlo4 ho4 hg4 hat4
    go_wp2_with fail
    go_end0
    obtain ⟨ρ5, hd5, hu5⟩ := HE4.out
    refine ⟨rfl, { L with ρ := ρ5 }, ?_, HU3.out.trans hu5⟩
    rw [← HUE.out]
    exact hd5
end Go.Proofs.YtgkehahklccacaaGreatDoor
namespace Go.Proofs.YtgkehahklccacaaGreatDoor
open Go Go.RowKit
set_option maxRecDepth 100000
set_option maxHeartbeats 1000000
set_option linter.unusedVariables false
set_option linter.unusedSimpArgs false
open Go.Maps Go.WideMaps
abbrev cuB : ByteArray := ⟨#[67, 117, 116]⟩
/-- Cut's own part. -/
def cutW (i n : Nat) (e : Dm) : Dm := { (e.setF i ⟨(e.file i).now.take n, (e.file i).safe, (e.file i).loose ++ [⟨[], n⟩]⟩) with used := wrap64 (e.used - wrap64 (((e.file i).now.length : Int) - (n : Int))) }
theorem cut_any (w : World) (L : Lay) (gd : Nat) (d : Dm) (h : DAt w L gd d) (hp : Pre d) (s : Nm) (hs : s.length ≤ maxLen) (n : Int) (hn0 : -9223372036854775808 ≤ n) (hn1 : n ≤ 9223372036854775807) :
    Calls Tryz.prog 44 #[.pointer (some ⟨gd, 0, none⟩), .string (bs s), .int .i64 n] w fun e w' => ∃ L', DAt w' L' gd (d.cut s n).1 ∧ Upd L.ρ L'.ρ w w' ∧ ∃ v, e = .returned v ∧ ToldV v w' L'.ρ cuB (bs s) (d.cut s n).2 := by
  obtain ⟨w1, hw1⟩ : ∃ w1, w1 = (w.alloc (boxD gd)).alloc (boxI n) := ⟨_, rfl⟩
  have hb1 : Below w.heap.size w w1 := by rw [hw1]; exact ((Below.refl _ _).alloc (Nat.le_refl _) _).alloc (by simp) _
  have g0 : w1.heap[w.heap.size]? = some (boxD gd) := by rw [hw1]; exact heap_alloc2_old w _ _
  have g1 : w1.heap[w.heap.size + 1]? = some (boxI n) := by rw [hw1]; exact heap_alloc2_new w _ _
  have z1 : w.heap.size + 1 < w1.heap.size := by rw [hw1]; simp
  have h0 : ∀ g, w.heap.size ≤ g → L.ρ g = 0 := h.new
  have HD1 := Lib.hid (h.below hb1)
  have HU1 := Lib.hid (Upd.of_below (ρ := L.ρ) hb1)
  have G0 := Lib.hid (show Cap w1 L.ρ w.heap.size (boxD gd) from ⟨g0, h0 _ (Nat.le_refl _)⟩)
  have G1 := Lib.hid (show Cap w1 L.ρ (w.heap.size + 1) (boxI n) from ⟨g1, h0 _ (by omega)⟩)
  have k0 := cell0 g0
  have HP := Lib.hid hp
  have HA := Lib.hid (ask1 (w1.alloc (.cells #[.string (bs s)] 9)) L gd d (HD1.out.below (bel1 _ _)) w1.heap.size 0 1 s hs (cell0 (heap_alloc_new w1 _)))
  clear h hb1 g0 g1 hp h0
  go_enter Tryz.func44, Tryz.ntmps44
  go_upto_region 1 with (fail)
  rw [← hw1]
  clear hw1
  go_wp2_with fail
  with_reducible refine HA.out.mono ?_
  rintro e w3 ⟨rfl, hb3⟩
  have hb13 : Below w1.heap.size w1 w3 := (bel1 w1 _).trans (hb3.mono (by simp))
  have HD3 := Lib.hid (HD1.out.below hb13)
  have HU3 := Lib.hid (HU1.out.trans (Upd.of_below (ρ := L.ρ) hb13))
  have HG0 := Lib.hid (G0.out.below hb13)
  have HG1 := Lib.hid (G1.out.below hb13)
  have hz3 : w1.heap.size ≤ w3.heap.size := hb13.size
  clear k0 hb13 hb3 HA
  obtain ⟨r, why, hask⟩ : ∃ r why, d.ask s = (r, why) := ⟨_, _, rfl⟩
  rw [hask]
  dsimp only
  cases e0 : (why == 0)
  · have hr : r = none := ask_fst hask (by simpa using e0)
    subst hr
    have HE := Lib.hid (show d.cut s n = (d, why) by unfold Dm.cut; rw [hask])
    obtain ⟨w4, hw4⟩ : ∃ w4, w4 = w3.alloc (.cells #[.pointer none] 109) := ⟨_, rfl⟩
    have hb4 : Below w3.heap.size w3 w4 := by rw [hw4]; exact bel1 _ _
    have HD4 := Lib.hid (HD3.out.below hb4)
    have HU4 := Lib.hid (HU3.out.trans (Upd.of_below (ρ := L.ρ) hb4))
    rw [show madeV L.fa none = .pointer none from rfl]
    clear hask hb4
    go_upto_region 2 with (fail)
    rw [← hw4]
    clear hw4
    go_wp2_with fail
    go_quiet (fail)
    have HD5 := Lib.hid (HD4.out.below (below_drewN (Below.refl _ _) nq))
    have HU5 := Lib.hid (HU4.out.trans (Upd.of_below (ρ := L.ρ) (below_drewN (Below.refl _ _) nq)))
    go_wp2_with fail
    with_reducible refine (told2 (w4.drewN nq) L.ρ HD5.out.dom cuB (bs s) why).mono ?_
    rintro e w9 ⟨⟨v, rfl, hv⟩, hb9⟩
    have HV := Lib.hid hv
    have HB9 := Lib.hid hb9
    clear hv hb9
    go_wp2_with fail
    go_ret
    exact ⟨L, by rw [HE.out]; exact HD5.out.below HB9.out, HU5.out.trans (Upd.of_below HB9.out), v, rfl, by rw [HE.out]; exact HV.out⟩
  obtain rfl : why = 0 := by simpa using e0
  clear e0
  obtain ⟨i, rfl, hk, hl⟩ := ask_zero hask
  have hi : i < d.fs.length := HP.out.refs.nm s i hk
  rw [show madeV L.fa (some i) = .pointer (some ⟨L.fa i, 0, none⟩) from rfl]
  obtain ⟨w4, hw4⟩ : ∃ w4, w4 = w3.alloc (boxP (L.fa i)) := ⟨_, rfl⟩
  have hb4 : Below w3.heap.size w3 w4 := by rw [hw4]; exact bel1 _ _
  have hcap : Cap w4 L.ρ w3.heap.size (boxP (L.fa i)) := ⟨by rw [hw4]; exact heap_alloc_new w3 _, HD3.out.new _ (Nat.le_refl _)⟩
  have hd4 := HD3.out.below hb4
  have HCAP := Lib.hid hcap
  have HD4 := Lib.hid hd4
  have HU4 := Lib.hid (HU3.out.trans (Upd.of_below (ρ := L.ρ) hb4))
  have HG04 := Lib.hid (HG0.out.below hb4)
  have HG14 := Lib.hid (HG1.out.below hb4)
  obtain ⟨vn, vs, vl, hf⟩ := hd4.at hi
  obtain ⟨av, cv, hvn, -⟩ := owns_shape hf.now.1
  obtain ⟨nv, hnv⟩ : ∃ nv, nv = (d.file i).now.length := ⟨_, rfl⟩
  rw [← hnv] at hvn
  subst hvn
  have n1 := hf.cells.2.1
  have kp := cell0 hcap.1
  have kn := cell0 HG14.out.1
  have kd := cell0 HG04.out.1
  have HNV := Lib.hid hnv
  have hnl : nv ≤ 2147483647 := by rw [hnv]; exact (HP.out.file i).1
  have HASK := Lib.hid hask
  clear hb4 hcap hd4 hf hnv hask
  go_upto_region 2 with (fail)
  rw [← hw4]
  clear hw4
  have hbq : ∀ nq : Nat, Below w4.heap.size w4 (w4.drewN nq) := fun nq => below_drewN (Below.refl _ _) nq
  by_cases hneg : n < 0
  · have HE := Lib.hid (show d.cut s n = (d, 1) by unfold Dm.cut; rw [HASK.out]; dsimp only; rw [if_pos (.inl hneg)])
    go_wp2_with fail
    go_quiet (fail)
    have HD5 := Lib.hid (HD4.out.below (hbq nq))
    have HU5 := Lib.hid (HU4.out.trans (Upd.of_below (ρ := L.ρ) (hbq nq)))
    go_wp2_with fail
    with_reducible refine (told2 (w4.drewN nq) L.ρ HD5.out.dom cuB (bs s) 1).mono ?_
    rintro e w9 ⟨⟨v, rfl, hv⟩, hb9⟩
    have HV := Lib.hid hv
    have HB9 := Lib.hid hb9
    clear hv hb9
    go_wp2_with fail
    go_ret
    exact ⟨L, by rw [HE.out]; exact HD5.out.below HB9.out, HU5.out.trans (Upd.of_below HB9.out), v, rfl, by rw [HE.out]; exact HV.out⟩
  by_cases hbig : (nv : Int) < n
  · have HE := Lib.hid (show d.cut s n = (d, 1) by unfold Dm.cut; rw [HASK.out]; dsimp only; rw [if_pos (.inr (by rw [← HNV.out]; exact hbig))])
    go_wp2_with fail
    go_quiet (fail)
    have HD5 := Lib.hid (HD4.out.below (hbq nq))
    have HU5 := Lib.hid (HU4.out.trans (Upd.of_below (ρ := L.ρ) (hbq nq)))
    go_wp2_with fail
    with_reducible refine (told2 (w4.drewN nq) L.ρ HD5.out.dom cuB (bs s) 1).mono ?_
    rintro e w9 ⟨⟨v, rfl, hv⟩, hb9⟩
    have HV := Lib.hid hv
    have HB9 := Lib.hid hb9
    clear hv hb9
    go_wp2_with fail
    go_ret
    exact ⟨L, by rw [HE.out]; exact HD5.out.below HB9.out, HU5.out.trans (Upd.of_below HB9.out), v, rfl, by rw [HE.out]; exact HV.out⟩
  obtain ⟨m, rfl⟩ : ∃ m : Nat, n = m := ⟨n.toNat, by omega⟩
  have HE := Lib.hid (show d.cut s m = d.begin (cutW i m) (fun _ e => e) by
    unfold Dm.cut; rw [HASK.out]; dsimp only; rw [if_neg (by rw [← HNV.out]; omega)]; simp only [Int.toNat_natCast]; rfl)
  go_wp2_with fail
  go_quiet (fail)
  have hb5 := hbq nq
  have HD5 := Lib.hid (HD4.out.below hb5)
  have HU5 := Lib.hid (HU4.out.trans (Upd.of_below (ρ := L.ρ) hb5))
  have HCAP5 := Lib.hid (HCAP.out.below hb5)
  have HG05 := Lib.hid (HG04.out.below hb5)
  have HG15 := Lib.hid (HG14.out.below hb5)
  have kd5 := cell0 HG05.out.1
  have HBG := Lib.hid (begin_cut (w4.drewN nq) L gd d HD5.out (by have := HP.out.acts; omega) (.pointer (some ⟨w.heap.size, 0, none⟩)) (.pointer (some ⟨w3.heap.size, 0, none⟩)) (.pointer (some ⟨w.heap.size + 1, 0, none⟩)) (cutW i m) (fun _ e => e)
    (fun w2 hu2 hd2 => cut1_any w2 L gd _ hd2 i hi m (by show m ≤ (d.file i).now.length; rw [← HNV.out]; omega) (HP.out.file i).1 (HP.out.file i).2.2 w.heap.size w3.heap.size (w.heap.size + 1) (HG05.out.upd hu2) (HCAP5.out.upd hu2) (HG15.out.upd hu2))
    (fun w2 n hu2 hd2 => (nothing_any w2 n).mono fun e w' ⟨he, hw⟩ => by subst hw; exact ⟨he, L, hd2, Upd.refl _ _⟩))
  clear kd kp kn n1 hb5 hbq hk hl
  go_wp2_with (go_at_call 94; refine HBG.out.mono ?_; rintro e w6 ⟨rfl, L4, hd6, hu6⟩; have HD6 := Lib.hid hd6; have HU6 := Lib.hid (HU5.out.trans hu6); clear hd6 hu6 kd5)
  obtain ⟨y, hy⟩ : ∃ y, y = (d.begin (cutW i m) (fun _ e => e)).2 := ⟨_, rfl⟩
  rw [← hy]
  have HY := Lib.hid hy
  clear hy
  with_reducible refine (told2 w6 L4.ρ HD6.out.dom cuB (bs s) y).mono ?_
  rintro e w9 ⟨⟨v, rfl, hv⟩, hb9⟩
  have HV := Lib.hid hv
  have HB9 := Lib.hid hb9
  clear hv hb9
  go_wp2_with fail
  go_ret
  exact ⟨L4, by rw [HE.out]; exact HD6.out.below HB9.out, HU6.out.trans (Upd.of_below HB9.out), v, rfl, by rw [HE.out, ← HY.out]; exact HV.out⟩
end Go.Proofs.YtgkehahklccacaaGreatDoor
namespace Go.Proofs.YtgkehahklccacaaGreatDoor
open Go Go.RowKit
set_option maxRecDepth 100000
set_option maxHeartbeats 1000000
set_option linter.unusedVariables false
set_option linter.unusedSimpArgs false
open Go.Maps Go.WideMaps
abbrev lnB : ByteArray := ⟨#[76, 101, 110, 103, 116, 104]⟩
theorem length_any (w : World) (L : Lay) (gd : Nat) (d : Dm) (h : DAt w L gd d) (hp : Pre d) (s : Nm) (hs : s.length ≤ maxLen) :
    Calls Tryz.prog 40 #[.pointer (some ⟨gd, 0, none⟩), .string (bs s)] w fun e w' => Below w.heap.size w w' ∧ ∃ v, e = .returned (.tuple #[.int .i64 (d.length s).1, v]) ∧ ToldV v w' L.ρ lnB (bs s) (d.length s).2 := by
  have HA := Lib.hid (ask1 (w.alloc (.cells #[.string (bs s)] 9)) L gd d (h.below (bel1 _ _)) w.heap.size 0 1 s hs (cell0 (heap_alloc_new w _)))
  have HD0 := Lib.hid h
  have HP := Lib.hid hp
  clear h hp
  go_enter Tryz.func40, Tryz.ntmps40
  go_wp2_with fail
  with_reducible refine HA.out.mono ?_
  rintro e w3 ⟨rfl, hb3⟩
  have hb13 : Below w.heap.size w w3 := (bel1 w _).trans (hb3.mono (by simp))
  have HD3 := Lib.hid (HD0.out.below hb13)
  have HB3 := Lib.hid hb13
  clear hb13 hb3 HA HD0
  obtain ⟨r, why, hask⟩ : ∃ r why, d.ask s = (r, why) := ⟨_, _, rfl⟩
  rw [hask]
  dsimp only
  cases e0 : (why == 0)
  · have hr : r = none := ask_fst hask (by simpa using e0)
    subst hr
    have HE := Lib.hid (show d.length s = (0, why) by unfold Dm.length; rw [hask])
    rw [show madeV L.fa none = .pointer none from rfl]
    clear hask
    go_wp2_with fail
    with_reducible refine (told2 w3 L.ρ HD3.out.dom lnB (bs s) why).mono ?_
    rintro e w9 ⟨⟨v, rfl, hv⟩, hb9⟩
    have HV := Lib.hid hv
    have HB9 := Lib.hid hb9
    clear hv hb9
    go_wp2_with fail
    go_ret2
    exact ⟨HB3.out.trans (HB9.out.mono HB3.out.size), v, by rw [HE.out]; rfl, by rw [HE.out]; exact HV.out⟩
  obtain rfl : why = 0 := by simpa using e0
  clear e0
  obtain ⟨i, rfl, hk, hl⟩ := ask_zero hask
  have hi : i < d.fs.length := HP.out.refs.nm s i hk
  have HE := Lib.hid (show d.length s = (((d.file i).now.length : Int), (0 : Int)) by unfold Dm.length; rw [hask])
  rw [show madeV L.fa (some i) = .pointer (some ⟨L.fa i, 0, none⟩) from rfl]
  obtain ⟨vn, vs, vl, hf⟩ := HD3.out.at hi
  obtain ⟨av, cv, hvn, -⟩ := owns_shape hf.now.1
  subst hvn
  have n1 := hf.cells.2.1
  clear hask hf hk hl
  go_wp2_with fail
  go_ret2
  exact ⟨HB3.out, .nilIface, by rw [HE.out]; rfl, .inl ⟨by rw [HE.out], rfl⟩⟩
abbrev rdB : ByteArray := ⟨#[82, 101, 97, 100]⟩
theorem read_any (w : World) (L : Lay) (gd : Nat) (d : Dm) (h : DAt w L gd d) (hp : Pre d) (s : Nm) (hs : s.length ≤ maxLen) (at_ n : Int) (ha0 : -9223372036854775808 ≤ at_) (ha1 : at_ ≤ 9223372036854775807) (hn0 : -9223372036854775808 ≤ n) (hn1 : n ≤ 9223372036854775807) :
    Calls Tryz.prog 69 #[.pointer (some ⟨gd, 0, none⟩), .string (bs s), .int .i64 at_, .int .i64 n] w fun e w' => Below w.heap.size w w' ∧ ∃ a m c v, e = .returned (.tuple #[.slice a m c, v]) ∧ w'.ownsRow w.heap.size 5 1 (.slice a m c) m ((d.read s at_ n).1.map b8) ∧ m = (d.read s at_ n).1.length ∧ ToldV v w' L.ρ rdB (bs s) (d.read s at_ n).2 := by
  have HA := Lib.hid (ask1 (w.alloc (.cells #[.string (bs s)] 9)) L gd d (h.below (bel1 _ _)) w.heap.size 0 1 s hs (cell0 (heap_alloc_new w _)))
  have HD0 := Lib.hid h
  have HP := Lib.hid hp
  clear h hp
  go_enter Tryz.func69, Tryz.ntmps69
  go_wp2_with fail
  with_reducible refine HA.out.mono ?_
  rintro e w3 ⟨rfl, hb3⟩
  have hb13 : Below w.heap.size w w3 := (bel1 w _).trans (hb3.mono (by simp))
  have HD3 := Lib.hid (HD0.out.below hb13)
  have HB3 := Lib.hid hb13
  clear hb13 hb3 HA HD0
  obtain ⟨r, why, hask⟩ : ∃ r why, d.ask s = (r, why) := ⟨_, _, rfl⟩
  rw [hask]
  dsimp only
  cases e0 : (why == 0)
  · have hr : r = none := ask_fst hask (by simpa using e0)
    subst hr
    have HE := Lib.hid (show d.read s at_ n = ([], why) by unfold Dm.read; rw [hask])
    rw [show madeV L.fa none = .pointer none from rfl]
    clear hask
    go_wp2_with fail
    with_reducible refine (told2 w3 L.ρ HD3.out.dom rdB (bs s) why).mono ?_
    rintro e w9 ⟨⟨v, rfl, hv⟩, hb9⟩
    have HV := Lib.hid hv
    have HB9 := Lib.hid hb9
    clear hv hb9
    go_wp2_with fail
    go_ret2
    exact ⟨HB3.out.trans (HB9.out.mono HB3.out.size), none, 0, 0, v, rfl, by rw [HE.out]; exact ⟨by simp, .inl ⟨rfl, rfl⟩⟩, by rw [HE.out]; rfl, by rw [HE.out]; exact HV.out⟩
  obtain rfl : why = 0 := by simpa using e0
  clear e0
  obtain ⟨i, rfl, hk, hl⟩ := ask_zero hask
  have hi : i < d.fs.length := HP.out.refs.nm s i hk
  rw [show madeV L.fa (some i) = .pointer (some ⟨L.fa i, 0, none⟩) from rfl]
  obtain ⟨vn, vs, vl, hf⟩ := HD3.out.at hi
  obtain ⟨av, cv, hvn, -⟩ := owns_shape hf.now.1
  obtain ⟨nv, hnv⟩ : ∃ nv, nv = (d.file i).now.length := ⟨_, rfl⟩
  rw [← hnv] at hvn
  subst hvn
  have n1 := hf.cells.2.1
  have hnl : nv ≤ 2147483647 := by rw [hnv]; exact (HP.out.file i).1
  have HR8 := Lib.hid (show R8 w3 av nv cv (d.file i).now by have h9 := hf.now.1; rw [← hnv] at h9; exact R8.of_owns h9 (by omega))
  have HNV := Lib.hid hnv
  clear hf hk hl hnv
  by_cases q1 : at_ < 0
  · have HE := Lib.hid (show d.read s at_ n = ([], 1) by unfold Dm.read; rw [hask]; dsimp only; rw [if_pos (.inl q1)])
    clear hask
    go_wp2_with fail
    with_reducible refine (told2 w3 L.ρ HD3.out.dom rdB (bs s) 1).mono ?_
    rintro e w9 ⟨⟨v, rfl, hv⟩, hb9⟩
    have HV := Lib.hid hv
    have HB9 := Lib.hid hb9
    clear hv hb9
    go_wp2_with fail
    go_ret2
    exact ⟨HB3.out.trans (HB9.out.mono HB3.out.size), none, 0, 0, v, rfl, by rw [HE.out]; exact ⟨by simp, .inl ⟨rfl, rfl⟩⟩, by rw [HE.out]; rfl, by rw [HE.out]; exact HV.out⟩
  by_cases q2 : n < 0
  · have HE := Lib.hid (show d.read s at_ n = ([], 1) by unfold Dm.read; rw [hask]; dsimp only; rw [if_pos (.inr (.inl q2))])
    clear hask
    go_wp2_with fail
    with_reducible refine (told2 w3 L.ρ HD3.out.dom rdB (bs s) 1).mono ?_
    rintro e w9 ⟨⟨v, rfl, hv⟩, hb9⟩
    have HV := Lib.hid hv
    have HB9 := Lib.hid hb9
    clear hv hb9
    go_wp2_with fail
    go_ret2
    exact ⟨HB3.out.trans (HB9.out.mono HB3.out.size), none, 0, 0, v, rfl, by rw [HE.out]; exact ⟨by simp, .inl ⟨rfl, rfl⟩⟩, by rw [HE.out]; rfl, by rw [HE.out]; exact HV.out⟩
  by_cases q3 : (nv : Int) < at_
  · have HE := Lib.hid (show d.read s at_ n = ([], 1) by unfold Dm.read; rw [hask]; dsimp only; rw [if_pos (.inr (.inr (.inl (by rw [← HNV.out]; exact q3))))])
    clear hask
    go_wp2_with fail
    with_reducible refine (told2 w3 L.ρ HD3.out.dom rdB (bs s) 1).mono ?_
    rintro e w9 ⟨⟨v, rfl, hv⟩, hb9⟩
    have HV := Lib.hid hv
    have HB9 := Lib.hid hb9
    clear hv hb9
    go_wp2_with fail
    go_ret2
    exact ⟨HB3.out.trans (HB9.out.mono HB3.out.size), none, 0, 0, v, rfl, by rw [HE.out]; exact ⟨by simp, .inl ⟨rfl, rfl⟩⟩, by rw [HE.out]; rfl, by rw [HE.out]; exact HV.out⟩
  by_cases q4 : (nv : Int) - at_ < n
  · have HE := Lib.hid (show d.read s at_ n = ([], 1) by unfold Dm.read; rw [hask]; dsimp only; rw [if_pos (.inr (.inr (.inr (by rw [← HNV.out, wrap64_small (by omega) (by omega)]; exact q4))))])
    clear hask
    go_wp2_with fail
    with_reducible refine (told2 w3 L.ρ HD3.out.dom rdB (bs s) 1).mono ?_
    rintro e w9 ⟨⟨v, rfl, hv⟩, hb9⟩
    have HV := Lib.hid hv
    have HB9 := Lib.hid hb9
    clear hv hb9
    go_wp2_with fail
    go_ret2
    exact ⟨HB3.out.trans (HB9.out.mono HB3.out.size), none, 0, 0, v, rfl, by rw [HE.out]; exact ⟨by simp, .inl ⟨rfl, rfl⟩⟩, by rw [HE.out]; rfl, by rw [HE.out]; exact HV.out⟩
  obtain ⟨p, rfl⟩ : ∃ p : Nat, at_ = p := ⟨at_.toNat, by omega⟩
  obtain ⟨m, rfl⟩ : ∃ m : Nat, n = m := ⟨n.toNat, by omega⟩
  have HE := Lib.hid (show d.read s p m = (((d.file i).now.drop p).take m, 0) by
    unfold Dm.read; rw [hask]; dsimp only; rw [if_neg (by rw [← HNV.out, wrap64_small (by omega) (by omega)]; omega)]; simp only [Int.toNat_natCast])
  have hsl := slice_mid sl50 w3 av nv cv p (p + m) (p : Int) ((p : Int) + (m : Int)) rfl (by push_cast; rfl) (by omega) (by have := HR8.out.2.1; omega)
  rw [show p + m - p = m by omega] at hsl
  have hr9 := HR8.out.mid p (p + m) (by omega) (by omega)
  rw [show p + m - p = m by omega] at hr9
  obtain ⟨da, hda⟩ : ∃ da, da = dropA av p cv := ⟨_, rfl⟩
  rw [← hda] at hsl hr9
  have HCL := Lib.hid (bclone_any w3 da m (cv - p) _ hr9 (by omega))
  have HLEN := Lib.hid hr9.1
  clear hask hda hr9
  go_wp2_with (go_at_call 54; refine HCL.out.mono ?_; rintro e w4 ⟨⟨a4, c4, rfl, hv⟩, hb⟩; have HV4 := Lib.hid hv; have HB4 := Lib.hid hb; clear hv hb)
  go_ret2
  refine ⟨HB3.out.trans (HB4.out.mono HB3.out.size), a4, m, c4, .nilIface, rfl, ?_, ?_, .inl ⟨by rw [HE.out], rfl⟩⟩
  · rw [HE.out]; exact owns_mono HV4.out HB3.out.size
  · rw [HE.out]; exact HLEN.out.symm
end Go.Proofs.YtgkehahklccacaaGreatDoor
