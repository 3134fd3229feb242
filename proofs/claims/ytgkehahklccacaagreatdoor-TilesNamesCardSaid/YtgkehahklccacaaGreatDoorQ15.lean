import Derived.Test.YtgkehahklccacaaGreatDoorQ14
namespace Go.Proofs.YtgkehahklccacaaGreatDoor
open Go Go.RowKit
set_option maxRecDepth 100000
set_option maxHeartbeats 1000000
set_option linter.unusedVariables false
set_option linter.unusedSimpArgs false
open Go.Maps Go.WideMaps
/-- Bytes in memory that is not the disk's. -/
def RdO (w : World) (ρ : Nat → Nat) (a : Option Addr) (n c : Nat) (l : List UInt8) : Prop := R8 w a n c l ∧ ∀ b off, a = some ⟨b, off, none⟩ → 0 < n → ρ b = 0
theorem R8.lt {w : World} {a : Option Addr} {n c : Nat} {l : List UInt8} (h : R8 w a n c l) : ∀ b off, a = some ⟨b, off, none⟩ → 0 < n → b < w.heap.size := fun b off e h0 => by
  obtain ⟨b', off', e', hc⟩ := h.2.2.2 0 (by have := h.1; omega)
  have := World.block_lt_of_cell? w _ hc
  rw [e] at e'; injection e' with e'; injection e' with e1; subst e1; exact this
theorem RdO.upd {w w' : World} {ρ ρ' : Nat → Nat} {a : Option Addr} {n c : Nat} {l : List UInt8} (h : RdO w ρ a n c l) (hu : Upd ρ ρ' w w') : RdO w' ρ' a n c l :=
  ⟨h.1.same (fun b off e h0 => hu.block b (h.1.lt b off e h0) (h.2 b off e h0)), fun b off e h0 => hu.ext.old b (h.1.lt b off e h0) (h.2 b off e h0)⟩
abbrev boxS (a : Option Addr) (n c : Nat) : Obj := .cells #[.slice a n c] 53
/-- Append's own part. -/
theorem append1_any (w : World) (L : Lay) (gd : Nat) (d : Dm) (h : DAt w L gd d) (i : Nat) (hi : i < d.fs.length) (a : Option Addr) (m c : Nat) (fit : List UInt8) (hfit : RdO w L.ρ a m c fit) (hml : (d.file i).now.length + m ≤ 2147483647) (hlo : (d.file i).loose.length < 1099511627776) (n : Int)
    (bs_ bp bd : Nat) (hbs : Cap w L.ρ bs_ (boxS a m c)) (hbp : Cap w L.ρ bp (boxP (L.fa i))) (hbd : Cap w L.ρ bd (boxD gd)) :
    Calls Tryz.prog 164 #[.int .i64 n, .pointer (some ⟨bs_, 0, none⟩), .pointer (some ⟨bp, 0, none⟩), .pointer (some ⟨bd, 0, none⟩)] w fun e w' => e = .returned (.tuple #[]) ∧ ∃ L', DAt w' L' gd (partOf i fit n d) ∧ Upd L.ρ L'.ρ w w' := by
  obtain ⟨k, hk, hkm⟩ : ∃ k : Nat, min (max n 0) (m : Int) = (k : Int) ∧ k ≤ m := ⟨(min (max n 0) (m : Int)).toNat, by omega, by omega⟩
  have hq : fit.take n.toNat = fit.take k := by
    have hl := hfit.1.1
    by_cases hc : n.toNat ≤ m
    · rw [show k = n.toNat by omega]
    · rw [List.take_of_length_le (by omega), List.take_of_length_le (by omega)]
  have s0 := cell0 hbs.1
  have HQ := Lib.hid hq
  have hsl := slice_cut w a m c k (by have := hfit.1.2.1; omega)
  have hR := hfit.1.take k hkm
  clear hq
  by_cases hk0 : k = 0
  · have HE := Lib.hid (show partOf i fit n d = d by unfold partOf; rw [HQ.out, hk0]; simp)
    have hlt : ¬ (0 : Int) < (k : Int) := by omega
    have HD := Lib.hid h
    clear h hfit hbs hbp hbd hk0 hR
    go_enter Tryz.func164, Tryz.ntmps164
    go_wp2_with fail
    go_end0
    exact ⟨rfl, L, by rw [HE.out]; exact HD.out, Upd.refl _ _⟩
  have hlt : (0 : Int) < (k : Int) := by omega
  obtain ⟨vn, vs, vl, hf⟩ := h.at hi
  obtain ⟨av, cv, hvn, -⟩ := owns_shape hf.now.1
  obtain ⟨nv, hnv⟩ : ∃ nv, nv = (d.file i).now.length := ⟨_, rfl⟩
  rw [← hnv] at hvn hml
  subst hvn
  obtain ⟨g, hg⟩ : ∃ g, g = L.fa i := ⟨_, rfl⟩
  rw [← hg] at hbp
  have hgl := hf.lt
  rw [← hg] at hgl
  have hbpl := (Array.getElem?_eq_some_iff.1 hbp.1).1
  have kp := cell0 hbp.1
  have n1 := hf.cells.2.1
  rw [← hg] at n1
  have HD := Lib.hid h
  have HF := Lib.hid hf
  have HBP := Lib.hid hbp
  have HBD := Lib.hid hbd
  have HFIT := Lib.hid (show RdO w L.ρ a k c (fit.take k) from ⟨hR, fun b off e h0 => hfit.2 b off e (by omega)⟩)
  have HNV := Lib.hid hnv
  have HG := Lib.hid hg
  have HR := Lib.hid hR.drew
  have hO8 : w.ownsRow 0 5 1 (.slice av nv cv) nv ((d.file i).now.map b8) := by have h9 := hf.now.1; rw [← hnv] at h9; exact h9
  have HO8 := Lib.hid (show w.drew.ownsRow 0 5 1 (.slice av nv cv) nv ((d.file i).now.map b8) from hO8)
  have HK0 := Lib.hid hk0
  have hne : bp ≠ g := fun e => by have h1 := HBP.out.2; have h2 := HF.out.lg; rw [← HG.out, ← e, h1] at h2; omega
  have HQ1 := Lib.hid (show (nv + k) * 1 ≤ 140737488355328 by omega)
  have HQ2 := Lib.hid (show nv + k ≤ maxLen by simp [maxLen]; omega)
  clear h hf hbs hbp hbd hfit hR hnv hg hO8 hk0
  go_enter Tryz.func164, Tryz.ntmps164
  go_upto_region 2 with (fail)
  clear hsl s0 hk
  go_wp2_with fail
  refine wp_region_held_drew (S := fun w' => w'.cell? ⟨bp, 0, none⟩ = some (.pointer (some ⟨g, 0, none⟩))) (by kernel_rfl) kp (fun hHeld => ?_)
  refine wpAnyH_take (i := 0) (oi := _) (v := ?_) rfl (by kernel_rfl) (by kernel_rfl) (by kernel_rfl) (fun _ _ _ h => h) (Or.inl ⟨by rfl, ?_⟩) (by assumption) ?_
  rotate_left
  · intro w hSw
    (try dsimp only at hSw)
    go_simp
    all_goals (first | done | with_reducible rfl)
  (try simp only [Act.put, List.setIfInBounds_toArray, List.set_cons_zero, List.set_cons_succ, List.getElem_toArray, List.getElem_cons_succ, List.getElem_cons_zero])
  refine wpAnyH_take (i := 1) (oi := _) (v := ?_) rfl (by kernel_rfl) (by kernel_rfl) (by kernel_rfl) (fun _ _ _ h => h) (Or.inl ⟨by rfl, ?_⟩) (by assumption) ?_
  rotate_left
  · intro w hSw
    (try dsimp only at hSw)
    go_simp
    all_goals (first | done | with_reducible rfl)
  (try simp only [Act.put, List.setIfInBounds_toArray, List.set_cons_zero, List.set_cons_succ, List.getElem_toArray, List.getElem_cons_succ, List.getElem_cons_zero])
  refine wpAnyH_take (i := 2) (oi := _) (v := ?_) rfl (by kernel_rfl) (by kernel_rfl) (by kernel_rfl) (fun _ _ _ h => h) (Or.inl ⟨by rfl, ?_⟩) (by assumption) ?_
  rotate_left
  · intro w hSw
    (try dsimp only at hSw)
    go_simp
    all_goals (first | done | with_reducible rfl)
  (try simp only [Act.put, List.setIfInBounds_toArray, List.set_cons_zero, List.set_cons_succ, List.getElem_toArray, List.getElem_cons_succ, List.getElem_cons_zero])
  refine wpAnyH_take (i := 3) (oi := _) (v := ?_) rfl (by kernel_rfl) (by kernel_rfl) (by kernel_rfl) (fun _ _ _ h => h) (Or.inl ⟨by rfl, ?_⟩) (by assumption) ?_
  rotate_left
  · intro w hSw
    (try dsimp only at hSw)
    go_simp
    all_goals (first | done | with_reducible rfl)
  (try simp only [Act.put, List.setIfInBounds_toArray, List.set_cons_zero, List.set_cons_succ, List.getElem_toArray, List.getElem_cons_succ, List.getElem_cons_zero])
  refine wpAnyH_take (i := 5) (oi := _) (v := ?_) rfl (by kernel_rfl) (by kernel_rfl) (by kernel_rfl) (fun _ _ _ h => h) (Or.inl ⟨by rfl, ?_⟩) (by assumption) ?_
  rotate_left
  · intro w hSw
    (try dsimp only at hSw)
    go_simp
    all_goals (first | done | with_reducible rfl)
  (try simp only [Act.put, List.setIfInBounds_toArray, List.set_cons_zero, List.set_cons_succ, List.getElem_toArray, List.getElem_cons_succ, List.getElem_cons_zero])
  refine wpAnyH_ready (rs := [4]) (by kernel_rfl) (by simp) ?_
  refine AllReadyH.cons (o := _) rfl (fun K hK => ?_) AllReadyH.nil
  go_simp
  refine hK.out _ _ kp (fun hHeld => ?_)
  clear hK K
  (try simp only [Act.put, List.setIfInBounds_toArray, List.set_cons_zero, List.set_cons_succ, List.getElem_toArray, List.getElem_cons_succ, List.getElem_cons_zero])
  refine wpAnyH_ready (rs := [6]) (by kernel_rfl) (by simp) ?_
  refine AllReadyH.cons (o := _) rfl (fun K hK => ?_) AllReadyH.nil
  refine S_append8 rfl (.tmp 20) (.tmp 21) 53 (by rfl) sl50 0 (.slice av nv cv) nv _ (by rfl) HO8.out a k c (fit.take k) (by rfl) HR.out HQ1.out HQ2.out (Nat.zero_le _) (fun a2 c2 w2 ho2 hg2 hat2 => ?_)
  have hto := (HD.out.below (show Below w.heap.size w w.drew from (Below.refl _ _).drew)).nowTo hi (HF.out.keep (w' := w.drew) (ρ' := L.ρ) (fun _ _ => rfl) (fun _ _ => rfl)) hg2 (l := (d.file i).now ++ fit.take k) (by rw [List.length_append, ← HNV.out, HR.out.1, List.map_append]; exact ho2) hat2
  have hx2 : w2.heap[g]? = some (boxFile i (.slice av nv cv) vs vl) := (hg2.block g hgl (fun e => by have h9 := HF.out.now.2 g e.symm; have h8 := HF.out.lg; rw [← HG.out, h9] at h8; omega)).trans (by rw [HG.out]; exact HF.out.box)
  have kp2 := cell0 ((hg2.block bp hbpl (fun e => by have h9 := HF.out.now.2 bp e.symm; have h8 := HBP.out.2; rw [h9] at h8; omega)).trans (HBP.out.1))
  have s2 := cell_of_row _ _ 1 _ _ _ hx2
  have f2 := frozen_of_row w2 g 1 _ _ hx2
  simp only [List.getElem?_toArray, List.getElem?_cons_zero, List.getElem?_cons_succ] at s2
  rw [← HG.out] at hto
  clear hx2
  refine hK.out _ _ kp2 (fun hHeld => ?_)
  clear hK K
  (try simp only [Act.put, List.setIfInBounds_toArray, List.set_cons_zero, List.set_cons_succ, List.getElem_toArray, List.getElem_cons_succ, List.getElem_cons_zero])
  refine wpAnyH_take (i := 7) (oi := _) (v := ?_) rfl (by kernel_rfl) (by kernel_rfl) (by kernel_rfl) (fun _ _ _ h => h) (Or.inl ⟨by rfl, ?_⟩) (by assumption) ?_
  rotate_left
  · intro w hSw
    (try dsimp only at hSw)
    go_simp
    all_goals (first | done | with_reducible rfl)
  (try simp only [Act.put, List.setIfInBounds_toArray, List.set_cons_zero, List.set_cons_succ, List.getElem_toArray, List.getElem_cons_succ, List.getElem_cons_zero])
  refine wpAnyH_take (i := 8) (oi := _) (v := ?_) rfl (by kernel_rfl) (by kernel_rfl) (by kernel_rfl) (fun _ _ _ h => h) (Or.inl ⟨by rfl, ?_⟩) (by assumption) ?_
  rotate_left
  · intro w hSw
    (try dsimp only at hSw)
    go_simp
    all_goals (first | done | with_reducible rfl)
  (try simp only [Act.put, List.setIfInBounds_toArray, List.set_cons_zero, List.set_cons_succ, List.getElem_toArray, List.getElem_cons_succ, List.getElem_cons_zero])
  refine wpAnyH_ready (rs := [9]) (by kernel_rfl) (by simp) ?_
  refine AllReadyH.cons (o := _) rfl (fun K hK => ?_) AllReadyH.nil
  go_simp
  refine hK.out _ _ (keeps kp2 hne) (fun hHeld => ?_)
  clear hK K
  (try simp only [Act.put, List.setIfInBounds_toArray, List.set_cons_zero, List.set_cons_succ, List.getElem_toArray, List.getElem_cons_succ, List.getElem_cons_zero])
  refine wpAnyH_done (by kernel_rfl) ?_ _
  obtain ⟨ρ2, hd2, hu2, hf2⟩ := hto
  obtain ⟨w3, hw3⟩ : ∃ w3, w3 = w2.setCell ⟨g, 1, none⟩ (.slice a2 (nv + k) c2) := ⟨_, rfl⟩
  rw [← hw3] at hd2 hu2 hf2 ⊢
  have HU2 := Lib.hid ((Upd.of_below (ρ := L.ρ) (show Below w.heap.size w w.drew from (Below.refl _ _).drew)).trans hu2)
  have HFIT2 := Lib.hid (HFIT.out.upd HU2.out)
  have HBP2 := Lib.hid (HBP.out.upd HU2.out)
  have HBD2 := Lib.hid (HBD.out.upd HU2.out)
  have hgl3 : g < w3.heap.size := hf2.lt
  obtain ⟨rs, hrl, hO, hall⟩ := hf2.loose
  obtain ⟨la, lc, hvl, -⟩ := owns_shape hO.1
  obtain ⟨ln, hln⟩ : ∃ ln, ln = (d.file i).loose.length := ⟨_, rfl⟩
  have hvl1 : vl = .slice la ln lc := by rw [hln]; exact hvl
  have HO1 := Lib.hid (show OwnL w3 ρ2 172 2 (10 + 4 * i) vl ln (rs.flatMap runV) by rw [hln]; exact hO)
  subst hvl1
  have kp3 := cell0 HBP2.out.1
  have l3 := hf2.cells.2.2.2.1
  have HD2 := Lib.hid hd2
  have HF2 := Lib.hid hf2
  have HRL := Lib.hid hrl
  have HALL := Lib.hid hall
  have HLN := Lib.hid hln
  have HCL := Lib.hid (bclone_any w3.drew a k c (fit.take k) HFIT2.out.1.drew (by omega))
  have HQL := Lib.hid HFIT.out.1.1
  have HQ3 := Lib.hid (show (ln + 1) * 32 ≤ 140737488355328 by omega)
  have HQ4 := Lib.hid (show ln + 1 ≤ maxLen by simp [maxLen]; omega)
  clear hw3 hd2 hu2 hf2 hO hvl hrl hall hln kp2 s2 f2 hg2 ho2 hat2 kp n1 HR HO8 HQ1 HQ2 hgl hbpl hHeld
  go_wp2_with fail
  refine wp_region_held_drew (S := fun w' => w'.cell? ⟨bp, 0, none⟩ = some (.pointer (some ⟨g, 0, none⟩))) (by kernel_rfl) kp3 (fun hHeld => ?_)
  refine wpAnyH_take (i := 0) (oi := _) (v := ?_) rfl (by kernel_rfl) (by kernel_rfl) (by kernel_rfl) (fun _ _ _ h => h) (Or.inl ⟨by rfl, ?_⟩) (by assumption) ?_
  rotate_left
  · intro w hSw
    (try dsimp only at hSw)
    go_simp
    all_goals (first | done | with_reducible rfl)
  (try simp only [Act.put, List.setIfInBounds_toArray, List.set_cons_zero, List.set_cons_succ, List.getElem_toArray, List.getElem_cons_succ, List.getElem_cons_zero])
  refine wpAnyH_take (i := 1) (oi := _) (v := ?_) rfl (by kernel_rfl) (by kernel_rfl) (by kernel_rfl) (fun _ _ _ h => h) (Or.inl ⟨by rfl, ?_⟩) (by assumption) ?_
  rotate_left
  · intro w hSw
    (try dsimp only at hSw)
    go_simp
    all_goals (first | done | with_reducible rfl)
  (try simp only [Act.put, List.setIfInBounds_toArray, List.set_cons_zero, List.set_cons_succ, List.getElem_toArray, List.getElem_cons_succ, List.getElem_cons_zero])
  refine wpAnyH_take (i := 2) (oi := _) (v := ?_) rfl (by kernel_rfl) (by kernel_rfl) (by kernel_rfl) (fun _ _ _ h => h) (Or.inl ⟨by rfl, ?_⟩) (by assumption) ?_
  rotate_left
  · intro w hSw
    (try dsimp only at hSw)
    go_simp
    all_goals (first | done | with_reducible rfl)
  (try simp only [Act.put, List.setIfInBounds_toArray, List.set_cons_zero, List.set_cons_succ, List.getElem_toArray, List.getElem_cons_succ, List.getElem_cons_zero])
  refine wpAnyH_take (i := 3) (oi := _) (v := ?_) rfl (by kernel_rfl) (by kernel_rfl) (by kernel_rfl) (fun _ _ _ h => h) (Or.inl ⟨by rfl, ?_⟩) (by assumption) ?_
  rotate_left
  · intro w hSw
    (try dsimp only at hSw)
    go_simp
    all_goals (first | done | with_reducible rfl)
  (try simp only [Act.put, List.setIfInBounds_toArray, List.set_cons_zero, List.set_cons_succ, List.getElem_toArray, List.getElem_cons_succ, List.getElem_cons_zero])
  refine wpAnyH_take (i := 5) (oi := _) (v := ?_) rfl (by kernel_rfl) (by kernel_rfl) (by kernel_rfl) (fun _ _ _ h => h) (Or.inl ⟨by rfl, ?_⟩) (by assumption) ?_
  rotate_left
  · intro w hSw
    (try dsimp only at hSw)
    go_simp
    all_goals (first | done | with_reducible rfl)
  (try simp only [Act.put, List.setIfInBounds_toArray, List.set_cons_zero, List.set_cons_succ, List.getElem_toArray, List.getElem_cons_succ, List.getElem_cons_zero])
  refine wpAnyH_ready (rs := [4, 6]) (by kernel_rfl) (by simp) ?_
  refine AllReadyH.cons (o := _) rfl (fun K hK => ?_) (AllReadyH.cons (o := _) rfl (fun K hK => ?_) AllReadyH.nil)
  · go_simp
    refine hK.out _ _ kp3 (fun hHeld => ?_)
    clear hK K
    (try simp only [Act.put, List.setIfInBounds_toArray, List.set_cons_zero, List.set_cons_succ, List.getElem_toArray, List.getElem_cons_succ, List.getElem_cons_zero])
    refine wpAnyH_ready (rs := [6]) (by kernel_rfl) (by simp) ?_
    refine AllReadyH.cons (o := _) rfl (fun K hK => ?_) AllReadyH.nil
    go_simp
    refine HCL.out.mono ?_
    rintro e w4 ⟨⟨a4, c4, rfl, hv⟩, hb⟩
    have hb4 : Below w3.heap.size w3 w4 := ((Below.refl w3.heap.size w3).drew).trans hb
    have kp4 := keepc hb4 kp3
    have l34 := keepc hb4 l3
    have HB4 := Lib.hid hb4
    have HV4 := Lib.hid hv
    clear hv hb hb4
    refine hK.out _ _ kp4 (fun hHeld => ?_)
    clear hK K
    (try simp only [Act.put, List.setIfInBounds_toArray, List.set_cons_zero, List.set_cons_succ, List.getElem_toArray, List.getElem_cons_succ, List.getElem_cons_zero])
    refine wpAnyH_take (i := 7) (oi := _) (v := ?_) rfl (by kernel_rfl) (by kernel_rfl) (by kernel_rfl) (fun _ _ _ h => h) (Or.inl ⟨by rfl, ?_⟩) (by assumption) ?_
    rotate_left
    · intro w hSw
      (try dsimp only at hSw)
      go_simp
      all_goals (first | done | with_reducible rfl)
    (try simp only [Act.put, List.setIfInBounds_toArray, List.set_cons_zero, List.set_cons_succ, List.getElem_toArray, List.getElem_cons_succ, List.getElem_cons_zero])
    refine wpAnyH_ready (rs := [8]) (by kernel_rfl) (by simp) ?_
    refine AllReadyH.cons (o := _) rfl (fun K hK => ?_) AllReadyH.nil
    go_simp
    refine hK.out _ _ (keepc (bel1 w4 _) kp4) (fun hHeld => ?_)
    clear hK K
    (try simp only [Act.put, List.setIfInBounds_toArray, List.set_cons_zero, List.set_cons_succ, List.getElem_toArray, List.getElem_cons_succ, List.getElem_cons_zero])
    refine wpAnyH_ready (rs := [9]) (by kernel_rfl) (by simp) ?_
    have hb5 : Below w3.heap.size w3 (w4.alloc (.cells #[.slice a4 k c4, .int .i64 0] 172)) := HB4.out.trans ((bel1 w4 _).mono HB4.out.size)
    obtain ⟨W, hW⟩ : ∃ W, W = w4.alloc (.cells #[.slice a4 k c4, .int .i64 0] 172) := ⟨_, rfl⟩
    have hvW : W.ownsRow w3.heap.size 5 1 (.slice a4 k c4) k ((fit.take k).map b8) := by rw [hW]; exact own_below HV4.out (bel1 w4 _)
    have HN3 := Lib.hid (fun j u hj => show W.cell? ((⟨w4.heap.size, 0, none⟩ : Addr).add j) = some u by rw [hW]; exact new_run w4 (.slice a4 k c4) (0 : Int) (k := w4.heap.size) rfl j u hj)
    have kpW : W.cell? ⟨bp, 0, none⟩ = some (.pointer (some ⟨g, 0, none⟩)) := by rw [hW]; exact keepc (bel1 w4 _) kp4
    rw [← hW] at hb5
    rw [← hW]
    obtain ⟨ρ3, he3, hd3, hl3⟩ := put_new (w := w3) (w' := W) HD2.out.dom hvW hb5.size 6
    have he3 : Ext w3.heap.size ρ2 ρ3 := he3
    have HD3 := Lib.hid ((HD2.out.below hb5).relab (ρ' := ρ3) (fun k h => he3.same k h) hd3)
    have HU3 := Lib.hid (HU2.out.trans (show Upd ρ2 ρ3 w3 W from ⟨hb5.os, hb5.tape, hb5.output, hb5.size, fun k hk _ => hb5.block k hk, he3⟩))
    have HF3 := Lib.hid (HF2.out.keep (w' := W) (ρ' := ρ3) (fun k e => hb5.block k (HD2.out.dom k (by show ρ2 k ≠ 0; omega))) (fun k h => he3.same k h))
    have HO3 := Lib.hid (HO1.out.keep (w' := W) (ρ' := ρ3) (fun k e => hb5.block k (HD2.out.dom k (by show ρ2 k ≠ 0; omega))) (fun k e => (he3.same k (by omega)).trans e))
    have HA3 := Lib.hid (fun (k : Nat) (p : Value × Int) (u : Run) hp hx => (⟨(HALL.out k p u hp hx).1, (HALL.out k p u hp hx).2.keep (fun k e => hb5.block k (HD2.out.dom k (by show ρ2 k ≠ 0; omega))) (fun k e => (he3.same k (by omega)).trans e)⟩ : p.2 = (u.cut : Int) ∧ RdL W ρ3 p.1 u.laid))
    have HLV := Lib.hid (show RdL W ρ3 (.slice a4 k c4) (fit.take k) from ⟨a4, c4, by rw [HQL.out], by rw [HQL.out]; exact R8.of_owns hvW (by omega), fun b off e h0 => hl3 b (by rw [e]; rfl)⟩)
    have HBP3 := Lib.hid (show Cap W ρ3 bp (boxP g) from ⟨(hb5.block bp (Array.getElem?_eq_some_iff.1 HBP2.out.1).1).trans HBP2.out.1, he3.old bp (Array.getElem?_eq_some_iff.1 HBP2.out.1).1 HBP2.out.2⟩)
    have hbpl : bp < W.heap.size := (Array.getElem?_eq_some_iff.1 HBP3.out.1).1
    have hglW : g < W.heap.size := HF3.out.lt
    clear hb5 hvW he3 hd3 hl3 hW
    refine AllReadyH.cons (o := _) rfl (fun K hK => ?_) AllReadyH.nil
    refine S_appendN rfl (.tmp 29) (.tmp 33) 115 (by rfl) sl82 0 (.slice la ln lc) ln (rs.flatMap runV) (by rfl) HO3.out.1 ⟨w4.heap.size, 0, none⟩ 1 1 [.slice a4 k c4, .int .i64 0] (by rfl) (by rfl) HN3.out (one_run _ _ rfl) HQ3.out HQ4.out (Nat.zero_le _) (fun a6 c6 w6 ho6 hg6 hat6 => ?_)
    have hlo6 := HD3.out.looseTo (i := i) (by show i < (d.fs.set i _).length; rw [List.length_set]; exact hi) (Dm.file_set hi _) (by have h9 := HF3.out; rw [HG.out] at h9; exact h9) hg6 (u := ⟨fit.take k, 0⟩) (by have := HLN.out; show ln + 1 = (d.file i).loose.length + 1; omega) (by have h9 := HRL.out; exact h9) HA3.out HLV.out (by show OwnL _ _ 172 2 _ _ (d.file i).loose.length _; rw [← HLN.out]; exact HO3.out) ho6 hat6
    have k6 : w6.heap[g]? = some (boxFile i (.slice a2 (nv + k) c2) vs (.slice la ln lc)) := (hg6.block g hglW (fun e => by have h9 := HO3.out.2 g e.symm; have h8 := HF3.out.lg; rw [h9] at h8; omega)).trans HF3.out.box
    have kp6 := cell0 ((hg6.block bp hbpl (fun e => by have h9 := HO3.out.2 bp e.symm; have h8 := HBP3.out.2; rw [h9] at h8; omega)).trans (HBP3.out.1))
    have s6 := cell_of_row _ _ 3 _ _ _ k6
    have f6 := frozen_of_row w6 g 3 _ _ k6
    simp only [List.getElem?_toArray, List.getElem?_cons_zero, List.getElem?_cons_succ] at s6
    rw [← HG.out] at hlo6
    clear k6
    refine hK.out _ _ kp6 (fun hHeld => ?_)
    clear hK K
    (try simp only [Act.put, List.setIfInBounds_toArray, List.set_cons_zero, List.set_cons_succ, List.getElem_toArray, List.getElem_cons_succ, List.getElem_cons_zero])
    refine wpAnyH_take (i := 10) (oi := _) (v := ?_) rfl (by kernel_rfl) (by kernel_rfl) (by kernel_rfl) (fun _ _ _ h => h) (Or.inl ⟨by rfl, ?_⟩) (by assumption) ?_
    rotate_left
    · intro w hSw
      (try dsimp only at hSw)
      go_simp
      all_goals (first | done | with_reducible rfl)
    (try simp only [Act.put, List.setIfInBounds_toArray, List.set_cons_zero, List.set_cons_succ, List.getElem_toArray, List.getElem_cons_succ, List.getElem_cons_zero])
    refine wpAnyH_take (i := 11) (oi := _) (v := ?_) rfl (by kernel_rfl) (by kernel_rfl) (by kernel_rfl) (fun _ _ _ h => h) (Or.inl ⟨by rfl, ?_⟩) (by assumption) ?_
    rotate_left
    · intro w hSw
      (try dsimp only at hSw)
      go_simp
      all_goals (first | done | with_reducible rfl)
    (try simp only [Act.put, List.setIfInBounds_toArray, List.set_cons_zero, List.set_cons_succ, List.getElem_toArray, List.getElem_cons_succ, List.getElem_cons_zero])
    refine wpAnyH_ready (rs := [12]) (by kernel_rfl) (by simp) ?_
    refine AllReadyH.cons (o := _) rfl (fun K hK => ?_) AllReadyH.nil
    go_simp
    refine hK.out _ _ (keeps kp6 hne) (fun hHeld => ?_)
    clear hK K
    (try simp only [Act.put, List.setIfInBounds_toArray, List.set_cons_zero, List.set_cons_succ, List.getElem_toArray, List.getElem_cons_succ, List.getElem_cons_zero])
    refine wpAnyH_done (by kernel_rfl) ?_ _
    obtain ⟨ρ5, hd5, hu5⟩ := hlo6
    obtain ⟨w7, hw7⟩ : ∃ w7, w7 = w6.setCell ⟨g, 3, none⟩ (.slice a6 (ln + 1) c6) := ⟨_, rfl⟩
    rw [← hw7] at hd5 hu5 ⊢
    have hu7 := HU3.out.trans hu5
    have kb7 := cell0 (HBD.out.upd hu7).1
    have c27 := hd5.cells.2.2.1
    have f27 := hd5.cells.2.2.2.2.2.2.2.2.2.2.2 2
    have HD5 := Lib.hid hd5
    have HU7 := Lib.hid hu7
    have HE := Lib.hid (show partOf i fit n d = { ((d.setF i ⟨(d.file i).now ++ fit.take k, (d.file i).safe, (d.file i).loose⟩).setF i ⟨(d.file i).now ++ fit.take k, (d.file i).safe, (d.file i).loose ++ [⟨fit.take k, 0⟩]⟩) with used := wrap64 (d.used + (k : Int)) } by
      unfold partOf; rw [HQ.out, Dm.set_set]
      have hne0 : fit.take k ≠ [] := fun e => by have h1 := HQL.out; rw [e] at h1; have := HK0.out; simp at h1; omega
      simp only [hne0, if_false]
      rw [HQL.out])
    clear hd5 hu5 hu7 hw7 s6 f6 kp6 kpW ho6 hg6 hat6 hlt hHeld
    go_wp2_with fail
    go_end0
    have hlg := HD5.out.lg
    have ho8 : Only ρ5 (· = 1) w7 (w7.setCell ⟨gd, 2, none⟩ (.int .i64 (wrap64 (d.used + (k : Int))))) := Only.setCell w7 gd 2 _ hlg
    refine ⟨rfl, { L with ρ := ρ5 }, ?_, HU7.out.trans (Upd.of_only ho8 (by omega) (Ext.refl _ _))⟩
    rw [HE.out]
    exact HD5.out.own1 ho8 (heap_setCell_same w7 gd 2 _ _ _ HD5.out.g) rfl rfl rfl rfl rfl rfl
  · go_simp
    refine HCL.out.mono ?_
    rintro e w4 ⟨⟨a4, c4, rfl, hv⟩, hb⟩
    have hb4 : Below w3.heap.size w3 w4 := ((Below.refl w3.heap.size w3).drew).trans hb
    have kp4 := keepc hb4 kp3
    have l34 := keepc hb4 l3
    have HB4 := Lib.hid hb4
    have HV4 := Lib.hid hv
    clear hv hb hb4
    refine hK.out _ _ kp4 (fun hHeld => ?_)
    clear hK K
    (try simp only [Act.put, List.setIfInBounds_toArray, List.set_cons_zero, List.set_cons_succ, List.getElem_toArray, List.getElem_cons_succ, List.getElem_cons_zero])
    refine wpAnyH_take (i := 7) (oi := _) (v := ?_) rfl (by kernel_rfl) (by kernel_rfl) (by kernel_rfl) (fun _ _ _ h => h) (Or.inl ⟨by rfl, ?_⟩) (by assumption) ?_
    rotate_left
    · intro w hSw
      (try dsimp only at hSw)
      go_simp
      all_goals (first | done | with_reducible rfl)
    (try simp only [Act.put, List.setIfInBounds_toArray, List.set_cons_zero, List.set_cons_succ, List.getElem_toArray, List.getElem_cons_succ, List.getElem_cons_zero])
    refine wpAnyH_ready (rs := [4, 8]) (by kernel_rfl) (by simp) ?_
    refine AllReadyH.cons (o := _) rfl (fun K hK => ?_) (AllReadyH.cons (o := _) rfl (fun K hK => ?_) AllReadyH.nil)
    · go_simp
      refine hK.out _ _ kp4 (fun hHeld => ?_)
      clear hK K
      (try simp only [Act.put, List.setIfInBounds_toArray, List.set_cons_zero, List.set_cons_succ, List.getElem_toArray, List.getElem_cons_succ, List.getElem_cons_zero])
      refine wpAnyH_ready (rs := [8]) (by kernel_rfl) (by simp) ?_
      refine AllReadyH.cons (o := _) rfl (fun K hK => ?_) AllReadyH.nil
      go_simp
      refine hK.out _ _ (keepc (bel1 w4 _) kp4) (fun hHeld => ?_)
      clear hK K
      (try simp only [Act.put, List.setIfInBounds_toArray, List.set_cons_zero, List.set_cons_succ, List.getElem_toArray, List.getElem_cons_succ, List.getElem_cons_zero])
      refine wpAnyH_ready (rs := [9]) (by kernel_rfl) (by simp) ?_
      have hb5 : Below w3.heap.size w3 (w4.alloc (.cells #[.slice a4 k c4, .int .i64 0] 172)) := HB4.out.trans ((bel1 w4 _).mono HB4.out.size)
      obtain ⟨W, hW⟩ : ∃ W, W = w4.alloc (.cells #[.slice a4 k c4, .int .i64 0] 172) := ⟨_, rfl⟩
      have hvW : W.ownsRow w3.heap.size 5 1 (.slice a4 k c4) k ((fit.take k).map b8) := by rw [hW]; exact own_below HV4.out (bel1 w4 _)
      have HN3 := Lib.hid (fun j u hj => show W.cell? ((⟨w4.heap.size, 0, none⟩ : Addr).add j) = some u by rw [hW]; exact new_run w4 (.slice a4 k c4) (0 : Int) (k := w4.heap.size) rfl j u hj)
      have kpW : W.cell? ⟨bp, 0, none⟩ = some (.pointer (some ⟨g, 0, none⟩)) := by rw [hW]; exact keepc (bel1 w4 _) kp4
      rw [← hW] at hb5
      rw [← hW]
      obtain ⟨ρ3, he3, hd3, hl3⟩ := put_new (w := w3) (w' := W) HD2.out.dom hvW hb5.size 6
      have he3 : Ext w3.heap.size ρ2 ρ3 := he3
      have HD3 := Lib.hid ((HD2.out.below hb5).relab (ρ' := ρ3) (fun k h => he3.same k h) hd3)
      have HU3 := Lib.hid (HU2.out.trans (show Upd ρ2 ρ3 w3 W from ⟨hb5.os, hb5.tape, hb5.output, hb5.size, fun k hk _ => hb5.block k hk, he3⟩))
      have HF3 := Lib.hid (HF2.out.keep (w' := W) (ρ' := ρ3) (fun k e => hb5.block k (HD2.out.dom k (by show ρ2 k ≠ 0; omega))) (fun k h => he3.same k h))
      have HO3 := Lib.hid (HO1.out.keep (w' := W) (ρ' := ρ3) (fun k e => hb5.block k (HD2.out.dom k (by show ρ2 k ≠ 0; omega))) (fun k e => (he3.same k (by omega)).trans e))
      have HA3 := Lib.hid (fun (k : Nat) (p : Value × Int) (u : Run) hp hx => (⟨(HALL.out k p u hp hx).1, (HALL.out k p u hp hx).2.keep (fun k e => hb5.block k (HD2.out.dom k (by show ρ2 k ≠ 0; omega))) (fun k e => (he3.same k (by omega)).trans e)⟩ : p.2 = (u.cut : Int) ∧ RdL W ρ3 p.1 u.laid))
      have HLV := Lib.hid (show RdL W ρ3 (.slice a4 k c4) (fit.take k) from ⟨a4, c4, by rw [HQL.out], by rw [HQL.out]; exact R8.of_owns hvW (by omega), fun b off e h0 => hl3 b (by rw [e]; rfl)⟩)
      have HBP3 := Lib.hid (show Cap W ρ3 bp (boxP g) from ⟨(hb5.block bp (Array.getElem?_eq_some_iff.1 HBP2.out.1).1).trans HBP2.out.1, he3.old bp (Array.getElem?_eq_some_iff.1 HBP2.out.1).1 HBP2.out.2⟩)
      have hbpl : bp < W.heap.size := (Array.getElem?_eq_some_iff.1 HBP3.out.1).1
      have hglW : g < W.heap.size := HF3.out.lt
      clear hb5 hvW he3 hd3 hl3 hW
      refine AllReadyH.cons (o := _) rfl (fun K hK => ?_) AllReadyH.nil
      refine S_appendN rfl (.tmp 29) (.tmp 33) 115 (by rfl) sl82 0 (.slice la ln lc) ln (rs.flatMap runV) (by rfl) HO3.out.1 ⟨w4.heap.size, 0, none⟩ 1 1 [.slice a4 k c4, .int .i64 0] (by rfl) (by rfl) HN3.out (one_run _ _ rfl) HQ3.out HQ4.out (Nat.zero_le _) (fun a6 c6 w6 ho6 hg6 hat6 => ?_)
      have hlo6 := HD3.out.looseTo (i := i) (by show i < (d.fs.set i _).length; rw [List.length_set]; exact hi) (Dm.file_set hi _) (by have h9 := HF3.out; rw [HG.out] at h9; exact h9) hg6 (u := ⟨fit.take k, 0⟩) (by have := HLN.out; show ln + 1 = (d.file i).loose.length + 1; omega) (by have h9 := HRL.out; exact h9) HA3.out HLV.out (by show OwnL _ _ 172 2 _ _ (d.file i).loose.length _; rw [← HLN.out]; exact HO3.out) ho6 hat6
      have k6 : w6.heap[g]? = some (boxFile i (.slice a2 (nv + k) c2) vs (.slice la ln lc)) := (hg6.block g hglW (fun e => by have h9 := HO3.out.2 g e.symm; have h8 := HF3.out.lg; rw [h9] at h8; omega)).trans HF3.out.box
      have kp6 := cell0 ((hg6.block bp hbpl (fun e => by have h9 := HO3.out.2 bp e.symm; have h8 := HBP3.out.2; rw [h9] at h8; omega)).trans (HBP3.out.1))
      have s6 := cell_of_row _ _ 3 _ _ _ k6
      have f6 := frozen_of_row w6 g 3 _ _ k6
      simp only [List.getElem?_toArray, List.getElem?_cons_zero, List.getElem?_cons_succ] at s6
      rw [← HG.out] at hlo6
      clear k6
      refine hK.out _ _ kp6 (fun hHeld => ?_)
      clear hK K
      (try simp only [Act.put, List.setIfInBounds_toArray, List.set_cons_zero, List.set_cons_succ, List.getElem_toArray, List.getElem_cons_succ, List.getElem_cons_zero])
      refine wpAnyH_take (i := 10) (oi := _) (v := ?_) rfl (by kernel_rfl) (by kernel_rfl) (by kernel_rfl) (fun _ _ _ h => h) (Or.inl ⟨by rfl, ?_⟩) (by assumption) ?_
      rotate_left
      · intro w hSw
        (try dsimp only at hSw)
        go_simp
        all_goals (first | done | with_reducible rfl)
      (try simp only [Act.put, List.setIfInBounds_toArray, List.set_cons_zero, List.set_cons_succ, List.getElem_toArray, List.getElem_cons_succ, List.getElem_cons_zero])
      refine wpAnyH_take (i := 11) (oi := _) (v := ?_) rfl (by kernel_rfl) (by kernel_rfl) (by kernel_rfl) (fun _ _ _ h => h) (Or.inl ⟨by rfl, ?_⟩) (by assumption) ?_
      rotate_left
      · intro w hSw
        (try dsimp only at hSw)
        go_simp
        all_goals (first | done | with_reducible rfl)
      (try simp only [Act.put, List.setIfInBounds_toArray, List.set_cons_zero, List.set_cons_succ, List.getElem_toArray, List.getElem_cons_succ, List.getElem_cons_zero])
      refine wpAnyH_ready (rs := [12]) (by kernel_rfl) (by simp) ?_
      refine AllReadyH.cons (o := _) rfl (fun K hK => ?_) AllReadyH.nil
      go_simp
      refine hK.out _ _ (keeps kp6 hne) (fun hHeld => ?_)
      clear hK K
      (try simp only [Act.put, List.setIfInBounds_toArray, List.set_cons_zero, List.set_cons_succ, List.getElem_toArray, List.getElem_cons_succ, List.getElem_cons_zero])
      refine wpAnyH_done (by kernel_rfl) ?_ _
      obtain ⟨ρ5, hd5, hu5⟩ := hlo6
      obtain ⟨w7, hw7⟩ : ∃ w7, w7 = w6.setCell ⟨g, 3, none⟩ (.slice a6 (ln + 1) c6) := ⟨_, rfl⟩
      rw [← hw7] at hd5 hu5 ⊢
      have hu7 := HU3.out.trans hu5
      have kb7 := cell0 (HBD.out.upd hu7).1
      have c27 := hd5.cells.2.2.1
      have f27 := hd5.cells.2.2.2.2.2.2.2.2.2.2.2 2
      have HD5 := Lib.hid hd5
      have HU7 := Lib.hid hu7
      have HE := Lib.hid (show partOf i fit n d = { ((d.setF i ⟨(d.file i).now ++ fit.take k, (d.file i).safe, (d.file i).loose⟩).setF i ⟨(d.file i).now ++ fit.take k, (d.file i).safe, (d.file i).loose ++ [⟨fit.take k, 0⟩]⟩) with used := wrap64 (d.used + (k : Int)) } by
        unfold partOf; rw [HQ.out, Dm.set_set]
        have hne0 : fit.take k ≠ [] := fun e => by have h1 := HQL.out; rw [e] at h1; have := HK0.out; simp at h1; omega
        simp only [hne0, if_false]
        rw [HQL.out])
      clear hd5 hu5 hu7 hw7 s6 f6 kp6 kpW ho6 hg6 hat6 hlt hHeld
      go_wp2_with fail
      go_end0
      have hlg := HD5.out.lg
      have ho8 : Only ρ5 (· = 1) w7 (w7.setCell ⟨gd, 2, none⟩ (.int .i64 (wrap64 (d.used + (k : Int))))) := Only.setCell w7 gd 2 _ hlg
      refine ⟨rfl, { L with ρ := ρ5 }, ?_, HU7.out.trans (Upd.of_only ho8 (by omega) (Ext.refl _ _))⟩
      rw [HE.out]
      exact HD5.out.own1 ho8 (heap_setCell_same w7 gd 2 _ _ _ HD5.out.g) rfl rfl rfl rfl rfl rfl
    · have l35 := keepc (bel1 w4 (.cells #[.slice a4 k c4, .int .i64 0] 172)) l34
      go_simp
      refine hK.out _ _ (keepc (bel1 w4 _) kp4) (fun hHeld => ?_)
      clear hK K
      (try simp only [Act.put, List.setIfInBounds_toArray, List.set_cons_zero, List.set_cons_succ, List.getElem_toArray, List.getElem_cons_succ, List.getElem_cons_zero])
      refine wpAnyH_ready (rs := [4]) (by kernel_rfl) (by simp) ?_
      refine AllReadyH.cons (o := _) rfl (fun K hK => ?_) AllReadyH.nil
      go_simp
      refine hK.out _ _ (keepc (bel1 w4 _) kp4) (fun hHeld => ?_)
      clear hK K
      (try simp only [Act.put, List.setIfInBounds_toArray, List.set_cons_zero, List.set_cons_succ, List.getElem_toArray, List.getElem_cons_succ, List.getElem_cons_zero])
      refine wpAnyH_ready (rs := [9]) (by kernel_rfl) (by simp) ?_
      have hb5 : Below w3.heap.size w3 (w4.alloc (.cells #[.slice a4 k c4, .int .i64 0] 172)) := HB4.out.trans ((bel1 w4 _).mono HB4.out.size)
      obtain ⟨W, hW⟩ : ∃ W, W = w4.alloc (.cells #[.slice a4 k c4, .int .i64 0] 172) := ⟨_, rfl⟩
      have hvW : W.ownsRow w3.heap.size 5 1 (.slice a4 k c4) k ((fit.take k).map b8) := by rw [hW]; exact own_below HV4.out (bel1 w4 _)
      have HN3 := Lib.hid (fun j u hj => show W.cell? ((⟨w4.heap.size, 0, none⟩ : Addr).add j) = some u by rw [hW]; exact new_run w4 (.slice a4 k c4) (0 : Int) (k := w4.heap.size) rfl j u hj)
      have kpW : W.cell? ⟨bp, 0, none⟩ = some (.pointer (some ⟨g, 0, none⟩)) := by rw [hW]; exact keepc (bel1 w4 _) kp4
      rw [← hW] at hb5
      rw [← hW]
      obtain ⟨ρ3, he3, hd3, hl3⟩ := put_new (w := w3) (w' := W) HD2.out.dom hvW hb5.size 6
      have he3 : Ext w3.heap.size ρ2 ρ3 := he3
      have HD3 := Lib.hid ((HD2.out.below hb5).relab (ρ' := ρ3) (fun k h => he3.same k h) hd3)
      have HU3 := Lib.hid (HU2.out.trans (show Upd ρ2 ρ3 w3 W from ⟨hb5.os, hb5.tape, hb5.output, hb5.size, fun k hk _ => hb5.block k hk, he3⟩))
      have HF3 := Lib.hid (HF2.out.keep (w' := W) (ρ' := ρ3) (fun k e => hb5.block k (HD2.out.dom k (by show ρ2 k ≠ 0; omega))) (fun k h => he3.same k h))
      have HO3 := Lib.hid (HO1.out.keep (w' := W) (ρ' := ρ3) (fun k e => hb5.block k (HD2.out.dom k (by show ρ2 k ≠ 0; omega))) (fun k e => (he3.same k (by omega)).trans e))
      have HA3 := Lib.hid (fun (k : Nat) (p : Value × Int) (u : Run) hp hx => (⟨(HALL.out k p u hp hx).1, (HALL.out k p u hp hx).2.keep (fun k e => hb5.block k (HD2.out.dom k (by show ρ2 k ≠ 0; omega))) (fun k e => (he3.same k (by omega)).trans e)⟩ : p.2 = (u.cut : Int) ∧ RdL W ρ3 p.1 u.laid))
      have HLV := Lib.hid (show RdL W ρ3 (.slice a4 k c4) (fit.take k) from ⟨a4, c4, by rw [HQL.out], by rw [HQL.out]; exact R8.of_owns hvW (by omega), fun b off e h0 => hl3 b (by rw [e]; rfl)⟩)
      have HBP3 := Lib.hid (show Cap W ρ3 bp (boxP g) from ⟨(hb5.block bp (Array.getElem?_eq_some_iff.1 HBP2.out.1).1).trans HBP2.out.1, he3.old bp (Array.getElem?_eq_some_iff.1 HBP2.out.1).1 HBP2.out.2⟩)
      have hbpl : bp < W.heap.size := (Array.getElem?_eq_some_iff.1 HBP3.out.1).1
      have hglW : g < W.heap.size := HF3.out.lt
      clear hb5 hvW he3 hd3 hl3 hW
      refine AllReadyH.cons (o := _) rfl (fun K hK => ?_) AllReadyH.nil
      refine S_appendN rfl (.tmp 29) (.tmp 33) 115 (by rfl) sl82 0 (.slice la ln lc) ln (rs.flatMap runV) (by rfl) HO3.out.1 ⟨w4.heap.size, 0, none⟩ 1 1 [.slice a4 k c4, .int .i64 0] (by rfl) (by rfl) HN3.out (one_run _ _ rfl) HQ3.out HQ4.out (Nat.zero_le _) (fun a6 c6 w6 ho6 hg6 hat6 => ?_)
      have hlo6 := HD3.out.looseTo (i := i) (by show i < (d.fs.set i _).length; rw [List.length_set]; exact hi) (Dm.file_set hi _) (by have h9 := HF3.out; rw [HG.out] at h9; exact h9) hg6 (u := ⟨fit.take k, 0⟩) (by have := HLN.out; show ln + 1 = (d.file i).loose.length + 1; omega) (by have h9 := HRL.out; exact h9) HA3.out HLV.out (by show OwnL _ _ 172 2 _ _ (d.file i).loose.length _; rw [← HLN.out]; exact HO3.out) ho6 hat6
      have k6 : w6.heap[g]? = some (boxFile i (.slice a2 (nv + k) c2) vs (.slice la ln lc)) := (hg6.block g hglW (fun e => by have h9 := HO3.out.2 g e.symm; have h8 := HF3.out.lg; rw [h9] at h8; omega)).trans HF3.out.box
      have kp6 := cell0 ((hg6.block bp hbpl (fun e => by have h9 := HO3.out.2 bp e.symm; have h8 := HBP3.out.2; rw [h9] at h8; omega)).trans (HBP3.out.1))
      have s6 := cell_of_row _ _ 3 _ _ _ k6
      have f6 := frozen_of_row w6 g 3 _ _ k6
      simp only [List.getElem?_toArray, List.getElem?_cons_zero, List.getElem?_cons_succ] at s6
      rw [← HG.out] at hlo6
      clear k6
      refine hK.out _ _ kp6 (fun hHeld => ?_)
      clear hK K
      (try simp only [Act.put, List.setIfInBounds_toArray, List.set_cons_zero, List.set_cons_succ, List.getElem_toArray, List.getElem_cons_succ, List.getElem_cons_zero])
      refine wpAnyH_take (i := 10) (oi := _) (v := ?_) rfl (by kernel_rfl) (by kernel_rfl) (by kernel_rfl) (fun _ _ _ h => h) (Or.inl ⟨by rfl, ?_⟩) (by assumption) ?_
      rotate_left
      · intro w hSw
        (try dsimp only at hSw)
        go_simp
        all_goals (first | done | with_reducible rfl)
      (try simp only [Act.put, List.setIfInBounds_toArray, List.set_cons_zero, List.set_cons_succ, List.getElem_toArray, List.getElem_cons_succ, List.getElem_cons_zero])
      refine wpAnyH_take (i := 11) (oi := _) (v := ?_) rfl (by kernel_rfl) (by kernel_rfl) (by kernel_rfl) (fun _ _ _ h => h) (Or.inl ⟨by rfl, ?_⟩) (by assumption) ?_
      rotate_left
      · intro w hSw
        (try dsimp only at hSw)
        go_simp
        all_goals (first | done | with_reducible rfl)
      (try simp only [Act.put, List.setIfInBounds_toArray, List.set_cons_zero, List.set_cons_succ, List.getElem_toArray, List.getElem_cons_succ, List.getElem_cons_zero])
      refine wpAnyH_ready (rs := [12]) (by kernel_rfl) (by simp) ?_
      refine AllReadyH.cons (o := _) rfl (fun K hK => ?_) AllReadyH.nil
      go_simp
      refine hK.out _ _ (keeps kp6 hne) (fun hHeld => ?_)
      clear hK K
      (try simp only [Act.put, List.setIfInBounds_toArray, List.set_cons_zero, List.set_cons_succ, List.getElem_toArray, List.getElem_cons_succ, List.getElem_cons_zero])
      refine wpAnyH_done (by kernel_rfl) ?_ _
      obtain ⟨ρ5, hd5, hu5⟩ := hlo6
      obtain ⟨w7, hw7⟩ : ∃ w7, w7 = w6.setCell ⟨g, 3, none⟩ (.slice a6 (ln + 1) c6) := ⟨_, rfl⟩
      rw [← hw7] at hd5 hu5 ⊢
      have hu7 := HU3.out.trans hu5
      have kb7 := cell0 (HBD.out.upd hu7).1
      have c27 := hd5.cells.2.2.1
      have f27 := hd5.cells.2.2.2.2.2.2.2.2.2.2.2 2
      have HD5 := Lib.hid hd5
      have HU7 := Lib.hid hu7
      have HE := Lib.hid (show partOf i fit n d = { ((d.setF i ⟨(d.file i).now ++ fit.take k, (d.file i).safe, (d.file i).loose⟩).setF i ⟨(d.file i).now ++ fit.take k, (d.file i).safe, (d.file i).loose ++ [⟨fit.take k, 0⟩]⟩) with used := wrap64 (d.used + (k : Int)) } by
        unfold partOf; rw [HQ.out, Dm.set_set]
        have hne0 : fit.take k ≠ [] := fun e => by have h1 := HQL.out; rw [e] at h1; have := HK0.out; simp at h1; omega
        simp only [hne0, if_false]
        rw [HQL.out])
      clear hd5 hu5 hu7 hw7 s6 f6 kp6 kpW ho6 hg6 hat6 hlt hHeld
      go_wp2_with fail
      go_end0
      have hlg := HD5.out.lg
      have ho8 : Only ρ5 (· = 1) w7 (w7.setCell ⟨gd, 2, none⟩ (.int .i64 (wrap64 (d.used + (k : Int))))) := Only.setCell w7 gd 2 _ hlg
      refine ⟨rfl, { L with ρ := ρ5 }, ?_, HU7.out.trans (Upd.of_only ho8 (by omega) (Ext.refl _ _))⟩
      rw [HE.out]
      exact HD5.out.own1 ho8 (heap_setCell_same w7 gd 2 _ _ _ HD5.out.g) rfl rfl rfl rfl rfl rfl

end Go.Proofs.YtgkehahklccacaaGreatDoor
