import Derived.Test.YteoggphafhcchaaGreatM8
namespace Go.Proofs.YteoggphafhcchaaGreat
open Go Go.RowKit
set_option maxRecDepth 100000
set_option maxHeartbeats 1000000
set_option linter.unusedVariables false
set_option linter.unusedSimpArgs false
open Go.Maps Go.WideMaps
theorem change_move1 (w : World) (L : Lay) (gd : Nat) (d : Dm) (h : DAt w L gd d) (src dst : Nm) (hc : ChOk d ⟨src, dst, none⟩) (hs : dst ≠ src) (hd : dst ≠ []) (j : Nat) (hk : lk d.names dst = some j) (hj : ∃ fj, d.fs[j]? = some fj) :
    Calls Tryz.prog 50 #[.pointer (some ⟨gd, 0, none⟩), .agg #[.string (bs src), .string (bs dst), .pointer none]] w fun e w' => e = .returned (.tuple #[]) ∧ ∃ L', DAt w' L' gd (d.change ⟨src, dst, none⟩) ∧ Upd L.ρ L'.ρ w w' := by
  obtain ⟨f, hf⟩ : ∃ f, f = bs src := ⟨_, rfl⟩
  obtain ⟨t, ht⟩ : ∃ t, t = bs dst := ⟨_, rfl⟩
  have hft : (t.toList == f.toList) = decide (dst = src) := by
    rw [hf, ht, ByteArray.toList_eq, ByteArray.toList_eq]; by_cases h9 : dst = src <;> simp [bs, h9]
  have ht0 : (t.toList == []) = decide (dst = []) := by
    rw [ht, ByteArray.toList_eq]; cases dst <;> simp [bs]
  rw [← hf, ← ht]
  obtain ⟨w0, hw0⟩ : ∃ w0, w0 = w.alloc (boxC f t (.pointer none)) := ⟨_, rfl⟩
  have hb0 : Below w.heap.size w w0 := by rw [hw0]; exact bel1 _ _
  have g0 : w0.heap[w.heap.size]? = some (boxC f t (.pointer none)) := by rw [hw0]; exact heap_alloc_new w _
  have hd0 := h.below hb0
  have HD0 := Lib.hid hd0
  have HU0 := Lib.hid (Upd.of_below (ρ := L.ρ) hb0)
  obtain ⟨-, -, c2, -, -, -, c6, -, -, -, -, fr⟩ := hd0.cells
  have f2 := fr 2
  obtain ⟨b0, b1, b2⟩ := box3 g0
  have G0 := Lib.hid g0
  have HC := Lib.hid hc
  have HT := Lib.hid (And.intro hf ht)
  have hlt := h.lt
  have hlt0 : gd < w0.heap.size := hd0.lt
  have z0 : w.heap.size < w0.heap.size := by rw [hw0]; simp
  have hnw : w.heap.size ≠ L.nb := by have := h.nm.lt.1; omega
  have hgn : gd ≠ L.nb := fun e => by have h1 := h.nm.lt.2; have h2 := h.lg; rw [← e, h2] at h1; omega
  have hlk : ∀ nq : Nat, (Instr.lookup 43 (.map (some L.nb)) (.string t) false).run Tryz.prog (w0.drewN nq) = .ok (madeV L.fa (lk d.names dst)) (w0.drewN nq) := fun nq => by
    rw [ht]; exact (hd0.below (below_drewN (Below.refl _ _) nq)).nm.look hc.dst
  rw [hk, show madeV L.fa (some j) = .pointer (some ⟨L.fa j, 0, none⟩) from rfl] at hlk
  obtain ⟨fj, hfj⟩ : ∃ fj, d.fs[j]? = some fj := hj
  obtain ⟨vn, vs, vl, hfa⟩ := hd0.fs j fj hfj
  obtain ⟨av, cv, hvn, -⟩ := owns_shape hfa.now.1
  have n1 := cell_of_row _ _ 1 _ _ _ hfa.box
  simp only [List.getElem?_toArray, List.getElem?_cons_zero, List.getElem?_cons_succ] at n1
  rw [hvn] at n1
  obtain ⟨nv, hnv⟩ : ∃ nv, nv = fj.now.length := ⟨_, rfl⟩
  have hfile : d.file j = fj := by unfold Dm.file; rw [hfj]; rfl
  rw [← hnv] at n1
  have e1 : (t.toList != f.toList) = true := by rw [bne, hft, decide_eq_false hs]; rfl
  have e1' : (t.toList == f.toList) = false := by rw [hft, decide_eq_false hs]
  have e2 : (t.toList == []) = false := by rw [ht0, decide_eq_false hd]
  have HE := Lib.hid (show d.change ⟨src, dst, none⟩ = { ({ d with used := wrap64 (d.used - (nv : Int)), names := Chg.act ⟨src, dst, none⟩ d.names } : Dm) with changes := d.changes ++ [⟨src, dst, none⟩] } by unfold Dm.change Dm.usedFor; simp [hs, hd, hk, hfile, hnv])
  clear hs hd hk hft ht0 hfa hfj hvn hfile hnv
  clear h hb0 g0 hd0 hc hf ht fr
  go_enter Tryz.func50, Tryz.ntmps50
  go_upto_region 1 with (fail)
  rw [← hw0]
  clear hw0
  go_wp2_with fail
  go_quiet (fail)
  obtain ⟨wq, hwq⟩ : ∃ wq, wq = w0.drewN nq := ⟨_, rfl⟩
  have hbq : Below w0.heap.size w0 wq := by rw [hwq]; exact below_drewN (Below.refl _ _) nq
  have c2q : wq.cell? ⟨gd, 2, none⟩ = some (.int .i64 d.used) := by rw [hwq]; exact c2
  have f2q : wq.frozen? ⟨gd, 2, none⟩ = false := by rw [hwq]; exact f2
  have n1q : wq.cell? ⟨L.fa j, 1, none⟩ = some (.slice av nv cv) := by rw [hwq]; exact n1
  have b0q : wq.cell? ⟨w.heap.size, 0, none⟩ = some (.string f) := by rw [hwq]; exact b0
  have b1q : wq.cell? ⟨w.heap.size, 1, none⟩ = some (.string t) := by rw [hwq]; exact b1
  rw [← hwq]
  clear hwq c2 f2 n1 b0 b1 b2 c6
  go_wp2_with fail
  go_still_tail 10, (by kernel_rfl)
  change wpList _ _ _ _ _ wq.drew
  obtain ⟨wz, hwz⟩ : ∃ wz, wz = wq.drew := ⟨_, rfl⟩
  have hbz : Below w0.heap.size w0 wz := by rw [hwz]; exact hbq.drew
  have c2z : wz.cell? ⟨gd, 2, none⟩ = some (.int .i64 d.used) := by rw [hwz]; exact c2q
  have f2z : wz.frozen? ⟨gd, 2, none⟩ = false := by rw [hwz]; exact f2q
  rw [← hwz]
  have hdz := HD0.out.below hbz
  have hoz : Only L.ρ (· = 1) wz (wz.setCell ⟨gd, 2, none⟩ (.int .i64 (wrap64 (d.used - (nv : Int))))) := Only.setCell wz gd 2 _ hdz.lg
  have HD1 := Lib.hid (hdz.own1 hoz (d' := { d with used := wrap64 (d.used - (nv : Int)) }) (heap_setCell_same wz gd 2 _ _ _ hdz.g) rfl rfl rfl rfl rfl rfl)
  have HU1 := Lib.hid ((HU0.out.trans (Upd.of_below (ρ := L.ρ) hbz)).trans (Upd.of_only hoz (by omega) (Ext.refl _ _)))
  have G1 := Lib.hid ((heap_setCell_other wz ⟨gd, 2, none⟩ w.heap.size (.int .i64 (wrap64 (d.used - (nv : Int)))) (by show w.heap.size ≠ gd; omega)).trans ((hbz.block _ z0).trans G0.out))
  obtain ⟨w1, hw1⟩ : ∃ w1, w1 = wz.setCell ⟨gd, 2, none⟩ (.int .i64 (wrap64 (d.used - (nv : Int)))) := ⟨_, rfl⟩
  clear hlk c2q f2q b0q b1q n1q hwz hbz hdz hoz hbq
  go_upto_region 5 with (fail)
  rw [← hw1] at HD1 HU1 G1 ⊢
  obtain ⟨b0, b1, b2⟩ := box3 G1.out
  obtain ⟨-, -, -, -, -, -, c6, -⟩ := HD1.out.cells
  clear hw1 c2z f2z HD0 HU0 G0 z0 hlt0
  go_wp2_with fail
  go_region_held3 (fun w' => w'.cell? ⟨gd, 6, none⟩ = some (.map (some L.nb)) ∧ w'.cell? ⟨w.heap.size, 0, none⟩ = some (.string f) ∧ w'.cell? ⟨w.heap.size, 1, none⟩ = some (.string t) ∧ w'.cell? ⟨w.heap.size, 2, none⟩ = some (.pointer none)) (first | exact ⟨c6, b0, b1, b2⟩ | exact ⟨keepm hgr2 hgn c6, keepm hgr2 hnw b0, keepm hgr2 hnw b1, keepm hgr2 hnw b2⟩) (first | (go_at_call 30; rw [HT.out.1, HT.out.2]; refine (do_any w1.drew L.ρ 2 L.fa L.nb d.names ⟨src, dst, none⟩ HD1.out.nm HC.out.nd HC.out.src HC.out.dst HC.out.few HC.out.old HC.out.new).mono ?_; rintro e w2 ⟨rfl, hm2, hgr2⟩))
  have hdu := (HD1.out.below (show Below w1.heap.size w1 w1.drew from (Below.refl _ _).drew)).names1 hgr2 hm2
  have HU2 := Lib.hid ((HU1.out.trans (Upd.of_below (show Below w1.heap.size w1 w1.drew from (Below.refl _ _).drew))).trans hdu.2)
  have HD2 := Lib.hid hdu.1
  have G2 := Lib.hid ((hgr2.block w.heap.size (Array.getElem?_eq_some_iff.1 G1.out).1 (fun e => hnw (Option.some.inj e))).trans G1.out)
  have z2 : w.heap.size < w2.heap.size := (Array.getElem?_eq_some_iff.1 G2.out).1
  have hlt2 : gd < w2.heap.size := hdu.1.lt
  obtain ⟨-, -, -, -, -, -, -, -, e8, -⟩ := hdu.1.cells
  obtain ⟨b0', b1', b2'⟩ := box3 G2.out
  clear hm2 hgr2 hdu c6 b0 b1 b2
  go_wp2_with fail
  have hb3 : Below w2.heap.size w2 (w2.drew.alloc (boxC f t (.pointer none))) := (show Below w2.heap.size w2 w2.drew from (Below.refl _ _).drew).alloc (Nat.le_refl _) _
  have HD3 := Lib.hid (HD2.out.below hb3)
  have HU3 := Lib.hid (HU2.out.trans (Upd.of_below hb3))
  have HN3 := Lib.hid (fun j u => new_ch w2.drew f t (.pointer none) (k := w2.heap.size) rfl j u)
  have HQ1 := Lib.hid (show (d.changes.length + 1) * 40 ≤ 140737488355328 by have := HC.out.many; omega)
  have HQ2 := Lib.hid (show d.changes.length + 1 ≤ maxLen by have := HC.out.many; simp [maxLen]; omega)
  have h1v : ∀ u ∈ [Value.string f, .string t, (.pointer none)], u.oneCell' = true := by
    rw [HT.out.1, HT.out.2]; exact one_chV L.fa ⟨src, dst, none⟩
  have H1V := Lib.hid h1v
  clear hb3 h1v
  go_region_law (first
    | (refine S_appendN rfl (.tmp 67) (.tmp 69) 44 (by rfl) sl44 0 L.ch d.changes.length (d.changes.flatMap (chV L.fa)) (by rfl) HD3.out.ch.1 ⟨w2.heap.size, 0, none⟩ 1 1 [.string f, .string t, (.pointer none)] (by rfl) (by rfl) HN3.out H1V.out HQ1.out HQ2.out (Nat.zero_le _) (fun a4 c4 w4 ho4 hg4 hat4 => ?_)
       have hgr4 := HD3.out.ch1 hg4 (c := ⟨src, dst, none⟩) rfl (by rw [HT.out.1, HT.out.2] at ho4; exact ho4) hat4
       have k8g := HD3.out.g
       have k4 : w4.heap[gd]? = some (boxDisk L { d with used := wrap64 (d.used - (nv : Int)), names := Chg.act ⟨src, dst, none⟩ d.names }) := (hg4.block gd HD3.out.lt (fun e => by have h9 := HD3.out.ch.2 gd e.symm; rw [HD3.out.lg] at h9; omega)).trans HD3.out.g
       have e8' := cell_of_row _ _ 8 _ _ _ k4
       have f8' := frozen_of_row w4 gd 8 _ _ k4
       simp only [List.getElem?_toArray, List.getElem?_cons_zero, List.getElem?_cons_succ] at e8'
       clear k8g k4))
  all_goals
    have HE4 := Lib.hid hgr4
    clear hgr4 ho4 hg4 hat4 e8 b0' b1' b2'
    go_wp2_with fail
    go_end0
    obtain ⟨L', h1, h2⟩ := HE4.out
    exact ⟨rfl, L', by rw [HE.out]; exact h1, HU3.out.trans h2⟩
end Go.Proofs.YteoggphafhcchaaGreat
