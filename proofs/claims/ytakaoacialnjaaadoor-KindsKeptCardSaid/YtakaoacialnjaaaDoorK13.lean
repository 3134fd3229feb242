import Derived.Test.YtakaoacialnjaaaDoorK12
namespace Go.Proofs.YtakaoacialnjaaaDoor
open Go Go.RowKit
set_option linter.unusedVariables false
theorem RS.cell {α : Type} {s : Nat} {enc : α → List Value} {w : World} {b off len cap : Nat} {xs : List α} (h : RS s enc w (some ⟨b, off, none⟩) len cap xs) (i : Nat) (x : α) (hx : xs[i]? = some x) (j : Nat) (v : Value) (hv : (enc x)[j]? = some v) :
    w.cell? ⟨b, off + i * s + j, none⟩ = some v := by
  obtain ⟨b', off', e, hc⟩ := h.2.2.2 i x hx
  obtain ⟨rfl, rfl⟩ : b = b' ∧ off = off' := by simpa using e
  exact hc j v hv
set_option maxRecDepth 100000 in
set_option maxHeartbeats 4000000 in
theorem look_if (w : World) (g : Nat) (sc : List Nm) (ks : List (Int × Bool)) (K : LK w g sc ks) (ht : NoTab w) (h0 : 0 < w.heap.size)
    (nm : ByteArray) (vk vn : Int) (vt : ByteArray) (sa : Option Addr) (sl sc' : Nat) (ka : Option Addr) (kc : Nat) (x y z : Nat) (hk : RS 1 IvN w ka 3 kc [x, y, z]) (hx : x < ks.length) (hy : y < ks.length) (hz : z < ks.length) :
    Calls Tryd.prog 34 #[.pointer (some ⟨g, 0, none⟩), .agg (nodeV 23 nm vk vn vt sa sl sc' ka 3 kc)] w fun e w' =>
      LookOut e (finK ((joinedK (ks.getD y (0, false)) (ks.getD z (0, false))).1, (joinedK (ks.getD y (0, false)) (ks.getD z (0, false))).2 && (ks.getD x (0, false)).1 == 2)) ∧ Below w.heap.size w w' := by
  have hw := below3 w (nodeV 23 nm vk vn vt sa sl sc' ka 3 kc) #[.int .i64 0, .bool false] #[.int .i64 0, .bool false] 49 30 30
  obtain ⟨g0, g1, g2, gs⟩ := facts3 w (nodeV 23 nm vk vn vt sa sl sc' ka 3 kc) #[.int .i64 0, .bool false] #[.int .i64 0, .bool false] 49 30 30
  obtain ⟨b, off, _, rfl, -, -⟩ := hk.at (i := 0) (by omega)
  have x0 := hk.cell 0 x rfl 0 _ rfl
  have y0 := hk.cell 1 y rfl 0 _ rfl
  have z0 := hk.cell 2 z rfl 0 _ rfl
  have krk := K.rk
  have kc2 := K.h2
  generalize K.kc = cc at *
  generalize K.ka = ca at *
  obtain ⟨b2, off2, q, rfl, hq, -⟩ := krk.at hx
  obtain ⟨_, _, r, -, hr, -⟩ := krk.at hy
  obtain ⟨_, _, s, -, hs, -⟩ := krk.at hz
  have q0 := krk.cell x q hq 0 _ rfl
  have r0 := krk.cell y r hr 0 _ rfl
  have r1 := krk.cell y r hr 1 _ rfl
  have s0 := krk.cell z s hs 0 _ rfl
  have s1 := krk.cell z s hs 1 _ rfl
  simp only [Nat.add_zero, Nat.mul_one] at x0 y0 z0 q0 r0 s0
  have hgx : ks.getD x (0, false) = q := by simp [List.getD_eq_getElem?_getD, hq]
  have hgy : ks.getD y (0, false) = r := by simp [List.getD_eq_getElem?_getD, hr]
  have hgz : ks.getD z (0, false) = s := by simp [List.getD_eq_getElem?_getD, hs]
  rw [hgx, hgy, hgz]
  obtain ⟨qb, qo⟩ := q
  obtain ⟨rb, ro⟩ := r
  obtain ⟨sb, so⟩ := s
  simp only at q0 r0 r1 s0 s1 ⊢
  have hxI : (x : Int) < (ks.length : Int) := by omega
  have hyI : (y : Int) < (ks.length : Int) := by omega
  have hzI : (z : Int) < (ks.length : Int) := by omega
  have HB := Lib.hid hw
  have l0 : b < w.heap.size := block_lt_of_cell x0
  have l1 : b2 < w.heap.size := block_lt_of_cell q0
  have l2 : g < w.heap.size := block_lt_of_cell kc2
  have HT := Lib.hid (ht.below hw h0)
  replace x0 := (hw.cell (p := ⟨b, off, none⟩) l0).trans x0
  replace y0 := (hw.cell (p := ⟨b, off + 1, none⟩) l0).trans y0
  replace z0 := (hw.cell (p := ⟨b, off + 2, none⟩) l0).trans z0
  replace q0 := (hw.cell (p := ⟨b2, off2 + x * 2, none⟩) l1).trans q0
  replace r0 := (hw.cell (p := ⟨b2, off2 + y * 2, none⟩) l1).trans r0
  replace r1 := (hw.cell (p := ⟨b2, off2 + y * 2 + 1, none⟩) l1).trans r1
  replace s0 := (hw.cell (p := ⟨b2, off2 + z * 2, none⟩) l1).trans s0
  replace s1 := (hw.cell (p := ⟨b2, off2 + z * 2 + 1, none⟩) l1).trans s1
  replace kc2 := (hw.cell (p := ⟨g, 2, none⟩) l2).trans kc2
  clear hk krk hq hr hs hgx hgy hgz hw ht
  generalize hjj : joinedK (rb, ro) (sb, so) = jj
  obtain ⟨⟨jb, jo⟩, jk⟩ := jj
  have HJ := Lib.hid hjj
  clear hjj
  go_enter Tryd.func34, Tryd.ntmps34
  go_wp2_with fail
  generalize ((w.alloc (.cells (nodeV 23 nm vk vn vt sa sl sc' (some ⟨b, off, none⟩) 3 kc) 49)).alloc (.cells #[.int .i64 0, .bool false] 30)).alloc (.cells #[.int .i64 0, .bool false] 30) = w3 at *
  have n6 := cell_of_row w3 _ 6 _ _ _ g0
  simp only [nodeV, List.getElem?_toArray, List.getElem?_cons_zero, List.getElem?_cons_succ] at n6
  have h03 : 0 < w3.heap.size := by omega
  go_region_held3 (fun w' => w'.cell? ⟨w.heap.size, 6, none⟩ = some (.slice (some ⟨b, off, none⟩) 3 kc) ∧ w'.cell? ⟨g, 2, none⟩ = some (.slice (some ⟨b2, off2, none⟩) ks.length cc) ∧ w'.cell? ⟨b, off + 1, none⟩ = some (.int .i64 y) ∧ w'.cell? ⟨b, off + 2, none⟩ = some (.int .i64 z) ∧ w'.cell? ⟨b2, off2 + y * 2, none⟩ = some (.int .i64 rb) ∧ w'.cell? ⟨b2, off2 + y * 2 + 1, none⟩ = some (.bool ro) ∧ w'.cell? ⟨b2, off2 + z * 2, none⟩ = some (.int .i64 sb) ∧ w'.cell? ⟨b2, off2 + z * 2 + 1, none⟩ = some (.bool so))
    (first | exact ⟨n6, kc2, y0, z0, r0, r1, s0, s1⟩ | exact ⟨keepc hb n6, keepc hb kc2, keepc hb y0, keepc hb z0, keepc hb r0, keepc hb r1, keepc hb s0, keepc hb s1⟩ | exact ⟨keeps (keeps (keepc hb n6) (by omega)) (by omega), keeps (keeps (keepc hb kc2) (by omega)) (by omega), keeps (keeps (keepc hb y0) (by omega)) (by omega), keeps (keeps (keepc hb z0) (by omega)) (by omega), keeps (keeps (keepc hb r0) (by omega)) (by omega), keeps (keeps (keepc hb r1) (by omega)) (by omega), keeps (keeps (keepc hb s0) (by omega)) (by omega), keeps (keeps (keepc hb s1) (by omega)) (by omega)⟩)
    (first | (go_at_call 51; refine (joined_any w3.drew rb sb ro so HT.out h03).mono ?_; rintro e w4 ⟨he, hb⟩; rw [HJ.out] at he; unfold KindOut at he; subst he; have g2' := (hb.block (w.heap.size + 1 + 1) gs).trans g2; have k0 := cell_of_row w4 _ 0 _ _ _ g2'; have k1 := cell_of_row w4 _ 1 _ _ _ g2'; have kf := frozen_of_row w4 _ 0 _ _ g2'; have kf1 := frozen_of_row w4 _ 1 _ _ g2'; simp only [List.getElem?_toArray, List.getElem?_cons_zero, List.getElem?_cons_succ] at k0 k1))
  have G2 := set2 w4 _ _ _ (.int .i64 jb) (.bool jo) _ ((hb.block (w.heap.size + 1 + 1) gs).trans g2)
  have G1 := ((heap_setCell_other _ ⟨w.heap.size + 1 + 1, 1, none⟩ (w.heap.size + 1) (.bool jo) (by simp)).trans (heap_setCell_other w4 ⟨w.heap.size + 1 + 1, 0, none⟩ (w.heap.size + 1) (.int .i64 jb) (by simp))).trans ((hb.block (w.heap.size + 1) (show _ < w3.heap.size by omega)).trans g1)
  have N6 := keeps (o' := 1) (u := .bool jo) (keeps (o' := 0) (u := .int .i64 jb) (keepc hb n6) (show w.heap.size ≠ w.heap.size + 1 + 1 by omega)) (show w.heap.size ≠ w.heap.size + 1 + 1 by omega)
  have KC := keeps (o' := 1) (u := .bool jo) (keeps (o' := 0) (u := .int .i64 jb) (keepc hb kc2) (show g ≠ w.heap.size + 1 + 1 by omega)) (show g ≠ w.heap.size + 1 + 1 by omega)
  have X0 := keeps (o' := 1) (u := .bool jo) (keeps (o' := 0) (u := .int .i64 jb) (keepc hb x0) (show b ≠ w.heap.size + 1 + 1 by omega)) (show b ≠ w.heap.size + 1 + 1 by omega)
  have Q0 := keeps (o' := 1) (u := .bool jo) (keeps (o' := 0) (u := .int .i64 jb) (keepc hb q0) (show b2 ≠ w.heap.size + 1 + 1 by omega)) (show b2 ≠ w.heap.size + 1 + 1 by omega)
  have hs : w3.heap.size ≤ w4.heap.size := hb.size
  have HB5 := Lib.hid (below_set2 (HB.out.drew.trans (hb.mono HB.out.size)) (w.heap.size + 1 + 1) (by omega) (.int .i64 jb) (.bool jo))
  have hs5 : ((w4.setCell ⟨w.heap.size + 1 + 1, 0, none⟩ (.int .i64 jb)).setCell ⟨w.heap.size + 1 + 1, 1, none⟩ (.bool jo)).heap.size = w4.heap.size := by simp
  clear g0 g1 g2 g2' k0 k1 kf kf1 n6 kc2 x0 y0 z0 q0 r0 r1 s0 s1
  generalize (w4.setCell ⟨w.heap.size + 1 + 1, 0, none⟩ (.int .i64 jb)).setCell ⟨w.heap.size + 1 + 1, 1, none⟩ (.bool jo) = w5 at *
  have c1 := cell_of_row w5 _ 0 _ _ _ G1
  have c1' := cell_of_row w5 _ 1 _ _ _ G1
  have f1 := frozen_of_row w5 _ 0 _ _ G1
  have f1' := frozen_of_row w5 _ 1 _ _ G1
  have c2 := cell_of_row w5 _ 0 _ _ _ G2
  have c2' := cell_of_row w5 _ 1 _ _ _ G2
  simp only [List.getElem?_toArray, List.getElem?_cons_zero, List.getElem?_cons_succ] at c1 c1' c2 c2'
  clear hb G1 G2 hs hs5
  cases jk
  · go_wp2_with fail
    go_quiet (fail)
    go_wp2
    exact bodyPost_ret (v := .tuple #[.agg #[.int .i64 0, .bool false], .int .i64 100]) (by simp [results, Tryd.results34, go_sem, c1, c1']) rfl ⟨rfl, below_set2 (below_drewN HB5.out _) _ (by omega) _ _⟩
  · cases hqb : (qb == 2)
    · go_wp2_with fail
      go_quiet (fail)
      go_wp2
      exact bodyPost_ret (v := .tuple #[.agg #[.int .i64 0, .bool false], .int .i64 100]) (by simp [results, Tryd.results34, go_sem, c1, c1']) rfl ⟨by first | rfl | (rw [hqb]; rfl), below_set2 (below_drewN HB5.out _) _ (by omega) _ _⟩
    · go_wp2_with fail
      go_quiet (fail)
      go_wp2
      exact bodyPost_ret (v := .tuple #[.agg #[.int .i64 jb, .bool jo], .int .i64 0]) (by simp [results, Tryd.results34, go_sem, c1, c1']) rfl ⟨by first | rfl | (rw [hqb]; rfl), below_set2 (below_drewN HB5.out _) _ (by omega) _ _⟩
end Go.Proofs.YtakaoacialnjaaaDoor
