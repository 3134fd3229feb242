import Derived.Test.YtakaoacialnjaaaDoorK11
namespace Go.Proofs.YtakaoacialnjaaaDoor
open Go Go.RowKit
set_option linter.unusedVariables false
theorem keepc {w3 w4 : World} (hb : Below w3.drew.heap.size w3.drew w4) {b o : Nat} {v : Value} (h : w3.cell? ⟨b, o, none⟩ = some v) : w4.cell? ⟨b, o, none⟩ = some v :=
  (hb.cell (p := ⟨b, o, none⟩) (block_lt_of_cell (w := w3) h)).trans h
theorem keeps {w : World} {b o B o' : Nat} {v u : Value} (h : w.cell? ⟨b, o, none⟩ = some v) (hne : b ≠ B) : (w.setCell ⟨B, o', none⟩ u).cell? ⟨b, o, none⟩ = some v :=
  (World.cell?_of_block (heap_setCell_other w ⟨B, o', none⟩ b u hne)).trans h
set_option maxRecDepth 100000 in
set_option maxHeartbeats 4000000 in
theorem look_one7 (w : World) (g : Nat) (sc : List Nm) (ks : List (Int × Bool)) (K : LK w g sc ks)
    (nm : ByteArray) (vk vn : Int) (vt : ByteArray) (sa : Option Addr) (sl sc' : Nat) (ka : Option Addr) (kc : Nat) (x : Nat) (hk : RS 1 IvN w ka 1 kc [x]) (hx : x < ks.length) :
    Calls Tryd.prog 34 #[.pointer (some ⟨g, 0, none⟩), .agg (nodeV 7 nm vk vn vt sa sl sc' ka 1 kc)] w fun e w' => LookOut e (finK (((oneK 7 (ks.getD x (0, false)).1).1, false), (oneK 7 (ks.getD x (0, false)).1).2)) ∧ Below w.heap.size w w' := by
  have hw := below3 w (nodeV 7 nm vk vn vt sa sl sc' ka 1 kc) #[.int .i64 0, .bool false] #[.int .i64 0, .bool false] 49 30 30
  obtain ⟨g0, g1, g2, gs⟩ := facts3 w (nodeV 7 nm vk vn vt sa sl sc' ka 1 kc) #[.int .i64 0, .bool false] #[.int .i64 0, .bool false] 49 30 30
  obtain ⟨b, off, y, rfl, hy, hcl⟩ := hk.at (i := 0) (by omega)
  obtain rfl : x = y := by simpa using hy
  obtain ⟨b2, off2, q, hka, hq, hcl2⟩ := K.rk.at hx
  have x0 := hcl 0 _ rfl
  have q0 := hcl2 0 _ rfl
  have q1 := hcl2 1 _ rfl
  have kc2 := K.h2
  rw [hka] at kc2
  generalize K.kc = cc at *
  simp only [Nat.add_zero, Nat.zero_mul] at x0 q0
  have hgx : ks.getD x (0, false) = q := by simp [List.getD_eq_getElem?_getD, hq]
  rw [hgx]
  obtain ⟨qb, qo⟩ := q
  simp only at q0 q1 ⊢
  have hxI : (x : Int) < (ks.length : Int) := by omega
  have HB := Lib.hid hw
  have l0 : b < w.heap.size := block_lt_of_cell x0
  have l1 : b2 < w.heap.size := block_lt_of_cell q0
  have l2 : g < w.heap.size := block_lt_of_cell kc2
  replace x0 := (hw.cell (p := ⟨b, off, none⟩) l0).trans x0
  replace q0 := (hw.cell (p := ⟨b2, off2 + x * 2, none⟩) l1).trans q0
  replace q1 := (hw.cell (p := ⟨b2, off2 + x * 2 + 1, none⟩) l1).trans q1
  replace kc2 := (hw.cell (p := ⟨g, 2, none⟩) l2).trans kc2
  clear hk hcl hcl2 hy hka hq hgx hw
  generalize hr : oneK 7 qb = r
  obtain ⟨rb, rk⟩ := r
  have HRK := Lib.hid hr
  clear hr
  go_enter Tryd.func34, Tryd.ntmps34
  go_wp2_with fail
  generalize ((w.alloc (.cells (nodeV 7 nm vk vn vt sa sl sc' (some ⟨b, off, none⟩) 1 kc) 49)).alloc (.cells #[.int .i64 0, .bool false] 30)).alloc (.cells #[.int .i64 0, .bool false] 30) = w3 at *
  have n0 := cell_of_row w3 _ 0 _ _ _ g0
  have n6 := cell_of_row w3 _ 6 _ _ _ g0
  simp only [nodeV, List.getElem?_toArray, List.getElem?_cons_zero, List.getElem?_cons_succ] at n0 n6
  go_region_held3 (fun w' => w'.cell? ⟨w.heap.size, 0, none⟩ = some (.int .i64 7) ∧ w'.cell? ⟨w.heap.size, 6, none⟩ = some (.slice (some ⟨b, off, none⟩) 1 kc) ∧ w'.cell? ⟨g, 2, none⟩ = some (.slice (some ⟨b2, off2, none⟩) ks.length cc) ∧ w'.cell? ⟨b, off, none⟩ = some (.int .i64 x) ∧ w'.cell? ⟨b2, off2 + x * 2, none⟩ = some (.int .i64 qb) ∧ w'.cell? ⟨b2, off2 + x * 2 + 1, none⟩ = some (.bool qo))
    (first | exact ⟨n0, n6, kc2, x0, q0, q1⟩ | exact ⟨keepc hb n0, keepc hb n6, keepc hb kc2, keepc hb x0, keepc hb q0, keepc hb q1⟩ | exact ⟨keeps (keepc hb n0) (by omega), keeps (keepc hb n6) (by omega), keeps (keepc hb kc2) (by omega), keeps (keepc hb x0) (by omega), keeps (keepc hb q0) (by omega), keeps (keepc hb q1) (by omega)⟩)
    (first | (go_at_call 50; refine (one_any w3.drew 7 qb qo).mono ?_; rintro e w4 ⟨he, hb⟩; rw [HRK.out] at he; unfold OneOut at he; subst he; have g2' := (hb.block (w.heap.size + 1 + 1) gs).trans g2; have k0 := cell_of_row w4 _ 0 _ _ _ g2'; have k1 := cell_of_row w4 _ 1 _ _ _ g2'; have kf := frozen_of_row w4 _ 0 _ _ g2'; simp only [List.getElem?_toArray, List.getElem?_cons_zero, List.getElem?_cons_succ] at k0 k1))
  have g1' := (hb.block (w.heap.size + 1) (show _ < w3.heap.size by omega)).trans g1
  have c1 := cell_of_row w4 _ 0 _ _ _ g1'
  have c1' := cell_of_row w4 _ 1 _ _ _ g1'
  have f1 := frozen_of_row w4 _ 0 _ _ g1'
  have f1' := frozen_of_row w4 _ 1 _ _ g1'
  simp only [List.getElem?_toArray, List.getElem?_cons_zero, List.getElem?_cons_succ] at c1 c1'
  have hs : w3.heap.size ≤ w4.heap.size := hb.size
  have HB4 := Lib.hid ((HB.out.drew.trans (hb.mono HB.out.size)))
  have z1 : w.heap.size + 1 < w4.heap.size := by omega
  have z2 : w.heap.size + 1 + 1 < w4.heap.size := by omega
  clear g0 g1 g2 g1' hb
  cases rk
  · go_wp2_with fail
    exact bodyPost_ret (v := .tuple #[.agg #[.int .i64 0, .bool false], .int .i64 100]) (by simp [results, Tryd.results34, go_sem, c1, c1']) rfl ⟨rfl, below_set2 (HB4.out.setCell (p := ⟨w.heap.size + 1 + 1, 0, none⟩) (by show w.heap.size ≤ w.heap.size + 1 + 1; omega) _) _ (by omega) _ _⟩
  · go_wp2_with fail
    exact bodyPost_ret (v := .tuple #[.agg #[.int .i64 rb, .bool false], .int .i64 0]) (by simp [results, Tryd.results34, go_sem, c1, c1']) rfl ⟨rfl, below_set2 (HB4.out.setCell (p := ⟨w.heap.size + 1 + 1, 0, none⟩) (by show w.heap.size ≤ w.heap.size + 1 + 1; omega) _) _ (by omega) _ _⟩
set_option maxRecDepth 100000 in
set_option maxHeartbeats 4000000 in
theorem look_one8 (w : World) (g : Nat) (sc : List Nm) (ks : List (Int × Bool)) (K : LK w g sc ks)
    (nm : ByteArray) (vk vn : Int) (vt : ByteArray) (sa : Option Addr) (sl sc' : Nat) (ka : Option Addr) (kc : Nat) (x : Nat) (hk : RS 1 IvN w ka 1 kc [x]) (hx : x < ks.length) :
    Calls Tryd.prog 34 #[.pointer (some ⟨g, 0, none⟩), .agg (nodeV 8 nm vk vn vt sa sl sc' ka 1 kc)] w fun e w' => LookOut e (finK (((oneK 8 (ks.getD x (0, false)).1).1, false), (oneK 8 (ks.getD x (0, false)).1).2)) ∧ Below w.heap.size w w' := by
  have hw := below3 w (nodeV 8 nm vk vn vt sa sl sc' ka 1 kc) #[.int .i64 0, .bool false] #[.int .i64 0, .bool false] 49 30 30
  obtain ⟨g0, g1, g2, gs⟩ := facts3 w (nodeV 8 nm vk vn vt sa sl sc' ka 1 kc) #[.int .i64 0, .bool false] #[.int .i64 0, .bool false] 49 30 30
  obtain ⟨b, off, y, rfl, hy, hcl⟩ := hk.at (i := 0) (by omega)
  obtain rfl : x = y := by simpa using hy
  obtain ⟨b2, off2, q, hka, hq, hcl2⟩ := K.rk.at hx
  have x0 := hcl 0 _ rfl
  have q0 := hcl2 0 _ rfl
  have q1 := hcl2 1 _ rfl
  have kc2 := K.h2
  rw [hka] at kc2
  generalize K.kc = cc at *
  simp only [Nat.add_zero, Nat.zero_mul] at x0 q0
  have hgx : ks.getD x (0, false) = q := by simp [List.getD_eq_getElem?_getD, hq]
  rw [hgx]
  obtain ⟨qb, qo⟩ := q
  simp only at q0 q1 ⊢
  have hxI : (x : Int) < (ks.length : Int) := by omega
  have HB := Lib.hid hw
  have l0 : b < w.heap.size := block_lt_of_cell x0
  have l1 : b2 < w.heap.size := block_lt_of_cell q0
  have l2 : g < w.heap.size := block_lt_of_cell kc2
  replace x0 := (hw.cell (p := ⟨b, off, none⟩) l0).trans x0
  replace q0 := (hw.cell (p := ⟨b2, off2 + x * 2, none⟩) l1).trans q0
  replace q1 := (hw.cell (p := ⟨b2, off2 + x * 2 + 1, none⟩) l1).trans q1
  replace kc2 := (hw.cell (p := ⟨g, 2, none⟩) l2).trans kc2
  clear hk hcl hcl2 hy hka hq hgx hw
  generalize hr : oneK 8 qb = r
  obtain ⟨rb, rk⟩ := r
  have HRK := Lib.hid hr
  clear hr
  go_enter Tryd.func34, Tryd.ntmps34
  go_wp2_with fail
  generalize ((w.alloc (.cells (nodeV 8 nm vk vn vt sa sl sc' (some ⟨b, off, none⟩) 1 kc) 49)).alloc (.cells #[.int .i64 0, .bool false] 30)).alloc (.cells #[.int .i64 0, .bool false] 30) = w3 at *
  have n0 := cell_of_row w3 _ 0 _ _ _ g0
  have n6 := cell_of_row w3 _ 6 _ _ _ g0
  simp only [nodeV, List.getElem?_toArray, List.getElem?_cons_zero, List.getElem?_cons_succ] at n0 n6
  go_region_held3 (fun w' => w'.cell? ⟨w.heap.size, 0, none⟩ = some (.int .i64 8) ∧ w'.cell? ⟨w.heap.size, 6, none⟩ = some (.slice (some ⟨b, off, none⟩) 1 kc) ∧ w'.cell? ⟨g, 2, none⟩ = some (.slice (some ⟨b2, off2, none⟩) ks.length cc) ∧ w'.cell? ⟨b, off, none⟩ = some (.int .i64 x) ∧ w'.cell? ⟨b2, off2 + x * 2, none⟩ = some (.int .i64 qb) ∧ w'.cell? ⟨b2, off2 + x * 2 + 1, none⟩ = some (.bool qo))
    (first | exact ⟨n0, n6, kc2, x0, q0, q1⟩ | exact ⟨keepc hb n0, keepc hb n6, keepc hb kc2, keepc hb x0, keepc hb q0, keepc hb q1⟩ | exact ⟨keeps (keepc hb n0) (by omega), keeps (keepc hb n6) (by omega), keeps (keepc hb kc2) (by omega), keeps (keepc hb x0) (by omega), keeps (keepc hb q0) (by omega), keeps (keepc hb q1) (by omega)⟩)
    (first | (go_at_call 50; refine (one_any w3.drew 8 qb qo).mono ?_; rintro e w4 ⟨he, hb⟩; rw [HRK.out] at he; unfold OneOut at he; subst he; have g2' := (hb.block (w.heap.size + 1 + 1) gs).trans g2; have k0 := cell_of_row w4 _ 0 _ _ _ g2'; have k1 := cell_of_row w4 _ 1 _ _ _ g2'; have kf := frozen_of_row w4 _ 0 _ _ g2'; simp only [List.getElem?_toArray, List.getElem?_cons_zero, List.getElem?_cons_succ] at k0 k1))
  have g1' := (hb.block (w.heap.size + 1) (show _ < w3.heap.size by omega)).trans g1
  have c1 := cell_of_row w4 _ 0 _ _ _ g1'
  have c1' := cell_of_row w4 _ 1 _ _ _ g1'
  have f1 := frozen_of_row w4 _ 0 _ _ g1'
  have f1' := frozen_of_row w4 _ 1 _ _ g1'
  simp only [List.getElem?_toArray, List.getElem?_cons_zero, List.getElem?_cons_succ] at c1 c1'
  have hs : w3.heap.size ≤ w4.heap.size := hb.size
  have HB4 := Lib.hid ((HB.out.drew.trans (hb.mono HB.out.size)))
  have z1 : w.heap.size + 1 < w4.heap.size := by omega
  have z2 : w.heap.size + 1 + 1 < w4.heap.size := by omega
  clear g0 g1 g2 g1' hb
  cases rk
  · go_wp2_with fail
    exact bodyPost_ret (v := .tuple #[.agg #[.int .i64 0, .bool false], .int .i64 100]) (by simp [results, Tryd.results34, go_sem, c1, c1']) rfl ⟨rfl, below_set2 (HB4.out.setCell (p := ⟨w.heap.size + 1 + 1, 0, none⟩) (by show w.heap.size ≤ w.heap.size + 1 + 1; omega) _) _ (by omega) _ _⟩
  · go_wp2_with fail
    exact bodyPost_ret (v := .tuple #[.agg #[.int .i64 rb, .bool false], .int .i64 0]) (by simp [results, Tryd.results34, go_sem, c1, c1']) rfl ⟨rfl, below_set2 (HB4.out.setCell (p := ⟨w.heap.size + 1 + 1, 0, none⟩) (by show w.heap.size ≤ w.heap.size + 1 + 1; omega) _) _ (by omega) _ _⟩
set_option maxRecDepth 100000 in
set_option maxHeartbeats 4000000 in
theorem look_one27 (w : World) (g : Nat) (sc : List Nm) (ks : List (Int × Bool)) (K : LK w g sc ks)
    (nm : ByteArray) (vk vn : Int) (vt : ByteArray) (sa : Option Addr) (sl sc' : Nat) (ka : Option Addr) (kc : Nat) (x : Nat) (hk : RS 1 IvN w ka 1 kc [x]) (hx : x < ks.length) :
    Calls Tryd.prog 34 #[.pointer (some ⟨g, 0, none⟩), .agg (nodeV 27 nm vk vn vt sa sl sc' ka 1 kc)] w fun e w' => LookOut e (finK (((oneK 27 (ks.getD x (0, false)).1).1, false), (oneK 27 (ks.getD x (0, false)).1).2)) ∧ Below w.heap.size w w' := by
  have hw := below3 w (nodeV 27 nm vk vn vt sa sl sc' ka 1 kc) #[.int .i64 0, .bool false] #[.int .i64 0, .bool false] 49 30 30
  obtain ⟨g0, g1, g2, gs⟩ := facts3 w (nodeV 27 nm vk vn vt sa sl sc' ka 1 kc) #[.int .i64 0, .bool false] #[.int .i64 0, .bool false] 49 30 30
  obtain ⟨b, off, y, rfl, hy, hcl⟩ := hk.at (i := 0) (by omega)
  obtain rfl : x = y := by simpa using hy
  obtain ⟨b2, off2, q, hka, hq, hcl2⟩ := K.rk.at hx
  have x0 := hcl 0 _ rfl
  have q0 := hcl2 0 _ rfl
  have q1 := hcl2 1 _ rfl
  have kc2 := K.h2
  rw [hka] at kc2
  generalize K.kc = cc at *
  simp only [Nat.add_zero, Nat.zero_mul] at x0 q0
  have hgx : ks.getD x (0, false) = q := by simp [List.getD_eq_getElem?_getD, hq]
  rw [hgx]
  obtain ⟨qb, qo⟩ := q
  simp only at q0 q1 ⊢
  have hxI : (x : Int) < (ks.length : Int) := by omega
  have HB := Lib.hid hw
  have l0 : b < w.heap.size := block_lt_of_cell x0
  have l1 : b2 < w.heap.size := block_lt_of_cell q0
  have l2 : g < w.heap.size := block_lt_of_cell kc2
  replace x0 := (hw.cell (p := ⟨b, off, none⟩) l0).trans x0
  replace q0 := (hw.cell (p := ⟨b2, off2 + x * 2, none⟩) l1).trans q0
  replace q1 := (hw.cell (p := ⟨b2, off2 + x * 2 + 1, none⟩) l1).trans q1
  replace kc2 := (hw.cell (p := ⟨g, 2, none⟩) l2).trans kc2
  clear hk hcl hcl2 hy hka hq hgx hw
  generalize hr : oneK 27 qb = r
  obtain ⟨rb, rk⟩ := r
  have HRK := Lib.hid hr
  clear hr
  go_enter Tryd.func34, Tryd.ntmps34
  go_wp2_with fail
  generalize ((w.alloc (.cells (nodeV 27 nm vk vn vt sa sl sc' (some ⟨b, off, none⟩) 1 kc) 49)).alloc (.cells #[.int .i64 0, .bool false] 30)).alloc (.cells #[.int .i64 0, .bool false] 30) = w3 at *
  have n0 := cell_of_row w3 _ 0 _ _ _ g0
  have n6 := cell_of_row w3 _ 6 _ _ _ g0
  simp only [nodeV, List.getElem?_toArray, List.getElem?_cons_zero, List.getElem?_cons_succ] at n0 n6
  go_region_held3 (fun w' => w'.cell? ⟨w.heap.size, 0, none⟩ = some (.int .i64 27) ∧ w'.cell? ⟨w.heap.size, 6, none⟩ = some (.slice (some ⟨b, off, none⟩) 1 kc) ∧ w'.cell? ⟨g, 2, none⟩ = some (.slice (some ⟨b2, off2, none⟩) ks.length cc) ∧ w'.cell? ⟨b, off, none⟩ = some (.int .i64 x) ∧ w'.cell? ⟨b2, off2 + x * 2, none⟩ = some (.int .i64 qb) ∧ w'.cell? ⟨b2, off2 + x * 2 + 1, none⟩ = some (.bool qo))
    (first | exact ⟨n0, n6, kc2, x0, q0, q1⟩ | exact ⟨keepc hb n0, keepc hb n6, keepc hb kc2, keepc hb x0, keepc hb q0, keepc hb q1⟩ | exact ⟨keeps (keepc hb n0) (by omega), keeps (keepc hb n6) (by omega), keeps (keepc hb kc2) (by omega), keeps (keepc hb x0) (by omega), keeps (keepc hb q0) (by omega), keeps (keepc hb q1) (by omega)⟩)
    (first | (go_at_call 50; refine (one_any w3.drew 27 qb qo).mono ?_; rintro e w4 ⟨he, hb⟩; rw [HRK.out] at he; unfold OneOut at he; subst he; have g2' := (hb.block (w.heap.size + 1 + 1) gs).trans g2; have k0 := cell_of_row w4 _ 0 _ _ _ g2'; have k1 := cell_of_row w4 _ 1 _ _ _ g2'; have kf := frozen_of_row w4 _ 0 _ _ g2'; simp only [List.getElem?_toArray, List.getElem?_cons_zero, List.getElem?_cons_succ] at k0 k1))
  have g1' := (hb.block (w.heap.size + 1) (show _ < w3.heap.size by omega)).trans g1
  have c1 := cell_of_row w4 _ 0 _ _ _ g1'
  have c1' := cell_of_row w4 _ 1 _ _ _ g1'
  have f1 := frozen_of_row w4 _ 0 _ _ g1'
  have f1' := frozen_of_row w4 _ 1 _ _ g1'
  simp only [List.getElem?_toArray, List.getElem?_cons_zero, List.getElem?_cons_succ] at c1 c1'
  have hs : w3.heap.size ≤ w4.heap.size := hb.size
  have HB4 := Lib.hid ((HB.out.drew.trans (hb.mono HB.out.size)))
  have z1 : w.heap.size + 1 < w4.heap.size := by omega
  have z2 : w.heap.size + 1 + 1 < w4.heap.size := by omega
  clear g0 g1 g2 g1' hb
  cases rk
  · go_wp2_with fail
    exact bodyPost_ret (v := .tuple #[.agg #[.int .i64 0, .bool false], .int .i64 100]) (by simp [results, Tryd.results34, go_sem, c1, c1']) rfl ⟨rfl, below_set2 (HB4.out.setCell (p := ⟨w.heap.size + 1 + 1, 0, none⟩) (by show w.heap.size ≤ w.heap.size + 1 + 1; omega) _) _ (by omega) _ _⟩
  · go_wp2_with fail
    exact bodyPost_ret (v := .tuple #[.agg #[.int .i64 rb, .bool false], .int .i64 0]) (by simp [results, Tryd.results34, go_sem, c1, c1']) rfl ⟨rfl, below_set2 (HB4.out.setCell (p := ⟨w.heap.size + 1 + 1, 0, none⟩) (by show w.heap.size ≤ w.heap.size + 1 + 1; omega) _) _ (by omega) _ _⟩
end Go.Proofs.YtakaoacialnjaaaDoor
