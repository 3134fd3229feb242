import Derived.Test.YtakaoacialnjaaaDoorK13
namespace Go.Proofs.YtakaoacialnjaaaDoor
open Go Go.RowKit
set_option linter.unusedVariables false
set_option maxRecDepth 100000 in
set_option maxHeartbeats 4000000 in
theorem look_two (w : World) (g : Nat) (sc : List Nm) (ks : List (Int × Bool)) (K : LK w g sc ks) (ht : NoTab w) (h0 : 0 < w.heap.size) (op : Int) (hop : ∀ k : Int, (k = 1 ∨ k = 30 ∨ k = 2 ∨ k = 25 ∨ k = 26 ∨ k = 3 ∨ k = 29 ∨ k = 4 ∨ k = 5 ∨ k = 24 ∨ k = 6 ∨ k = 7 ∨ k = 8 ∨ k = 27 ∨ k = 23) → op ≠ k)
    (nm : ByteArray) (vk vn : Int) (vt : ByteArray) (sa : Option Addr) (sl sc' : Nat) (ka : Option Addr) (kc : Nat) (x y : Nat) (hk : RS 1 IvN w ka 2 kc [x, y]) (hx : x < ks.length) (hy : y < ks.length) :
    Calls Tryd.prog 34 #[.pointer (some ⟨g, 0, none⟩), .agg (nodeV op nm vk vn vt sa sl sc' ka 2 kc)] w fun e w' =>
      LookOut e (finK (twoK op (ks.getD x (0, false)) (ks.getD y (0, false)))) ∧ Below w.heap.size w w' := by
  have hw := below3 w (nodeV op nm vk vn vt sa sl sc' ka 2 kc) #[.int .i64 0, .bool false] #[.int .i64 0, .bool false] 49 30 30
  obtain ⟨g0, g1, g2, gs⟩ := facts3 w (nodeV op nm vk vn vt sa sl sc' ka 2 kc) #[.int .i64 0, .bool false] #[.int .i64 0, .bool false] 49 30 30
  obtain ⟨b, off, _, rfl, -, -⟩ := hk.at (i := 0) (by omega)
  have x0 := hk.cell 0 x rfl 0 _ rfl
  have y0 := hk.cell 1 y rfl 0 _ rfl
  have krk := K.rk
  have kc2 := K.h2
  generalize K.kc = cc at *
  generalize K.ka = ca at *
  obtain ⟨b2, off2, q, rfl, hq, -⟩ := krk.at hx
  obtain ⟨_, _, r, -, hr, -⟩ := krk.at hy
  have q0 := krk.cell x q hq 0 _ rfl
  have q1 := krk.cell x q hq 1 _ rfl
  have kr1 := K.h1
  have krr := K.rr
  generalize K.ra = ra at *
  generalize K.rc = rc at *
  have r0 := krk.cell y r hr 0 _ rfl
  have r1 := krk.cell y r hr 1 _ rfl
  simp only [Nat.add_zero, Nat.mul_one] at x0 y0 q0 r0
  have hgx : ks.getD x (0, false) = q := by simp [List.getD_eq_getElem?_getD, hq]
  have hgy : ks.getD y (0, false) = r := by simp [List.getD_eq_getElem?_getD, hr]
  rw [hgx, hgy]
  obtain ⟨qb, qo⟩ := q
  obtain ⟨rb, ro⟩ := r
  simp only at q0 q1 r0 r1 ⊢
  have hxI : (x : Int) < (ks.length : Int) := by omega
  have hyI : (y : Int) < (ks.length : Int) := by omega
  have HB := Lib.hid hw
  have l0 : b < w.heap.size := block_lt_of_cell x0
  have l1 : b2 < w.heap.size := block_lt_of_cell q0
  have l2 : g < w.heap.size := block_lt_of_cell kc2
  have HT := Lib.hid (ht.below hw h0)
  replace x0 := (hw.cell (p := ⟨b, off, none⟩) l0).trans x0
  replace y0 := (hw.cell (p := ⟨b, off + 1, none⟩) l0).trans y0
  replace q0 := (hw.cell (p := ⟨b2, off2 + x * 2, none⟩) l1).trans q0
  replace r0 := (hw.cell (p := ⟨b2, off2 + y * 2, none⟩) l1).trans r0
  replace r1 := (hw.cell (p := ⟨b2, off2 + y * 2 + 1, none⟩) l1).trans r1
  replace q1 := (hw.cell (p := ⟨b2, off2 + x * 2 + 1, none⟩) l1).trans q1
  replace kr1 := (hw.cell (p := ⟨g, 1, none⟩) l2).trans kr1
  have HRR := Lib.hid (krr.below hw)
  replace kc2 := (hw.cell (p := ⟨g, 2, none⟩) l2).trans kc2
  clear hk krk hq hr hgx hgy hw ht krr
  generalize hjj : twoK op (qb, qo) (rb, ro) = jj
  obtain ⟨⟨jb, jo⟩, jk⟩ := jj
  have HJ := Lib.hid hjj
  clear hjj
  have f1 : (op == 1) = false := by simpa using hop 1 (by omega)
  have f30 : (op == 30) = false := by simpa using hop 30 (by omega)
  have f2 : (op == 2) = false := by simpa using hop 2 (by omega)
  have f25 : (op == 25) = false := by simpa using hop 25 (by omega)
  have f26 : (op == 26) = false := by simpa using hop 26 (by omega)
  have f3 : (op == 3) = false := by simpa using hop 3 (by omega)
  have f29 : (op == 29) = false := by simpa using hop 29 (by omega)
  have f4 : (op == 4) = false := by simpa using hop 4 (by omega)
  have f5 : (op == 5) = false := by simpa using hop 5 (by omega)
  have f24 : (op == 24) = false := by simpa using hop 24 (by omega)
  have f6 : (op == 6) = false := by simpa using hop 6 (by omega)
  have f7 : (op == 7) = false := by simpa using hop 7 (by omega)
  have f8 : (op == 8) = false := by simpa using hop 8 (by omega)
  have f27 : (op == 27) = false := by simpa using hop 27 (by omega)
  have f23 : (op == 23) = false := by simpa using hop 23 (by omega)
  clear hop
  go_enter Tryd.func34, Tryd.ntmps34
  go_wp2_with fail
  generalize ((w.alloc (.cells (nodeV op nm vk vn vt sa sl sc' (some ⟨b, off, none⟩) 2 kc) 49)).alloc (.cells #[.int .i64 0, .bool false] 30)).alloc (.cells #[.int .i64 0, .bool false] 30) = w3 at *
  have n0 := cell_of_row w3 _ 0 _ _ _ g0
  have n6 := cell_of_row w3 _ 6 _ _ _ g0
  simp only [nodeV, List.getElem?_toArray, List.getElem?_cons_zero, List.getElem?_cons_succ] at n0 n6
  have h03 : 0 < w3.heap.size := by omega
  go_region_held3 (fun w' => w'.cell? ⟨w.heap.size, 0, none⟩ = some (.int .i64 op) ∧ w'.cell? ⟨w.heap.size, 6, none⟩ = some (.slice (some ⟨b, off, none⟩) 2 kc) ∧ w'.cell? ⟨g, 1, none⟩ = some (.slice ra 22 rc) ∧ w'.cell? ⟨g, 2, none⟩ = some (.slice (some ⟨b2, off2, none⟩) ks.length cc) ∧ w'.cell? ⟨b, off, none⟩ = some (.int .i64 x) ∧ w'.cell? ⟨b, off + 1, none⟩ = some (.int .i64 y) ∧ w'.cell? ⟨b2, off2 + x * 2, none⟩ = some (.int .i64 qb) ∧ w'.cell? ⟨b2, off2 + x * 2 + 1, none⟩ = some (.bool qo) ∧ w'.cell? ⟨b2, off2 + y * 2, none⟩ = some (.int .i64 rb) ∧ w'.cell? ⟨b2, off2 + y * 2 + 1, none⟩ = some (.bool ro))
    (first | exact ⟨n0, n6, kr1, kc2, x0, y0, q0, q1, r0, r1⟩ | exact ⟨keepc hb n0, keepc hb n6, keepc hb kr1, keepc hb kc2, keepc hb x0, keepc hb y0, keepc hb q0, keepc hb q1, keepc hb r0, keepc hb r1⟩ | exact ⟨keeps (keeps (keepc hb n0) (by omega)) (by omega), keeps (keeps (keepc hb n6) (by omega)) (by omega), keeps (keeps (keepc hb kr1) (by omega)) (by omega), keeps (keeps (keepc hb kc2) (by omega)) (by omega), keeps (keeps (keepc hb x0) (by omega)) (by omega), keeps (keeps (keepc hb y0) (by omega)) (by omega), keeps (keeps (keepc hb q0) (by omega)) (by omega), keeps (keeps (keepc hb q1) (by omega)) (by omega), keeps (keeps (keepc hb r0) (by omega)) (by omega), keeps (keeps (keepc hb r1) (by omega)) (by omega)⟩)
    (first | (go_at_call 52; refine (two_any w3.drew op qb rb qo ro HT.out h03 ra rc HRR.out).mono ?_; rintro e w4 ⟨he, hb⟩; rw [HJ.out] at he; unfold KindOut at he; subst he; have g2' := (hb.block (w.heap.size + 1 + 1) gs).trans g2; have k0 := cell_of_row w4 _ 0 _ _ _ g2'; have k1 := cell_of_row w4 _ 1 _ _ _ g2'; have kf := frozen_of_row w4 _ 0 _ _ g2'; have kf1 := frozen_of_row w4 _ 1 _ _ g2'; simp only [List.getElem?_toArray, List.getElem?_cons_zero, List.getElem?_cons_succ] at k0 k1))
  have G2 := set2 w4 _ _ _ (.int .i64 jb) (.bool jo) _ ((hb.block (w.heap.size + 1 + 1) gs).trans g2)
  have G1 := ((heap_setCell_other _ ⟨w.heap.size + 1 + 1, 1, none⟩ (w.heap.size + 1) (.bool jo) (by simp)).trans (heap_setCell_other w4 ⟨w.heap.size + 1 + 1, 0, none⟩ (w.heap.size + 1) (.int .i64 jb) (by simp))).trans ((hb.block (w.heap.size + 1) (show _ < w3.heap.size by omega)).trans g1)
  have hs : w3.heap.size ≤ w4.heap.size := hb.size
  have HB5 := Lib.hid (below_set2 (HB.out.drew.trans (hb.mono HB.out.size)) (w.heap.size + 1 + 1) (by omega) (.int .i64 jb) (.bool jo))
  have hs5 : ((w4.setCell ⟨w.heap.size + 1 + 1, 0, none⟩ (.int .i64 jb)).setCell ⟨w.heap.size + 1 + 1, 1, none⟩ (.bool jo)).heap.size = w4.heap.size := by simp
  clear g0 g1 g2 g2' k0 k1 kf kf1 n0 n6 kc2 kr1 x0 y0 q0 q1 r0 r1
  generalize (w4.setCell ⟨w.heap.size + 1 + 1, 0, none⟩ (.int .i64 jb)).setCell ⟨w.heap.size + 1 + 1, 1, none⟩ (.bool jo) = w5 at *
  have c1 := cell_of_row w5 _ 0 _ _ _ G1
  have c1' := cell_of_row w5 _ 1 _ _ _ G1
  have f1 := frozen_of_row w5 _ 0 _ _ G1
  have f1' := frozen_of_row w5 _ 1 _ _ G1
  have c2 := cell_of_row w5 _ 0 _ _ _ G2
  have c2' := cell_of_row w5 _ 1 _ _ _ G2
  simp only [List.getElem?_toArray, List.getElem?_cons_zero, List.getElem?_cons_succ] at c1 c1' c2 c2'
  clear hb G1 G2 hs hs5
  cases jk
  · go_wp2_with fail
    exact bodyPost_ret (v := .tuple #[.agg #[.int .i64 0, .bool false], .int .i64 100]) (by simp [results, Tryd.results34, go_sem, c1, c1']) rfl ⟨rfl, below_set2 HB5.out _ (by omega) _ _⟩
  · go_wp2_with fail
    exact bodyPost_ret (v := .tuple #[.agg #[.int .i64 jb, .bool jo], .int .i64 0]) (by simp [results, Tryd.results34, go_sem, c1, c1']) rfl ⟨rfl, below_set2 HB5.out _ (by omega) _ _⟩
end Go.Proofs.YtakaoacialnjaaaDoor
