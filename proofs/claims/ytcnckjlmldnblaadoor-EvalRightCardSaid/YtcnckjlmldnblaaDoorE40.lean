import Derived.Test.YtcnckjlmldnblaaDoorE33
import Derived.Test.YtcnckjlmldnblaaDoorR1
import Derived.Handy
import Derived.OrdersHeld
import Derived.Deep.RegionHeld3
import Derived.IntWalk
namespace Go.Proofs.YtcnckjlmldnblaaDoor
open Go Go.RowKit
set_option linter.unusedVariables false
set_option linter.unusedSimpArgs false
set_option maxRecDepth 100000 in
set_option maxHeartbeats 16000000 in
theorem evalright_walk (w : World) (x : Vl) (a : Option Addr) (l c : Nat) (hx : RS 1 Sv w a l c x.ss) (y : Vl) (b : Option Addr) (m d : Nat) (hy : RS 1 Sv w b m d y.ss) (hl : l ≤ 8796093022208) (hm : m ≤ 8796093022208) (ht : ResTab w 1) (h1 : 1 < w.heap.size) :
    Calls Tryd.prog 3 #[VA x a l c, VA y b m d] w fun e w' => e = .returned (.bool true) ∧ Below w.heap.size w w' := by
  obtain ⟨w3, hw3, g0, g1, g2, hb3, z3⟩ := boxes3 w (boxS x a l c) (boxS y b m d) (boxS x a l c)
  have Z3 : w.heap.size + 2 < w3.heap.size := by omega
  have HL := Lib.hid hx.1
  have HM := Lib.hid hy.1
  have HX := Lib.hid hx
  have HY := Lib.hid hy
  have HT := Lib.hid ht
  have H1 := Lib.hid h1
  have HB3 := Lib.hid hb3
  have HX3 := Lib.hid (hx.below hb3)
  have G0 := Lib.hid g0
  have G1 := Lib.hid g1
  have Gw3 := Lib.hid g2
  obtain ⟨-, -, -, s2, -⟩ := box4 g0
  have l0 : (0 : Int) ≤ (l : Int) := by omega
  have l1 : (l : Int) ≤ (l : Int) + 80 := by omega
  have m0 : (0 : Int) ≤ (m : Int) := by omega
  have m1 : (m : Int) ≤ (m : Int) + 80 := by omega
  have l2 : (0 : Int) ≤ (l : Int) + 80 := by omega
  have m2 : (0 : Int) ≤ (m : Int) + 80 := by omega
  clear hx hy ht h1 g0 g1 g2 hb3 z3
  go_enter Tryd.func3, Tryd.ntmps3
  go_upto_region 2 with (fail)
  rw [← hw3]
  clear hw3
  refine wp_region_held_drew (S := (fun w' => w'.cell? ⟨w.heap.size, 3, none⟩ = some (.slice a l c))) (by kernel_rfl) s2 (fun hHeld => ?_)
  refine wpAnyH_take (i := 0) (oi := _) (v := ?_) rfl (by kernel_rfl) (by kernel_rfl) (by kernel_rfl) (fun _ _ _ h => h) (Or.inl ⟨by rfl, ?_⟩) (by assumption) ?_
  rotate_left
  · intro w hSw
    (try dsimp only at hSw)
    go_simp
    all_goals (first | done | with_reducible rfl)
  (try simp only [Act.put, List.setIfInBounds_toArray, List.set_cons_zero, List.set_cons_succ, List.getElem_toArray, List.getElem_cons_succ, List.getElem_cons_zero])
  refine wpAnyH_take (i := 1) (oi := _) (v := ?_) rfl (by kernel_rfl) (by kernel_rfl) (by kernel_rfl) (fun _ _ _ h => h) (Or.inl ⟨by rfl, ?_⟩) (by assumption) ?_
  rotate_left
  · intro w hSw
    (try dsimp only at hSw)
    go_simp
    all_goals (first | done | with_reducible rfl)
  (try simp only [Act.put, List.setIfInBounds_toArray, List.set_cons_zero, List.set_cons_succ, List.getElem_toArray, List.getElem_cons_succ, List.getElem_cons_zero])
  refine wpAnyH_take (i := 3) (oi := _) (v := ?_) rfl (by kernel_rfl) (by kernel_rfl) (by kernel_rfl) (fun _ _ _ h => h) (Or.inl ⟨by rfl, ?_⟩) (by assumption) ?_
  rotate_left
  · intro w hSw
    (try dsimp only at hSw)
    go_simp
    all_goals (first | done | with_reducible rfl)
  (try simp only [Act.put, List.setIfInBounds_toArray, List.set_cons_zero, List.set_cons_succ, List.getElem_toArray, List.getElem_cons_succ, List.getElem_cons_zero])
  refine wpAnyH_take (i := 4) (oi := _) (v := ?_) rfl (by kernel_rfl) (by kernel_rfl) (by kernel_rfl) (fun _ _ _ h => h) (Or.inl ⟨by rfl, ?_⟩) (by assumption) ?_
  rotate_left
  · intro w hSw
    (try dsimp only at hSw)
    go_simp
    all_goals (first | done | with_reducible rfl)
  (try simp only [Act.put, List.setIfInBounds_toArray, List.set_cons_zero, List.set_cons_succ, List.getElem_toArray, List.getElem_cons_succ, List.getElem_cons_zero])
  refine wpAnyH_take (i := 5) (oi := _) (v := ?_) rfl (by kernel_rfl) (by kernel_rfl) (by kernel_rfl) (fun _ _ _ h => h) (Or.inl ⟨by rfl, ?_⟩) (by assumption) ?_
  rotate_left
  · intro w hSw
    (try dsimp only at hSw)
    go_simp
    all_goals (first | done | with_reducible rfl)
  (try simp only [Act.put, List.setIfInBounds_toArray, List.set_cons_zero, List.set_cons_succ, List.getElem_toArray, List.getElem_cons_succ, List.getElem_cons_zero])
  refine wpAnyH_ready (rs := [2]) (by kernel_rfl) (by simp) ?_
  refine AllReadyH.cons (o := _) rfl (fun K hK => ?_) AllReadyH.nil
  go_simp
  refine (roomy_L w3.drew a l c x.ss { data := #[109, 97, 114, 107] } (HX3.out.below (Below.refl _ _).drew) (by omega)).mono ?_
  rintro e w4 ⟨g, rfl, ho, hb⟩
  have zw4 : w3.heap.size ≤ w4.heap.size := hb.size
  have HOw4 := Lib.hid ho
  have HBBw4 := Lib.hid (show Below w3.heap.size w3 w4 from (Below.refl _ _).drew.trans hb)
  have HTw4 := Lib.hid ((HBBw4.out.block (w.heap.size + 2) (by omega)).trans Gw3.out)
  refine hK.out _ _ (keepb hb hHeld) (fun hHeld => ?_)
  clear hK K
  (try simp only [Act.put, List.setIfInBounds_toArray, List.set_cons_zero, List.set_cons_succ, List.getElem_toArray, List.getElem_cons_succ, List.getElem_cons_zero])
  obtain ⟨c0, c1, c2, c3, f0, f1, f2, f3⟩ := box4 HTw4.out
  clear ho hb
  refine wpAnyH_take (i := 6) (oi := _) (v := ?_) rfl (by kernel_rfl) (by kernel_rfl) (by kernel_rfl) (fun _ _ _ h => h) (Or.inl ⟨by rfl, ?_⟩) (by assumption) ?_
  rotate_left
  · intro w hSw
    (try dsimp only at hSw)
    go_simp
    all_goals (first | done | with_reducible rfl)
  (try simp only [Act.put, List.setIfInBounds_toArray, List.set_cons_zero, List.set_cons_succ, List.getElem_toArray, List.getElem_cons_succ, List.getElem_cons_zero])
  refine wpAnyH_take (i := 7) (oi := _) (v := ?_) rfl (by kernel_rfl) (by kernel_rfl) (by kernel_rfl) (fun _ _ _ h => h) (Or.inl ⟨by rfl, ?_⟩) (by assumption) ?_
  rotate_left
  · intro w hSw
    (try dsimp only at hSw)
    go_simp
    all_goals (first | done | with_reducible rfl)
  (try simp only [Act.put, List.setIfInBounds_toArray, List.set_cons_zero, List.set_cons_succ, List.getElem_toArray, List.getElem_cons_succ, List.getElem_cons_zero])
  refine wpAnyH_ready (rs := [8]) (by kernel_rfl) (by simp) ?_
  refine AllReadyH.cons (o := _) rfl (fun K hK => ?_) AllReadyH.nil
  go_simp
  refine hK.out _ _ (show World.cell? (World.setCell w4 ⟨(w.heap.size + 2), 3, none⟩ _) ⟨w.heap.size, 3, none⟩ = _ from (World.cell?_of_block (heap_setCell_other w4 ⟨(w.heap.size + 2), 3, none⟩ (w.heap.size) _ (by simp only [ne_eq]; omega))).trans hHeld) (fun hHeld => ?_)
  clear hK K
  (try simp only [Act.put, List.setIfInBounds_toArray, List.set_cons_zero, List.set_cons_succ, List.getElem_toArray, List.getElem_cons_succ, List.getElem_cons_zero])
  refine wpAnyH_done (by kernel_rfl) ?_ _
  go_upto_region 3 with (fail)
  obtain ⟨w5, hw5⟩ : ∃ w5, w5 = w4.setCell ⟨w.heap.size + 1 + 1, 3, none⟩ (.slice (some ⟨g, 0, none⟩) l (l + 80)) := ⟨_, rfl⟩
  rw [← hw5]
  have hg4 := (HOw4.out.lt g rfl)
  have hg4' : w3.heap.size ≤ g := hg4.1
  have hb5 : Below w.heap.size w w5 := by rw [hw5]; exact (HB3.out.trans (HBBw4.out.mono (by omega))).setCell (p := ⟨w.heap.size + 1 + 1, 3, none⟩) (by show w.heap.size ≤ w.heap.size + 1 + 1; omega) _
  have z5 : w5.heap.size = w4.heap.size := by rw [hw5]; simp [World.setCell]
  have k5 : w5.heap[w.heap.size + 1 + 1]? = some (boxS x (some ⟨g, 0, none⟩) l (l + 80)) := by rw [hw5]; exact heap_cell3 HTw4.out _
  have o5 : w5.ownsRow w3.heap.size 9 1 (.slice (some ⟨g, 0, none⟩) (l + 80) (l + 80)) (l + 80) ((x.ss ++ List.replicate 80 ({ data := #[109, 97, 114, 107] } : ByteArray)).flatMap Sv) := by rw [hw5]; exact ownsRow_setCell_other HOw4.out (fun e => by simp only [Value.ownBlock, Option.some.injEq] at e; omega) _
  have q0 : w5.heap[w.heap.size]? = some (boxS x a l c) := by rw [hw5, heap_setCell_other w4 ⟨w.heap.size + 1 + 1, 3, none⟩ w.heap.size _ (by simp only [ne_eq]; omega), HBBw4.out.block _ (by omega)]; exact G0.out
  have q1 : w5.heap[w.heap.size + 1]? = some (boxS y b m d) := by rw [hw5, heap_setCell_other w4 ⟨w.heap.size + 1 + 1, 3, none⟩ (w.heap.size + 1) _ (by simp only [ne_eq]; omega), HBBw4.out.block _ (by omega)]; exact G1.out
  clear hw5 hg4
  have HB5 := Lib.hid hb5
  have K5 := Lib.hid k5
  have O5 := Lib.hid o5
  have Q0 := Lib.hid q0
  have Q1 := Lib.hid q1
  have z35 : w3.heap.size ≤ w5.heap.size := by omega
  have zg5 : g < w5.heap.size := by have := (o5.lt g rfl).2; exact this
  obtain ⟨t0, t1, t2, t3, -⟩ := box4 q1
  clear hb5 k5 o5 q0 q1 z5 s2 c0 c1 c2 c3 f0 f1 f2 f3
  go_upto_region 4 with (fail)
  obtain ⟨w6, hw6⟩ : ∃ w6, w6 = w5.alloc (boxS y b m d) := ⟨_, rfl⟩
  rw [← hw6]
  have hb6 : Below w5.heap.size w5 w6 := by rw [hw6]; exact bel1 _ _
  have hg6 : w6.heap[w5.heap.size]? = some (boxS y b m d) := by rw [hw6]; exact heap_alloc_new w5 _
  have z6 : w5.heap.size < w6.heap.size := by rw [hw6]; simp
  have zw5 : w.heap.size + 2 < w5.heap.size := by omega
  clear hw6
  have Gw6 := Lib.hid hg6
  have HB6 := Lib.hid (HB5.out.trans (hb6.mono (by omega)))
  have HY6 := Lib.hid (HY.out.below HB6.out)
  have HB56 := Lib.hid hb6
  obtain ⟨-, -, -, s4, -⟩ := box4 ((hb6.block _ (by omega)).trans Q1.out)
  clear hb6 hg6 t0 t1 t2 t3
  refine wp_region_held_drew (S := (fun w' => w'.cell? ⟨(w.heap.size + 1), 3, none⟩ = some (.slice b m d))) (by kernel_rfl) s4 (fun hHeld => ?_)
  refine wpAnyH_take (i := 0) (oi := _) (v := ?_) rfl (by kernel_rfl) (by kernel_rfl) (by kernel_rfl) (fun _ _ _ h => h) (Or.inl ⟨by rfl, ?_⟩) (by assumption) ?_
  rotate_left
  · intro w hSw
    (try dsimp only at hSw)
    go_simp
    all_goals (first | done | with_reducible rfl)
  (try simp only [Act.put, List.setIfInBounds_toArray, List.set_cons_zero, List.set_cons_succ, List.getElem_toArray, List.getElem_cons_succ, List.getElem_cons_zero])
  refine wpAnyH_take (i := 1) (oi := _) (v := ?_) rfl (by kernel_rfl) (by kernel_rfl) (by kernel_rfl) (fun _ _ _ h => h) (Or.inl ⟨by rfl, ?_⟩) (by assumption) ?_
  rotate_left
  · intro w hSw
    (try dsimp only at hSw)
    go_simp
    all_goals (first | done | with_reducible rfl)
  (try simp only [Act.put, List.setIfInBounds_toArray, List.set_cons_zero, List.set_cons_succ, List.getElem_toArray, List.getElem_cons_succ, List.getElem_cons_zero])
  refine wpAnyH_take (i := 3) (oi := _) (v := ?_) rfl (by kernel_rfl) (by kernel_rfl) (by kernel_rfl) (fun _ _ _ h => h) (Or.inl ⟨by rfl, ?_⟩) (by assumption) ?_
  rotate_left
  · intro w hSw
    (try dsimp only at hSw)
    go_simp
    all_goals (first | done | with_reducible rfl)
  (try simp only [Act.put, List.setIfInBounds_toArray, List.set_cons_zero, List.set_cons_succ, List.getElem_toArray, List.getElem_cons_succ, List.getElem_cons_zero])
  refine wpAnyH_take (i := 4) (oi := _) (v := ?_) rfl (by kernel_rfl) (by kernel_rfl) (by kernel_rfl) (fun _ _ _ h => h) (Or.inl ⟨by rfl, ?_⟩) (by assumption) ?_
  rotate_left
  · intro w hSw
    (try dsimp only at hSw)
    go_simp
    all_goals (first | done | with_reducible rfl)
  (try simp only [Act.put, List.setIfInBounds_toArray, List.set_cons_zero, List.set_cons_succ, List.getElem_toArray, List.getElem_cons_succ, List.getElem_cons_zero])
  refine wpAnyH_take (i := 5) (oi := _) (v := ?_) rfl (by kernel_rfl) (by kernel_rfl) (by kernel_rfl) (fun _ _ _ h => h) (Or.inl ⟨by rfl, ?_⟩) (by assumption) ?_
  rotate_left
  · intro w hSw
    (try dsimp only at hSw)
    go_simp
    all_goals (first | done | with_reducible rfl)
  (try simp only [Act.put, List.setIfInBounds_toArray, List.set_cons_zero, List.set_cons_succ, List.getElem_toArray, List.getElem_cons_succ, List.getElem_cons_zero])
  refine wpAnyH_ready (rs := [2]) (by kernel_rfl) (by simp) ?_
  refine AllReadyH.cons (o := _) rfl (fun K hK => ?_) AllReadyH.nil
  go_simp
  refine (roomy_L w6.drew b m d y.ss { data := #[109, 97, 114, 107] } (HY6.out.below (Below.refl _ _).drew) (by omega)).mono ?_
  rintro e w7 ⟨g', rfl, ho, hb⟩
  have zw7 : w6.heap.size ≤ w7.heap.size := hb.size
  have HOw7 := Lib.hid ho
  have HBBw7 := Lib.hid (show Below w6.heap.size w6 w7 from (Below.refl _ _).drew.trans hb)
  have HTw7 := Lib.hid ((HBBw7.out.block w5.heap.size (by omega)).trans Gw6.out)
  refine hK.out _ _ (keepb hb hHeld) (fun hHeld => ?_)
  clear hK K
  (try simp only [Act.put, List.setIfInBounds_toArray, List.set_cons_zero, List.set_cons_succ, List.getElem_toArray, List.getElem_cons_succ, List.getElem_cons_zero])
  obtain ⟨c0, c1, c2, c3, f0, f1, f2, f3⟩ := box4 HTw7.out
  clear ho hb
  refine wpAnyH_take (i := 6) (oi := _) (v := ?_) rfl (by kernel_rfl) (by kernel_rfl) (by kernel_rfl) (fun _ _ _ h => h) (Or.inl ⟨by rfl, ?_⟩) (by assumption) ?_
  rotate_left
  · intro w hSw
    (try dsimp only at hSw)
    go_simp
    all_goals (first | done | with_reducible rfl)
  (try simp only [Act.put, List.setIfInBounds_toArray, List.set_cons_zero, List.set_cons_succ, List.getElem_toArray, List.getElem_cons_succ, List.getElem_cons_zero])
  refine wpAnyH_take (i := 7) (oi := _) (v := ?_) rfl (by kernel_rfl) (by kernel_rfl) (by kernel_rfl) (fun _ _ _ h => h) (Or.inl ⟨by rfl, ?_⟩) (by assumption) ?_
  rotate_left
  · intro w hSw
    (try dsimp only at hSw)
    go_simp
    all_goals (first | done | with_reducible rfl)
  (try simp only [Act.put, List.setIfInBounds_toArray, List.set_cons_zero, List.set_cons_succ, List.getElem_toArray, List.getElem_cons_succ, List.getElem_cons_zero])
  refine wpAnyH_ready (rs := [8]) (by kernel_rfl) (by simp) ?_
  refine AllReadyH.cons (o := _) rfl (fun K hK => ?_) AllReadyH.nil
  go_simp
  refine hK.out _ _ (show World.cell? (World.setCell w7 ⟨w5.heap.size, 3, none⟩ _) ⟨(w.heap.size + 1), 3, none⟩ = _ from (World.cell?_of_block (heap_setCell_other w7 ⟨w5.heap.size, 3, none⟩ ((w.heap.size + 1)) _ (by simp only [ne_eq]; omega))).trans hHeld) (fun hHeld => ?_)
  clear hK K
  (try simp only [Act.put, List.setIfInBounds_toArray, List.set_cons_zero, List.set_cons_succ, List.getElem_toArray, List.getElem_cons_succ, List.getElem_cons_zero])
  refine wpAnyH_done (by kernel_rfl) ?_ _
  go_upto_region 5 with (fail)
  obtain ⟨w8, hw8⟩ : ∃ w8, w8 = w7.setCell ⟨w5.heap.size, 3, none⟩ (.slice (some ⟨g', 0, none⟩) m (m + 80)) := ⟨_, rfl⟩
  have hg7 : w6.heap.size ≤ g' := (HOw7.out.lt g' rfl).1
  have hb57 : Below w5.heap.size w5 w7 := HB56.out.trans (HBBw7.out.mono (by omega))
  have hb8 : Below w.heap.size w w8 := by rw [hw8]; exact (HB6.out.trans (HBBw7.out.mono (by omega))).setCell (p := ⟨w5.heap.size, 3, none⟩) (by show w.heap.size ≤ w5.heap.size; omega) _
  have hb58 : Below w5.heap.size w5 w8 := by rw [hw8]; exact hb57.setCell (p := ⟨w5.heap.size, 3, none⟩) (by show w5.heap.size ≤ w5.heap.size; omega) _
  have hk8 : w8.heap[w5.heap.size]? = some (boxS y (some ⟨g', 0, none⟩) m (m + 80)) := by rw [hw8]; exact heap_cell3 HTw7.out _
  have ho8 : w8.ownsRow w6.heap.size 9 1 (.slice (some ⟨g', 0, none⟩) (m + 80) (m + 80)) (m + 80) ((y.ss ++ List.replicate 80 ({ data := #[109, 97, 114, 107] } : ByteArray)).flatMap Sv) := by rw [hw8]; exact ownsRow_setCell_other HOw7.out (fun e => by simp only [Value.ownBlock, Option.some.injEq] at e; omega) _
  rw [← hw8]
  clear hw8
  obtain ⟨hxa, hxb⟩ := RS.half HL.out (own_below O5.out hb58) (by omega)
  obtain ⟨hya, hyb⟩ := RS.half HM.out ho8 (by omega)
  have HXA := Lib.hid hxa
  have HXB := Lib.hid hxb
  have HYA := Lib.hid hya
  have HYB := Lib.hid hyb
  have HX8 := Lib.hid (HX.out.below hb8)
  have HY8 := Lib.hid (HY.out.below hb8)
  have HT8 := Lib.hid (HT.out.below hb8 H1.out H1.out)
  have HB8 := Lib.hid hb8
  have z8 : 1 < w8.heap.size := by have := H1.out; have := hb8.size; omega
  obtain ⟨i0, i1, i2, i3, -⟩ := box4 ((hb58.block _ (by omega)).trans Q0.out)
  obtain ⟨j0, j1, j2, j3, -⟩ := box4 ((hb58.block _ (by omega)).trans Q1.out)
  obtain ⟨u0, u1, u2, u3, -⟩ := box4 ((hb58.block _ (by omega)).trans K5.out)
  obtain ⟨v0', v1, v2, v3, -⟩ := box4 hk8
  have hzw : w.heap.size ≤ w8.heap.size := hb8.size
  clear hxa hxb hya hyb hb57 hb8 hb58 hk8 ho8 s4 c0 c1 c2 c3 f0 f1 f2 f3 hHeld
  refine wp_region_held_drew (S := (fun w' => Below w8.heap.size w8 w' ∧ w'.cell? ⟨w.heap.size, 0, none⟩ = some (.int .i64 x.k) ∧ w'.cell? ⟨w.heap.size, 1, none⟩ = some (.int .i64 x.n) ∧ w'.cell? ⟨w.heap.size, 2, none⟩ = some (.string x.t) ∧ w'.cell? ⟨w.heap.size, 3, none⟩ = some (.slice a l c) ∧ w'.cell? ⟨w.heap.size + 1, 0, none⟩ = some (.int .i64 y.k) ∧ w'.cell? ⟨w.heap.size + 1, 1, none⟩ = some (.int .i64 y.n) ∧ w'.cell? ⟨w.heap.size + 1, 2, none⟩ = some (.string y.t) ∧ w'.cell? ⟨w.heap.size + 1, 3, none⟩ = some (.slice b m d) ∧ w'.cell? ⟨w.heap.size + 1 + 1, 0, none⟩ = some (.int .i64 x.k) ∧ w'.cell? ⟨w.heap.size + 1 + 1, 1, none⟩ = some (.int .i64 x.n) ∧ w'.cell? ⟨w.heap.size + 1 + 1, 2, none⟩ = some (.string x.t) ∧ w'.cell? ⟨w.heap.size + 1 + 1, 3, none⟩ = some (.slice (some ⟨g, 0, none⟩) l (l + 80)) ∧ w'.cell? ⟨w5.heap.size, 0, none⟩ = some (.int .i64 y.k) ∧ w'.cell? ⟨w5.heap.size, 1, none⟩ = some (.int .i64 y.n) ∧ w'.cell? ⟨w5.heap.size, 2, none⟩ = some (.string y.t) ∧ w'.cell? ⟨w5.heap.size, 3, none⟩ = some (.slice (some ⟨g', 0, none⟩) m (m + 80)))) (by kernel_rfl) ⟨(Below.refl _ _).drew, i0, i1, i2, i3, j0, j1, j2, j3, u0, u1, u2, u3, v0', v1, v2, v3⟩ (fun hHeld => ?_)
  refine wpAnyH_take (i := 0) (oi := _) (v := ?_) rfl (by kernel_rfl) (by kernel_rfl) (by kernel_rfl) (fun _ _ _ h => h) (Or.inl ⟨by rfl, ?_⟩) (by assumption) ?_
  rotate_left
  · intro w hSw
    (try dsimp only at hSw)
    go_simp
    all_goals (first | done | with_reducible rfl)
  (try simp only [Act.put, List.setIfInBounds_toArray, List.set_cons_zero, List.set_cons_succ, List.getElem_toArray, List.getElem_cons_succ, List.getElem_cons_zero])
  refine wpAnyH_take (i := 2) (oi := _) (v := ?_) rfl (by kernel_rfl) (by kernel_rfl) (by kernel_rfl) (fun _ _ _ h => h) (Or.inl ⟨by rfl, ?_⟩) (by assumption) ?_
  rotate_left
  · intro w hSw
    (try dsimp only at hSw)
    go_simp
    all_goals (first | done | with_reducible rfl)
  (try simp only [Act.put, List.setIfInBounds_toArray, List.set_cons_zero, List.set_cons_succ, List.getElem_toArray, List.getElem_cons_succ, List.getElem_cons_zero])
  refine wpAnyH_ready (rs := [1]) (by kernel_rfl) (by simp) ?_
  refine AllReadyH.cons (o := _) rfl (fun K hK => ?_) AllReadyH.nil
  go_simp
  refine (evright_any _ x (some ⟨g, 0, none⟩) l (l + 80) (HXA.out.below hHeld.1)).mono ?_
  rintro e wn ⟨rfl, hb⟩
  refine hK.out _ _ ⟨hHeld.1.trans (hb.mono hHeld.1.size), keepb hb hHeld.2.1, keepb hb hHeld.2.2.1, keepb hb hHeld.2.2.2.1, keepb hb hHeld.2.2.2.2.1, keepb hb hHeld.2.2.2.2.2.1, keepb hb hHeld.2.2.2.2.2.2.1, keepb hb hHeld.2.2.2.2.2.2.2.1, keepb hb hHeld.2.2.2.2.2.2.2.2.1, keepb hb hHeld.2.2.2.2.2.2.2.2.2.1, keepb hb hHeld.2.2.2.2.2.2.2.2.2.2.1, keepb hb hHeld.2.2.2.2.2.2.2.2.2.2.2.1, keepb hb hHeld.2.2.2.2.2.2.2.2.2.2.2.2.1, keepb hb hHeld.2.2.2.2.2.2.2.2.2.2.2.2.2.1, keepb hb hHeld.2.2.2.2.2.2.2.2.2.2.2.2.2.2.1, keepb hb hHeld.2.2.2.2.2.2.2.2.2.2.2.2.2.2.2.1, keepb hb hHeld.2.2.2.2.2.2.2.2.2.2.2.2.2.2.2.2⟩ (fun hHeld => ?_)
  clear hK K
  (try simp only [Act.put, List.setIfInBounds_toArray, List.set_cons_zero, List.set_cons_succ, List.getElem_toArray, List.getElem_cons_succ, List.getElem_cons_zero])
  clear hb
  refine wpAnyH_ready (rs := [3]) (by kernel_rfl) (by simp) ?_
  refine AllReadyH.cons (o := _) rfl (fun K hK => ?_) AllReadyH.nil
  go_simp
  refine (refright_any _ x a l c (HX8.out.below hHeld.1)).mono ?_
  rintro e wn ⟨rfl, hb⟩
  refine hK.out _ _ ⟨hHeld.1.trans (hb.mono hHeld.1.size), keepb hb hHeld.2.1, keepb hb hHeld.2.2.1, keepb hb hHeld.2.2.2.1, keepb hb hHeld.2.2.2.2.1, keepb hb hHeld.2.2.2.2.2.1, keepb hb hHeld.2.2.2.2.2.2.1, keepb hb hHeld.2.2.2.2.2.2.2.1, keepb hb hHeld.2.2.2.2.2.2.2.2.1, keepb hb hHeld.2.2.2.2.2.2.2.2.2.1, keepb hb hHeld.2.2.2.2.2.2.2.2.2.2.1, keepb hb hHeld.2.2.2.2.2.2.2.2.2.2.2.1, keepb hb hHeld.2.2.2.2.2.2.2.2.2.2.2.2.1, keepb hb hHeld.2.2.2.2.2.2.2.2.2.2.2.2.2.1, keepb hb hHeld.2.2.2.2.2.2.2.2.2.2.2.2.2.2.1, keepb hb hHeld.2.2.2.2.2.2.2.2.2.2.2.2.2.2.2.1, keepb hb hHeld.2.2.2.2.2.2.2.2.2.2.2.2.2.2.2.2⟩ (fun hHeld => ?_)
  clear hK K
  (try simp only [Act.put, List.setIfInBounds_toArray, List.set_cons_zero, List.set_cons_succ, List.getElem_toArray, List.getElem_cons_succ, List.getElem_cons_zero])
  clear hb
  refine wpAnyH_take (i := 4) (oi := _) (v := ?_) rfl (by kernel_rfl) (by kernel_rfl) (by kernel_rfl) (fun _ _ _ h => h) (Or.inl ⟨by rfl, ?_⟩) (by assumption) ?_
  rotate_left
  · intro w hSw
    (try dsimp only at hSw)
    go_simp
    all_goals (first | done | with_reducible rfl)
  (try simp only [Act.put, List.setIfInBounds_toArray, List.set_cons_zero, List.set_cons_succ, List.getElem_toArray, List.getElem_cons_succ, List.getElem_cons_zero])
  refine wpAnyH_take (i := 5) (oi := _) (v := ?_) rfl (by kernel_rfl) (by kernel_rfl) (by kernel_rfl) (fun _ _ _ h => h) (Or.inl ⟨by rfl, ?_⟩) (by assumption) ?_
  rotate_left
  · intro w hSw
    (try dsimp only at hSw)
    go_simp
    all_goals (first | done | with_reducible rfl)
  (try simp only [Act.put, List.setIfInBounds_toArray, List.set_cons_zero, List.set_cons_succ, List.getElem_toArray, List.getElem_cons_succ, List.getElem_cons_zero])
  refine wpAnyH_take (i := 6) (oi := _) (v := ?_) rfl (by kernel_rfl) (by kernel_rfl) (by kernel_rfl) (fun _ _ _ h => h) (Or.inl ⟨by rfl, ?_⟩) (by assumption) ?_
  rotate_left
  · intro w hSw
    (try dsimp only at hSw)
    go_simp
    all_goals (first | done | with_reducible rfl)
  (try simp only [Act.put, List.setIfInBounds_toArray, List.set_cons_zero, List.set_cons_succ, List.getElem_toArray, List.getElem_cons_succ, List.getElem_cons_zero])
  refine wpAnyH_take (i := 7) (oi := _) (v := ?_) rfl (by kernel_rfl) (by kernel_rfl) (by kernel_rfl) (fun _ _ _ h => h) (Or.inl ⟨by rfl, ?_⟩) (by assumption) ?_
  rotate_left
  · intro w hSw
    (try dsimp only at hSw)
    go_simp
    all_goals (first | done | with_reducible rfl)
  (try simp only [Act.put, List.setIfInBounds_toArray, List.set_cons_zero, List.set_cons_succ, List.getElem_toArray, List.getElem_cons_succ, List.getElem_cons_zero])
  refine wpAnyH_take (i := 9) (oi := _) (v := ?_) rfl (by kernel_rfl) (by kernel_rfl) (by kernel_rfl) (fun _ _ _ h => h) (Or.inl ⟨by rfl, ?_⟩) (by assumption) ?_
  rotate_left
  · intro w hSw
    (try dsimp only at hSw)
    go_simp
    all_goals (first | done | with_reducible rfl)
  (try simp only [Act.put, List.setIfInBounds_toArray, List.set_cons_zero, List.set_cons_succ, List.getElem_toArray, List.getElem_cons_succ, List.getElem_cons_zero])
  refine wpAnyH_take (i := 10) (oi := _) (v := ?_) rfl (by kernel_rfl) (by kernel_rfl) (by kernel_rfl) (fun _ _ _ h => h) (Or.inl ⟨by rfl, ?_⟩) (by assumption) ?_
  rotate_left
  · intro w hSw
    (try dsimp only at hSw)
    go_simp
    all_goals (first | done | with_reducible rfl)
  (try simp only [Act.put, List.setIfInBounds_toArray, List.set_cons_zero, List.set_cons_succ, List.getElem_toArray, List.getElem_cons_succ, List.getElem_cons_zero])
  refine wpAnyH_ready (rs := [8]) (by kernel_rfl) (by simp) ?_
  refine AllReadyH.cons (o := _) rfl (fun K hK => ?_) AllReadyH.nil
  go_simp
  refine (equal_any _ x (some ⟨g, 0, none⟩) l (l + 80) (HXA.out.below hHeld.1) y (some ⟨g', 0, none⟩) m (m + 80) (HYA.out.below hHeld.1)).mono ?_
  rintro e wn ⟨rfl, hb⟩
  refine hK.out _ _ ⟨hHeld.1.trans (hb.mono hHeld.1.size), keepb hb hHeld.2.1, keepb hb hHeld.2.2.1, keepb hb hHeld.2.2.2.1, keepb hb hHeld.2.2.2.2.1, keepb hb hHeld.2.2.2.2.2.1, keepb hb hHeld.2.2.2.2.2.2.1, keepb hb hHeld.2.2.2.2.2.2.2.1, keepb hb hHeld.2.2.2.2.2.2.2.2.1, keepb hb hHeld.2.2.2.2.2.2.2.2.2.1, keepb hb hHeld.2.2.2.2.2.2.2.2.2.2.1, keepb hb hHeld.2.2.2.2.2.2.2.2.2.2.2.1, keepb hb hHeld.2.2.2.2.2.2.2.2.2.2.2.2.1, keepb hb hHeld.2.2.2.2.2.2.2.2.2.2.2.2.2.1, keepb hb hHeld.2.2.2.2.2.2.2.2.2.2.2.2.2.2.1, keepb hb hHeld.2.2.2.2.2.2.2.2.2.2.2.2.2.2.2.1, keepb hb hHeld.2.2.2.2.2.2.2.2.2.2.2.2.2.2.2.2⟩ (fun hHeld => ?_)
  clear hK K
  (try simp only [Act.put, List.setIfInBounds_toArray, List.set_cons_zero, List.set_cons_succ, List.getElem_toArray, List.getElem_cons_succ, List.getElem_cons_zero])
  clear hb
  refine wpAnyH_ready (rs := [11]) (by kernel_rfl) (by simp) ?_
  refine AllReadyH.cons (o := _) rfl (fun K hK => ?_) AllReadyH.nil
  go_simp
  refine (refequal_any _ x a l c (HX8.out.below hHeld.1) y b m d (HY8.out.below hHeld.1)).mono ?_
  rintro e wn ⟨rfl, hb⟩
  refine hK.out _ _ ⟨hHeld.1.trans (hb.mono hHeld.1.size), keepb hb hHeld.2.1, keepb hb hHeld.2.2.1, keepb hb hHeld.2.2.2.1, keepb hb hHeld.2.2.2.2.1, keepb hb hHeld.2.2.2.2.2.1, keepb hb hHeld.2.2.2.2.2.2.1, keepb hb hHeld.2.2.2.2.2.2.2.1, keepb hb hHeld.2.2.2.2.2.2.2.2.1, keepb hb hHeld.2.2.2.2.2.2.2.2.2.1, keepb hb hHeld.2.2.2.2.2.2.2.2.2.2.1, keepb hb hHeld.2.2.2.2.2.2.2.2.2.2.2.1, keepb hb hHeld.2.2.2.2.2.2.2.2.2.2.2.2.1, keepb hb hHeld.2.2.2.2.2.2.2.2.2.2.2.2.2.1, keepb hb hHeld.2.2.2.2.2.2.2.2.2.2.2.2.2.2.1, keepb hb hHeld.2.2.2.2.2.2.2.2.2.2.2.2.2.2.2.1, keepb hb hHeld.2.2.2.2.2.2.2.2.2.2.2.2.2.2.2.2⟩ (fun hHeld => ?_)
  clear hK K
  (try simp only [Act.put, List.setIfInBounds_toArray, List.set_cons_zero, List.set_cons_succ, List.getElem_toArray, List.getElem_cons_succ, List.getElem_cons_zero])
  clear hb
  refine wpAnyH_take (i := 12) (oi := _) (v := ?_) rfl (by kernel_rfl) (by kernel_rfl) (by kernel_rfl) (fun _ _ _ h => h) (Or.inl ⟨by rfl, ?_⟩) (by assumption) ?_
  rotate_left
  · intro w hSw
    (try dsimp only at hSw)
    go_simp
    all_goals (first | done | with_reducible rfl)
  (try simp only [Act.put, List.setIfInBounds_toArray, List.set_cons_zero, List.set_cons_succ, List.getElem_toArray, List.getElem_cons_succ, List.getElem_cons_zero])
  refine wpAnyH_take (i := 13) (oi := _) (v := ?_) rfl (by kernel_rfl) (by kernel_rfl) (by kernel_rfl) (fun _ _ _ h => h) (Or.inl ⟨by rfl, ?_⟩) (by assumption) ?_
  rotate_left
  · intro w hSw
    (try dsimp only at hSw)
    go_simp
    all_goals (first | done | with_reducible rfl)
  (try simp only [Act.put, List.setIfInBounds_toArray, List.set_cons_zero, List.set_cons_succ, List.getElem_toArray, List.getElem_cons_succ, List.getElem_cons_zero])
  refine wpAnyH_take (i := 14) (oi := _) (v := ?_) rfl (by kernel_rfl) (by kernel_rfl) (by kernel_rfl) (fun _ _ _ h => h) (Or.inl ⟨by rfl, ?_⟩) (by assumption) ?_
  rotate_left
  · intro w hSw
    (try dsimp only at hSw)
    go_simp
    all_goals (first | done | with_reducible rfl)
  (try simp only [Act.put, List.setIfInBounds_toArray, List.set_cons_zero, List.set_cons_succ, List.getElem_toArray, List.getElem_cons_succ, List.getElem_cons_zero])
  refine wpAnyH_take (i := 15) (oi := _) (v := ?_) rfl (by kernel_rfl) (by kernel_rfl) (by kernel_rfl) (fun _ _ _ h => h) (Or.inl ⟨by rfl, ?_⟩) (by assumption) ?_
  rotate_left
  · intro w hSw
    (try dsimp only at hSw)
    go_simp
    all_goals (first | done | with_reducible rfl)
  (try simp only [Act.put, List.setIfInBounds_toArray, List.set_cons_zero, List.set_cons_succ, List.getElem_toArray, List.getElem_cons_succ, List.getElem_cons_zero])
  refine wpAnyH_take (i := 16) (oi := _) (v := ?_) rfl (by kernel_rfl) (by kernel_rfl) (by kernel_rfl) (fun _ _ _ h => h) (Or.inl ⟨by rfl, ?_⟩) (by assumption) ?_
  rotate_left
  · intro w hSw
    (try dsimp only at hSw)
    go_simp
    all_goals (first | done | with_reducible rfl)
  (try simp only [Act.put, List.setIfInBounds_toArray, List.set_cons_zero, List.set_cons_succ, List.getElem_toArray, List.getElem_cons_succ, List.getElem_cons_zero])
  refine wpAnyH_ready (rs := [17]) (by kernel_rfl) (by simp) ?_
  refine AllReadyH.cons (o := _) rfl (fun K hK => ?_) AllReadyH.nil
  go_simp
  refine (eqself_any _ x (some ⟨g, 0, none⟩) l (l + 80) (HXA.out.below hHeld.1) a c (HX8.out.below hHeld.1)).mono ?_
  rintro e wn ⟨rfl, hb⟩
  refine hK.out _ _ ⟨hHeld.1.trans (hb.mono hHeld.1.size), keepb hb hHeld.2.1, keepb hb hHeld.2.2.1, keepb hb hHeld.2.2.2.1, keepb hb hHeld.2.2.2.2.1, keepb hb hHeld.2.2.2.2.2.1, keepb hb hHeld.2.2.2.2.2.2.1, keepb hb hHeld.2.2.2.2.2.2.2.1, keepb hb hHeld.2.2.2.2.2.2.2.2.1, keepb hb hHeld.2.2.2.2.2.2.2.2.2.1, keepb hb hHeld.2.2.2.2.2.2.2.2.2.2.1, keepb hb hHeld.2.2.2.2.2.2.2.2.2.2.2.1, keepb hb hHeld.2.2.2.2.2.2.2.2.2.2.2.2.1, keepb hb hHeld.2.2.2.2.2.2.2.2.2.2.2.2.2.1, keepb hb hHeld.2.2.2.2.2.2.2.2.2.2.2.2.2.2.1, keepb hb hHeld.2.2.2.2.2.2.2.2.2.2.2.2.2.2.2.1, keepb hb hHeld.2.2.2.2.2.2.2.2.2.2.2.2.2.2.2.2⟩ (fun hHeld => ?_)
  clear hK K
  (try simp only [Act.put, List.setIfInBounds_toArray, List.set_cons_zero, List.set_cons_succ, List.getElem_toArray, List.getElem_cons_succ, List.getElem_cons_zero])
  clear hb
  refine wpAnyH_take (i := 18) (oi := _) (v := ?_) rfl (by kernel_rfl) (by kernel_rfl) (by kernel_rfl) (fun _ _ _ h => h) (Or.inl ⟨by rfl, ?_⟩) (by assumption) ?_
  rotate_left
  · intro w hSw
    (try dsimp only at hSw)
    go_simp
    all_goals (first | done | with_reducible rfl)
  (try simp only [Act.put, List.setIfInBounds_toArray, List.set_cons_zero, List.set_cons_succ, List.getElem_toArray, List.getElem_cons_succ, List.getElem_cons_zero])
  refine wpAnyH_take (i := 19) (oi := _) (v := ?_) rfl (by kernel_rfl) (by kernel_rfl) (by kernel_rfl) (fun _ _ _ h => h) (Or.inl ⟨by rfl, ?_⟩) (by assumption) ?_
  rotate_left
  · intro w hSw
    (try dsimp only at hSw)
    go_simp
    all_goals (first | done | with_reducible rfl)
  (try simp only [Act.put, List.setIfInBounds_toArray, List.set_cons_zero, List.set_cons_succ, List.getElem_toArray, List.getElem_cons_succ, List.getElem_cons_zero])
  refine wpAnyH_done (by kernel_rfl) ?_ _
  go_upto_region 7 with (fail)
  have HBL := Lib.hid hHeld.1
  have hwl : IntKind.i64.wrap ((l : Int) + 80) = (l : Int) + 80 := IntWalk.i64_in _ (by omega)
  have hwm : IntKind.i64.wrap ((m : Int) + 80) = (m : Int) + 80 := IntWalk.i64_in _ (by omega)
  have htl : ((l : Int) + 80).toNat = l + 80 := by omega
  have htm : ((m : Int) + 80).toNat = m + 80 := by omega
  have r1 := hHeld.2.2.2.2.1
  have r2 := hHeld.2.2.2.2.2.2.2.2.1
  have r3 := hHeld.2.2.2.2.2.2.2.2.2.2.2.2.1
  have r4 := hHeld.2.2.2.2.2.2.2.2.2.2.2.2.2.2.2.2
  clear i0 i1 i2 i3 j0 j1 j2 j3 u0 u1 u2 u3 v0' v1 v2 v3 hHeld
  refine wp_region_held_drew (S := (fun w' => Below w8.heap.size w8 w' ∧ w'.cell? ⟨w.heap.size, 3, none⟩ = some (.slice a l c) ∧ w'.cell? ⟨w.heap.size + 1, 3, none⟩ = some (.slice b m d) ∧ w'.cell? ⟨w.heap.size + 1 + 1, 3, none⟩ = some (.slice (some ⟨g, 0, none⟩) l (l + 80)) ∧ w'.cell? ⟨w5.heap.size, 3, none⟩ = some (.slice (some ⟨g', 0, none⟩) m (m + 80)))) (by kernel_rfl) ⟨HBL.out.drew, r1, r2, r3, r4⟩ (fun hHeld => ?_)
  clear r1 r2 r3 r4
  refine wpAnyH_take (i := 0) (oi := _) (v := ?_) rfl (by kernel_rfl) (by kernel_rfl) (by kernel_rfl) (fun _ _ _ h => h) (Or.inl ⟨by rfl, ?_⟩) (by assumption) ?_
  rotate_left
  · intro w hSw
    (try dsimp only at hSw)
    go_simp
    all_goals (first | done | with_reducible rfl)
  (try simp only [Act.put, List.setIfInBounds_toArray, List.set_cons_zero, List.set_cons_succ, List.getElem_toArray, List.getElem_cons_succ, List.getElem_cons_zero])
  refine wpAnyH_take (i := 1) (oi := _) (v := ?_) rfl (by kernel_rfl) (by kernel_rfl) (by kernel_rfl) (fun _ _ _ h => h) (Or.inl ⟨by rfl, ?_⟩) (by assumption) ?_
  rotate_left
  · intro w hSw
    (try dsimp only at hSw)
    go_simp
    all_goals (first | done | with_reducible rfl)
  (try simp only [Act.put, List.setIfInBounds_toArray, List.set_cons_zero, List.set_cons_succ, List.getElem_toArray, List.getElem_cons_succ, List.getElem_cons_zero])
  refine wpAnyH_take (i := 2) (oi := _) (v := ?_) rfl (by kernel_rfl) (by kernel_rfl) (by kernel_rfl) (fun _ _ _ h => h) (Or.inl ⟨by rfl, ?_⟩) (by assumption) ?_
  rotate_left
  · intro w hSw
    (try dsimp only at hSw)
    go_simp
    all_goals (first | done | with_reducible rfl)
  (try simp only [Act.put, List.setIfInBounds_toArray, List.set_cons_zero, List.set_cons_succ, List.getElem_toArray, List.getElem_cons_succ, List.getElem_cons_zero])
  refine wpAnyH_take (i := 3) (oi := _) (v := ?_) rfl (by kernel_rfl) (by kernel_rfl) (by kernel_rfl) (fun _ _ _ h => h) (Or.inl ⟨by rfl, ?_⟩) (by assumption) ?_
  rotate_left
  · intro w hSw
    (try dsimp only at hSw)
    go_simp
    all_goals (first | done | with_reducible rfl)
  (try simp only [Act.put, List.setIfInBounds_toArray, List.set_cons_zero, List.set_cons_succ, List.getElem_toArray, List.getElem_cons_succ, List.getElem_cons_zero])
  refine wpAnyH_take (i := 4) (oi := _) (v := ?_) rfl (by kernel_rfl) (by kernel_rfl) (by kernel_rfl) (fun _ _ _ h => h) (Or.inl ⟨by rfl, ?_⟩) (by assumption) ?_
  rotate_left
  · intro w hSw
    (try dsimp only at hSw)
    go_simp
    all_goals (first | done | with_reducible rfl)
  (try simp only [Act.put, List.setIfInBounds_toArray, List.set_cons_zero, List.set_cons_succ, List.getElem_toArray, List.getElem_cons_succ, List.getElem_cons_zero])
  refine wpAnyH_take (i := 5) (oi := _) (v := ?_) rfl (by kernel_rfl) (by kernel_rfl) (by kernel_rfl) (fun _ _ _ h => h) (Or.inl ⟨by rfl, ?_⟩) (by assumption) ?_
  rotate_left
  · intro w hSw
    (try dsimp only at hSw)
    go_simp
    all_goals (first | done | with_reducible rfl)
  (try simp only [Act.put, List.setIfInBounds_toArray, List.set_cons_zero, List.set_cons_succ, List.getElem_toArray, List.getElem_cons_succ, List.getElem_cons_zero])
  refine wpAnyH_take (i := 6) (oi := _) (v := ?_) rfl (by kernel_rfl) (by kernel_rfl) (by kernel_rfl) (fun _ _ _ h => h) (Or.inl ⟨by rfl, ?_⟩) (by assumption) ?_
  rotate_left
  · intro w hSw
    (try dsimp only at hSw)
    go_simp
    all_goals (first | done | with_reducible rfl)
  (try simp only [Act.put, List.setIfInBounds_toArray, List.set_cons_zero, List.set_cons_succ, List.getElem_toArray, List.getElem_cons_succ, List.getElem_cons_zero])
  refine wpAnyH_take (i := 7) (oi := _) (v := ?_) rfl (by kernel_rfl) (by kernel_rfl) (by kernel_rfl) (fun _ _ _ h => h) (Or.inl ⟨by rfl, ?_⟩) (by assumption) ?_
  rotate_left
  · intro w hSw
    (try dsimp only at hSw)
    go_simp
    all_goals (first | done | with_reducible rfl)
  (try simp only [Act.put, List.setIfInBounds_toArray, List.set_cons_zero, List.set_cons_succ, List.getElem_toArray, List.getElem_cons_succ, List.getElem_cons_zero])
  refine wpAnyH_take (i := 8) (oi := _) (v := ?_) rfl (by kernel_rfl) (by kernel_rfl) (by kernel_rfl) (fun _ _ _ h => h) (Or.inl ⟨by rfl, ?_⟩) (by assumption) ?_
  rotate_left
  · intro w hSw
    (try dsimp only at hSw)
    go_simp
    all_goals (first | done | with_reducible rfl)
  (try simp only [Act.put, List.setIfInBounds_toArray, List.set_cons_zero, List.set_cons_succ, List.getElem_toArray, List.getElem_cons_succ, List.getElem_cons_zero])
  refine wpAnyH_ready (rs := [9]) (by kernel_rfl) (by simp) ?_
  refine AllReadyH.cons (o := _) rfl (fun K hK => ?_) AllReadyH.nil
  go_simp
  refine (intact_L _ (some ⟨g, 0, none⟩) l (l + 80) x.ss { data := #[109, 97, 114, 107] } (HXB.out.below hHeld.1) a c (HX8.out.below hHeld.1) hl).mono ?_
  rintro e wn ⟨rfl, hb⟩
  refine hK.out _ _ ⟨hHeld.1.trans (hb.mono hHeld.1.size), keepb hb hHeld.2.1, keepb hb hHeld.2.2.1, keepb hb hHeld.2.2.2.1, keepb hb hHeld.2.2.2.2⟩ (fun hHeld => ?_)
  clear hK K
  (try simp only [Act.put, List.setIfInBounds_toArray, List.set_cons_zero, List.set_cons_succ, List.getElem_toArray, List.getElem_cons_succ, List.getElem_cons_zero])
  clear hb
  refine wpAnyH_take (i := 10) (oi := _) (v := ?_) rfl (by kernel_rfl) (by kernel_rfl) (by kernel_rfl) (fun _ _ _ h => h) (Or.inl ⟨by rfl, ?_⟩) (by assumption) ?_
  rotate_left
  · intro w hSw
    (try dsimp only at hSw)
    go_simp
    all_goals (first | done | with_reducible rfl)
  (try simp only [Act.put, List.setIfInBounds_toArray, List.set_cons_zero, List.set_cons_succ, List.getElem_toArray, List.getElem_cons_succ, List.getElem_cons_zero])
  refine wpAnyH_take (i := 11) (oi := _) (v := ?_) rfl (by kernel_rfl) (by kernel_rfl) (by kernel_rfl) (fun _ _ _ h => h) (Or.inl ⟨by rfl, ?_⟩) (by assumption) ?_
  rotate_left
  · intro w hSw
    (try dsimp only at hSw)
    go_simp
    all_goals (first | done | with_reducible rfl)
  (try simp only [Act.put, List.setIfInBounds_toArray, List.set_cons_zero, List.set_cons_succ, List.getElem_toArray, List.getElem_cons_succ, List.getElem_cons_zero])
  refine wpAnyH_take (i := 12) (oi := _) (v := ?_) rfl (by kernel_rfl) (by kernel_rfl) (by kernel_rfl) (fun _ _ _ h => h) (Or.inl ⟨by rfl, ?_⟩) (by assumption) ?_
  rotate_left
  · intro w hSw
    (try dsimp only at hSw)
    go_simp
    all_goals (first | done | with_reducible rfl)
  (try simp only [Act.put, List.setIfInBounds_toArray, List.set_cons_zero, List.set_cons_succ, List.getElem_toArray, List.getElem_cons_succ, List.getElem_cons_zero])
  refine wpAnyH_take (i := 13) (oi := _) (v := ?_) rfl (by kernel_rfl) (by kernel_rfl) (by kernel_rfl) (fun _ _ _ h => h) (Or.inl ⟨by rfl, ?_⟩) (by assumption) ?_
  rotate_left
  · intro w hSw
    (try dsimp only at hSw)
    go_simp
    all_goals (first | done | with_reducible rfl)
  (try simp only [Act.put, List.setIfInBounds_toArray, List.set_cons_zero, List.set_cons_succ, List.getElem_toArray, List.getElem_cons_succ, List.getElem_cons_zero])
  refine wpAnyH_take (i := 14) (oi := _) (v := ?_) rfl (by kernel_rfl) (by kernel_rfl) (by kernel_rfl) (fun _ _ _ h => h) (Or.inl ⟨by rfl, ?_⟩) (by assumption) ?_
  rotate_left
  · intro w hSw
    (try dsimp only at hSw)
    go_simp
    all_goals (first | done | with_reducible rfl)
  (try simp only [Act.put, List.setIfInBounds_toArray, List.set_cons_zero, List.set_cons_succ, List.getElem_toArray, List.getElem_cons_succ, List.getElem_cons_zero])
  refine wpAnyH_take (i := 15) (oi := _) (v := ?_) rfl (by kernel_rfl) (by kernel_rfl) (by kernel_rfl) (fun _ _ _ h => h) (Or.inl ⟨by rfl, ?_⟩) (by assumption) ?_
  rotate_left
  · intro w hSw
    (try dsimp only at hSw)
    go_simp
    all_goals (first | done | with_reducible rfl)
  (try simp only [Act.put, List.setIfInBounds_toArray, List.set_cons_zero, List.set_cons_succ, List.getElem_toArray, List.getElem_cons_succ, List.getElem_cons_zero])
  refine wpAnyH_take (i := 16) (oi := _) (v := ?_) rfl (by kernel_rfl) (by kernel_rfl) (by kernel_rfl) (fun _ _ _ h => h) (Or.inl ⟨by rfl, ?_⟩) (by assumption) ?_
  rotate_left
  · intro w hSw
    (try dsimp only at hSw)
    go_simp
    all_goals (first | done | with_reducible rfl)
  (try simp only [Act.put, List.setIfInBounds_toArray, List.set_cons_zero, List.set_cons_succ, List.getElem_toArray, List.getElem_cons_succ, List.getElem_cons_zero])
  refine wpAnyH_take (i := 17) (oi := _) (v := ?_) rfl (by kernel_rfl) (by kernel_rfl) (by kernel_rfl) (fun _ _ _ h => h) (Or.inl ⟨by rfl, ?_⟩) (by assumption) ?_
  rotate_left
  · intro w hSw
    (try dsimp only at hSw)
    go_simp
    all_goals (first | done | with_reducible rfl)
  (try simp only [Act.put, List.setIfInBounds_toArray, List.set_cons_zero, List.set_cons_succ, List.getElem_toArray, List.getElem_cons_succ, List.getElem_cons_zero])
  refine wpAnyH_take (i := 18) (oi := _) (v := ?_) rfl (by kernel_rfl) (by kernel_rfl) (by kernel_rfl) (fun _ _ _ h => h) (Or.inl ⟨by rfl, ?_⟩) (by assumption) ?_
  rotate_left
  · intro w hSw
    (try dsimp only at hSw)
    go_simp
    all_goals (first | done | with_reducible rfl)
  (try simp only [Act.put, List.setIfInBounds_toArray, List.set_cons_zero, List.set_cons_succ, List.getElem_toArray, List.getElem_cons_succ, List.getElem_cons_zero])
  refine wpAnyH_take (i := 19) (oi := _) (v := ?_) rfl (by kernel_rfl) (by kernel_rfl) (by kernel_rfl) (fun _ _ _ h => h) (Or.inl ⟨by rfl, ?_⟩) (by assumption) ?_
  rotate_left
  · intro w hSw
    (try dsimp only at hSw)
    go_simp
    all_goals (first | done | with_reducible rfl)
  (try simp only [Act.put, List.setIfInBounds_toArray, List.set_cons_zero, List.set_cons_succ, List.getElem_toArray, List.getElem_cons_succ, List.getElem_cons_zero])
  refine wpAnyH_ready (rs := [20]) (by kernel_rfl) (by simp) ?_
  refine AllReadyH.cons (o := _) rfl (fun K hK => ?_) AllReadyH.nil
  go_simp
  refine (intact_L _ (some ⟨g', 0, none⟩) m (m + 80) y.ss { data := #[109, 97, 114, 107] } (HYB.out.below hHeld.1) b d (HY8.out.below hHeld.1) hm).mono ?_
  rintro e wn ⟨rfl, hb⟩
  refine hK.out _ _ ⟨hHeld.1.trans (hb.mono hHeld.1.size), keepb hb hHeld.2.1, keepb hb hHeld.2.2.1, keepb hb hHeld.2.2.2.1, keepb hb hHeld.2.2.2.2⟩ (fun hHeld => ?_)
  clear hK K
  (try simp only [Act.put, List.setIfInBounds_toArray, List.set_cons_zero, List.set_cons_succ, List.getElem_toArray, List.getElem_cons_succ, List.getElem_cons_zero])
  clear hb
  refine wpAnyH_take (i := 21) (oi := _) (v := ?_) rfl (by kernel_rfl) (by kernel_rfl) (by kernel_rfl) (fun _ _ _ h => h) (Or.inl ⟨by rfl, ?_⟩) (by assumption) ?_
  rotate_left
  · intro w hSw
    (try dsimp only at hSw)
    go_simp
    all_goals (first | done | with_reducible rfl)
  (try simp only [Act.put, List.setIfInBounds_toArray, List.set_cons_zero, List.set_cons_succ, List.getElem_toArray, List.getElem_cons_succ, List.getElem_cons_zero])
  refine wpAnyH_take (i := 22) (oi := _) (v := ?_) rfl (by kernel_rfl) (by kernel_rfl) (by kernel_rfl) (fun _ _ _ h => h) (Or.inl ⟨by rfl, ?_⟩) (by assumption) ?_
  rotate_left
  · intro w hSw
    (try dsimp only at hSw)
    go_simp
    all_goals (first | done | with_reducible rfl)
  (try simp only [Act.put, List.setIfInBounds_toArray, List.set_cons_zero, List.set_cons_succ, List.getElem_toArray, List.getElem_cons_succ, List.getElem_cons_zero])
  refine wpAnyH_ready (rs := [23]) (by kernel_rfl) (by simp) ?_
  refine AllReadyH.cons (o := _) rfl (fun K hK => ?_) AllReadyH.nil
  go_simp
  refine (known_any _ (HT8.out.below hHeld.1 z8 z8) (Nat.lt_of_lt_of_le z8 hHeld.1.size)).mono ?_
  rintro e wn ⟨rfl, hb⟩
  refine hK.out _ _ ⟨hHeld.1.trans (hb.mono hHeld.1.size), keepb hb hHeld.2.1, keepb hb hHeld.2.2.1, keepb hb hHeld.2.2.2.1, keepb hb hHeld.2.2.2.2⟩ (fun hHeld => ?_)
  clear hK K
  (try simp only [Act.put, List.setIfInBounds_toArray, List.set_cons_zero, List.set_cons_succ, List.getElem_toArray, List.getElem_cons_succ, List.getElem_cons_zero])
  clear hb
  refine wpAnyH_take (i := 24) (oi := _) (v := ?_) rfl (by kernel_rfl) (by kernel_rfl) (by kernel_rfl) (fun _ _ _ h => h) (Or.inl ⟨by rfl, ?_⟩) (by assumption) ?_
  rotate_left
  · intro w hSw
    (try dsimp only at hSw)
    go_simp
    all_goals (first | done | with_reducible rfl)
  (try simp only [Act.put, List.setIfInBounds_toArray, List.set_cons_zero, List.set_cons_succ, List.getElem_toArray, List.getElem_cons_succ, List.getElem_cons_zero])
  refine wpAnyH_take (i := 25) (oi := _) (v := ?_) rfl (by kernel_rfl) (by kernel_rfl) (by kernel_rfl) (fun _ _ _ h => h) (Or.inl ⟨by rfl, ?_⟩) (by assumption) ?_
  rotate_left
  · intro w hSw
    (try dsimp only at hSw)
    go_simp
    all_goals (first | done | with_reducible rfl)
  (try simp only [Act.put, List.setIfInBounds_toArray, List.set_cons_zero, List.set_cons_succ, List.getElem_toArray, List.getElem_cons_succ, List.getElem_cons_zero])
  refine wpAnyH_done (by kernel_rfl) ?_ _
  go_wp2_with fail
  go_ret
  exact ⟨rfl, HB8.out.trans (hHeld.1.mono hzw)⟩
end Go.Proofs.YtcnckjlmldnblaaDoor
