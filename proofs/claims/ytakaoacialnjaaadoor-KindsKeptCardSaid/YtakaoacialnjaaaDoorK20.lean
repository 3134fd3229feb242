import Derived.Test.YtakaoacialnjaaaDoorK19
namespace Go.Proofs.YtakaoacialnjaaaDoor
open Go Go.RowKit
set_option linter.unusedVariables false
theorem RS.none {α : Type} (s : Nat) (enc : α → List Value) (w : World) : RS s enc w none 0 0 [] := ⟨rfl, Nat.le_refl _, by omega, fun i x h => by simp at h⟩
theorem kn_ok {w : World} {g : Nat} {ks : List Int} (h : RS 1 Iv w (some ⟨g, 0, none⟩) 2 2 ks) : ∀ nd ∈ kn g ks, nd.ok w := by
  intro nd hnd
  simp only [kn, List.mem_cons, List.not_mem_nil, or_false] at hnd
  rcases hnd with rfl | rfl | rfl | rfl
  · exact ⟨RS.none 1 Iv w, by decide, by decide⟩
  · exact ⟨RS.none 1 Iv w, by decide, by decide⟩
  · exact ⟨h, (by decide : kE.size ≤ maxLen), (by decide : -9223372036854775808 ≤ (0 : Int) ∧ (0 : Int) ≤ 9223372036854775807)⟩
  · exact ⟨RS.none 1 Iv w, by decide, by decide⟩
set_option maxRecDepth 100000 in
set_option maxHeartbeats 4000000 in
theorem known_any (w : World) (ht : NoTab w) (hrt : ResTab w 2) (h2 : 2 < w.heap.size) :
    Calls Tryd.prog 12 #[] w fun e w' => e = .returned (.bool true) ∧ Below w.heap.size w w' := by
  have HT := Lib.hid ht
  have HRT := Lib.hid hrt
  have H2 := Lib.hid h2
  clear ht hrt h2
  go_enter Tryd.func12, Tryd.ntmps12
  go_wp2_with fail
  obtain ⟨w3, hw3, g0, g1, g2, gs, hb3⟩ : ∃ w3 : World, w3 = ((w.alloc (.cells #[.int .i64 0, .int .i64 1] 3)).alloc (.cells #[.int .i64 5, .string ⟨#[102, 101, 101]⟩, .int .i64 0, .int .i64 0, .string ⟨#[]⟩, .slice none 0 0, .slice none 0 0, .int .i64 1, .string ⟨#[]⟩, .int .i64 1, .int .i64 10, .string ⟨#[]⟩, .slice none 0 0, .slice none 0 0, .int .i64 15, .string ⟨#[]⟩, .int .i64 0, .int .i64 0, .string ⟨#[]⟩, .slice none 0 0, .slice (some ⟨w.heap.size, 0, none⟩) 2 2, .int .i64 24, .string ⟨#[113]⟩, .int .i64 0, .int .i64 0, .string ⟨#[]⟩, .slice none 0 0, .slice none 0 0] 49)).alloc (.cells #[.string ⟨#[102, 101, 101]⟩, .int .i64 1, .bool true, .string ⟨#[102, 101, 101]⟩, .int .i64 3, .bool false, .string ⟨#[113]⟩, .int .i64 7, .bool false] 34) ∧
      w3.heap[w.heap.size]? = some (.cells (([0, 1] : List Int).flatMap Iv).toArray 3 (0, 0)) ∧ w3.heap[w.heap.size + 1]? = some (.cells ((kn w.heap.size [0, 1]).flatMap Nd.cs).toArray 49 (0, 0)) ∧ w3.heap[w.heap.size + 1 + 1]? = some (.cells (ksc.flatMap Nm.cs).toArray 34 (0, 0)) ∧
      w.heap.size + 1 + 1 < w3.heap.size ∧ Below w.heap.size w w3 := by
    obtain ⟨a, b, c, d⟩ := facts3 w (([0, 1] : List Int).flatMap Iv).toArray ((kn w.heap.size [0, 1]).flatMap Nd.cs).toArray (ksc.flatMap Nm.cs).toArray 3 49 34
    exact ⟨_, rfl, a, b, c, d, below3 w _ _ _ 3 49 34⟩
  rw [← hw3]
  have HB3 := Lib.hid hb3
  obtain ⟨gk, hgk⟩ : ∃ g, g = w.heap.size := ⟨_, rfl⟩
  obtain ⟨gn, hgn⟩ : ∃ g, g = w.heap.size + 1 := ⟨_, rfl⟩
  obtain ⟨gsc, hgs⟩ : ∃ g, g = w.heap.size + 1 + 1 := ⟨_, rfl⟩
  rw [← hgs] at g2 gs
  rw [← hgn] at g1
  rw [← hgk] at g0 g1
  rw [← hgs, ← hgn, ← hgk]
  have HGG := Lib.hid (show gk = w.heap.size ∧ gn = gk + 1 ∧ gsc = gk + 2 by omega)
  clear hw3 hb3 hgk hgn hgs
  have rk := RS.of_row Iv (fun _ => rfl) _ g0 2 2 rfl (by omega) (by omega)
  have rn := RS.of_row Nd.cs Nd_len _ g1 4 4 rfl (by omega) (by omega)
  have rs := RS.of_row Nm.cs Nm_len _ g2 3 3 rfl (by omega) (by omega)
  have h23 : 2 < w3.heap.size := by have := H2.out; have := HB3.out.size; omega
  have T3 := Lib.hid (HT.out.below HB3.out (by have := H2.out; omega))
  have R3 := Lib.hid (HRT.out.below HB3.out H2.out H2.out)
  with_reducible refine (of_any w3 (some ⟨gn, 0, none⟩) 3 4 _ (rn.take 3 (by omega)) (fun nd h => kn_ok rk nd (List.mem_of_mem_take h)) (some ⟨gsc, 0, none⟩) 3 3 ksc rs T3.out R3.out h23 (by omega)).mono ?_
  rintro e w4 ⟨⟨la, lc, he, ho⟩, hb4⟩
  rw [kof1] at he ho
  have rl := RS.of_owns ho (by decide) Kd_len (by decide)
  obtain ⟨lb, lo, rfl, hl⟩ := rl.addr (by decide)
  subst he
  have k00 := hl 0 _ rfl 0 _ rfl
  have k01 := hl 0 _ rfl 1 _ rfl
  have k20 := hl 2 _ rfl 0 _ rfl
  have k21 := hl 2 _ rfl 1 _ rfl
  simp only [Nat.add_zero, Nat.zero_mul] at k00 k01 k20 k21
  have G2 := (hb4.block gsc gs).trans g2
  have s1 := cell_of_row w4 gsc 1 _ _ _ G2
  have s2 := cell_of_row w4 gsc 2 _ _ _ G2
  simp only [ksc, List.flatMap_cons, Nm.cs, List.cons_append, List.nil_append, List.getElem?_toArray, List.getElem?_cons_zero, List.getElem?_cons_succ] at s1 s2
  have HB4 := Lib.hid (HB3.out.trans (hb4.mono HB3.out.size))
  have hb34 := Lib.hid hb4
  have z4 := hb4.size
  clear hl rl ho hb4
  go_wp2_with fail
  go_quiet (fail)
  go_wp2_with fail
  have d4 := below_drewN hb34.out nq
  have z4d : w3.heap.size ≤ (w4.drewN nq).heap.size := d4.size
  have rn4 := rn.below d4
  have rs4 := rs.below d4
  have rk4 := rk.below d4
  have HB4d := Lib.hid (HB3.out.trans (d4.mono HB3.out.size))
  have D4 := Lib.hid d4
  clear k00 k01 k20 k21 s1 s2 d4 G2
  generalize w4.drewN nq = w5 at *
  with_reducible refine (of_any w5 (some ⟨gn, 0, none⟩) 4 4 _ rn4 (fun nd h => kn_ok rk4 nd h) (some ⟨gsc, 0, none⟩) 3 3 ksc rs4 (T3.out.below D4.out (by omega)) (R3.out.below D4.out h23 h23) (by omega) (by omega)).mono ?_
  rintro e w6 ⟨⟨la2, lc2, he, ho⟩, hb6⟩
  rw [kof2] at he
  subst he
  have D6 := Lib.hid (D4.out.trans (hb6.mono z4d))
  have hz6 := hb6.size
  have G16 := (hb6.block gn (by have := (Array.getElem?_eq_some_iff.1 g1).1; omega)).trans ((D4.out.block gn (Array.getElem?_eq_some_iff.1 g1).1).trans g1)
  have s20 := cell_of_row w6 gn 20 _ _ _ G16
  have f20 := frozen_of_row w6 gn 20 _ _ G16
  simp only [kn, List.flatMap_cons, Nd.cs, List.cons_append, List.nil_append, List.getElem?_toArray, List.getElem?_cons_zero, List.getElem?_cons_succ] at s20
  have l6 : gn < w6.heap.size := (Array.getElem?_eq_some_iff.1 G16).1
  clear ho hb6 rn4 rs4 rk4
  go_wp2_with fail
  have M1 : ((w6.setCell ⟨gn, 20, none⟩ (.slice (some ⟨w6.heap.size, 0, none⟩) 2 2)).alloc (.cells #[.int .i64 0, .int .i64 0] 3)).heap[gn]? = some (.cells ((kn w6.heap.size [0, 0]).flatMap Nd.cs).toArray 49 (0, 0)) :=
    (Below.heap_alloc _ _ gn (by simp; omega)).trans (heap_setCell_same w6 gn 20 _ _ (.slice (some ⟨w6.heap.size, 0, none⟩) 2 2) G16)
  have M2 : ((w6.setCell ⟨gn, 20, none⟩ (.slice (some ⟨w6.heap.size, 0, none⟩) 2 2)).alloc (.cells #[.int .i64 0, .int .i64 0] 3)).heap[gsc]? = some (.cells (ksc.flatMap Nm.cs).toArray 34 (0, 0)) :=
    (Below.heap_alloc _ _ gsc (by simp; omega)).trans ((heap_setCell_other w6 ⟨gn, 20, none⟩ gsc _ (by have := HGG.out; show gsc ≠ gn; omega)).trans ((D6.out.block gsc gs).trans g2))
  have M3 : ((w6.setCell ⟨gn, 20, none⟩ (.slice (some ⟨w6.heap.size, 0, none⟩) 2 2)).alloc (.cells #[.int .i64 0, .int .i64 0] 3)).heap[w6.heap.size]? = some (.cells (([0, 0] : List Int).flatMap Iv).toArray 3 (0, 0)) := by
    have := heap_alloc_new (w6.setCell ⟨gn, 20, none⟩ (.slice (some ⟨w6.heap.size, 0, none⟩) 2 2)) (.cells #[.int .i64 0, .int .i64 0] 3)
    rw [show (w6.setCell ⟨gn, 20, none⟩ (.slice (some ⟨w6.heap.size, 0, none⟩) 2 2)).heap.size = w6.heap.size by simp] at this
    exact this
  have M4 : Below w.heap.size w ((w6.setCell ⟨gn, 20, none⟩ (.slice (some ⟨w6.heap.size, 0, none⟩) 2 2)).alloc (.cells #[.int .i64 0, .int .i64 0] 3)) :=
    ((HB3.out.trans (D6.out.mono HB3.out.size)).setCell (p := ⟨gn, 20, none⟩) (by have := HGG.out; show w.heap.size ≤ gn; omega) _).alloc (by have := HB3.out.size; simp; omega) _
  have HM4 := Lib.hid M4
  have hM : w6.heap.size < ((w6.setCell ⟨gn, 20, none⟩ (.slice (some ⟨w6.heap.size, 0, none⟩) 2 2)).alloc (.cells #[.int .i64 0, .int .i64 0] 3)).heap.size := by simp
  clear M4 s20 f20 G16
  generalize (w6.setCell ⟨gn, 20, none⟩ (.slice (some ⟨w6.heap.size, 0, none⟩) 2 2)).alloc (.cells #[.int .i64 0, .int .i64 0] 3) = w7 at *
  with_reducible refine (of_any w7 (some ⟨gn, 0, none⟩) 4 4 _ (RS.of_row Nd.cs Nd_len _ M1 4 4 rfl (by omega) (by omega)) (fun nd h => kn_ok (RS.of_row Iv (fun _ => rfl) _ M3 2 2 rfl (by omega) (by omega)) nd h) (some ⟨gsc, 0, none⟩) 3 3 ksc (RS.of_row Nm.cs Nm_len _ M2 3 3 rfl (by omega) (by omega)) (HT.out.below HM4.out (by have := H2.out; omega)) (HRT.out.below HM4.out H2.out H2.out) (by omega) (by omega)).mono ?_
  rintro e w8 ⟨⟨la3, lc3, he, ho⟩, hb8⟩
  rw [kof3] at he
  subst he
  clear ho M1 M2 M3
  go_wp2
  go_ret
  exact ⟨rfl, HM4.out.trans (hb8.mono HM4.out.size)⟩
end Go.Proofs.YtakaoacialnjaaaDoor
