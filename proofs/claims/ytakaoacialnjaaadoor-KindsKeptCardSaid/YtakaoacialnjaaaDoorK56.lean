import Derived.Test.YtakaoacialnjaaaDoorK53
namespace Go.Proofs.YtakaoacialnjaaaDoor
open Go Go.RowKit
set_option linter.unusedVariables false
set_option linter.unusedSimpArgs false
set_option maxRecDepth 100000 in
set_option maxHeartbeats 4000000 in
theorem whole_any (w : World) (a : Option Addr) (n c : Nat) (ns : List Nd) (hr : RS 7 Nd.cs w a n c ns) (hok : ∀ nd ∈ ns, nd.okS w) (hn : n ≤ 5000) (hsm : ∀ nd ∈ ns, nd.kl ≤ 20000 ∧ nd.sl ≤ 20000) :
    Calls Tryd.prog 20 #[.slice a n c] w fun e w' => WholeOut e w w' ns n ∧ Below w.heap.size w w' := by
  have hlen := hr.1
  have HR := Lib.hid hr
  have HOK := Lib.hid hok
  have HSM := Lib.hid hsm
  obtain ⟨B, hB⟩ : ∃ B, B = w.heap.size := ⟨_, rfl⟩
  have HB := Lib.hid hB
  have hn48 : n ≤ 281474976710656 := hr.2.2.1
  clear hr hok hsm hB
  go_enter Tryd.func20, Tryd.ntmps20
  go_wp2_with (first
    | (at_make; refine L_make rfl _ _ _ rfl sl24 B .i64 .i64 _ (n+8) rfl rfl (by omega) (by omega) (by simp [maxLen]; omega) (by have := HB.out; omega) (fun w1 ho1 hg1 => ?_)
       rw [← HB.out] at ho1 ⊢))
  have hb1 : Below B w w1 := (Below.refl _ _).grown hg1 (by have := HB.out; omega) (by intro k hk; cases hk)
  have ho3 : w1.ownsRow B 49 7 (.slice (some ⟨B, 0, none⟩) (n+8) (n+8)) (n+8) ((List.replicate 0 markNd ++ List.replicate (n+8-0) zeroNd).flatMap Nd.cs) := by
    have e1 := madeFlat Nd.cs 7 (by decide) Nd_len2 zeroNd (n + 8)
    have e2 : (madeCells (Value.cells (.agg #[.int .i64 0, .string ByteArray.empty, .int .i64 0, .int .i64 0, .string ByteArray.empty, .slice none 0 0, .slice none 0 0])) ((n + 8) * 7)).toList = (List.replicate (n + 8) zeroNd).flatMap Nd.cs := e1
    rw [e2] at ho1
    simpa using ho1
  clear hg1 ho1
  go_loopw [4] (fun i wr => ∃ k : Nat, k ≤ n + 8 ∧ i = .int .i64 k ∧ Below B w wr ∧ wr.ownsRow B 49 7 (.slice (some ⟨B, 0, none⟩) (n+8) (n+8)) (n+8) ((List.replicate k markNd ++ List.replicate (n+8-k) zeroNd).flatMap Nd.cs)) (fun i _ => n + 8 - (intOf i).toNat)
  case atStart => exact ⟨0, by omega, rfl, hb1, ho3⟩
  case round =>
    obtain ⟨k, hk2, rfl, hb, ho⟩ := hrel
    clear hb1 ho3
    by_cases hlt : k < n + 8
    · have HOW := Lib.hid ho
      have HBW := Lib.hid hb
      have hltI : (k : Int) < (n : Int) + 8 := by omega
      clear ho hb
      go_wp2_with fail
      with_reducible refine (nodemark_any _).mono ?_
      rintro e w2 ⟨rfl, hb2⟩
      have ho := own_below HOW.out hb2
      have hb := HBW.out.trans (hb2.mono (by have := HBW.out.size; have := HB.out; omega))
      obtain ⟨hf1, hz⟩ := fill1 n k hlt
      have c0 := own_at Nd_len2 ho hz 0 _ rfl
      have f0 := ho.frozenAt (k * 7)
      have c1 := own_at Nd_len2 ho hz 1 _ rfl
      have f1 := ho.frozenAt (k * 7 + 1)
      have c2 := own_at Nd_len2 ho hz 2 _ rfl
      have f2 := ho.frozenAt (k * 7 + 2)
      have c3 := own_at Nd_len2 ho hz 3 _ rfl
      have f3 := ho.frozenAt (k * 7 + 3)
      have c4 := own_at Nd_len2 ho hz 4 _ rfl
      have f4 := ho.frozenAt (k * 7 + 4)
      have c5 := own_at Nd_len2 ho hz 5 _ rfl
      have f5 := ho.frozenAt (k * 7 + 5)
      have c6 := own_at Nd_len2 ho hz 6 _ rfl
      have f6 := ho.frozenAt (k * 7 + 6)
      simp only [Nat.add_zero, zeroNd] at c0 c1 c2 c3 c4 c5 c6
      have hlenk := (List.getElem?_eq_some_iff.1 hz).1
      have ho' := (own_chain (Nd.cs markNd) _ w2 (k * 7) ho).1
      rw [setList_flat Nd.cs 7 Nd_len2 _ k markNd hlenk, hf1] at ho'
      have HO := Lib.hid ho'
      have HB' := Lib.hid (below_chain (Nat.le_refl B) (Nd.cs markNd) w2 (k * 7) hb)
      clear ho hb hb2 hz ho' hf1 hlenk
      go_wp2
      go_roundw
      case rel => exact ⟨k+1, by omega, by go_num, HB'.out, HO.out⟩
      case measure => simp [intOf]; omega
    · have hk8 : k = n + 8 := by omega
      have HOW := Lib.hid (show wr.ownsRow B 49 7 (.slice (some ⟨B, 0, none⟩) (n+8) (n+8)) (n+8) ((([] : List Nd) ++ List.replicate (n+8-0) markNd).flatMap Nd.cs) by rw [hk8] at ho; simpa using ho)
      have HBW := Lib.hid hb
      clear ho hb
      subst hk8
      go_wp2_with fail
      go_loopw [5] (fun i wr => ∃ (k : Nat) (us : List Nd), k ≤ n ∧ i = .int .i64 k ∧ us.length = k ∧ Below B w wr ∧ wr.ownsRow B 49 7 (.slice (some ⟨B, 0, none⟩) (n+8) (n+8)) (n+8) ((us ++ List.replicate (n+8-k) markNd).flatMap Nd.cs) ∧
        ∀ (i : Nat) (u nd : Nd), us[i]? = some u → ns[i]? = some nd → WhoI w wr u nd) (fun i _ => n - (intOf i).toNat)
      case atStart => exact ⟨0, [], by omega, rfl, rfl, HBW.out, HOW.out, fun i u nd h => by simp at h⟩
      case round =>
        obtain ⟨k, us, hk, rfl, hus, hb, ho, hwho⟩ := hrel
        have HO := Lib.hid ho
        have HBK := Lib.hid hb
        have HWH := Lib.hid hwho
        have HUS := Lib.hid hus
        clear ho hb hwho hus HOW HBW
        by_cases hlt : k < n
        · have hltI : (k : Int) < (n : Int) := by omega
          obtain ⟨lb, lo, nd, rfl, hnd, hcl⟩ := HR.out.at hlt
          have hBw : Below w.heap.size w wr := HBK.out.mono (by have := HB.out; omega)
          have x0 := (hBw.cell (p := ⟨lb, lo + k * 7 + 0, none⟩) (block_lt_of_cell (hcl 0 _ rfl))).trans (hcl 0 _ rfl)
          have x1 := (hBw.cell (p := ⟨lb, lo + k * 7 + 1, none⟩) (block_lt_of_cell (hcl 1 _ rfl))).trans (hcl 1 _ rfl)
          have x2 := (hBw.cell (p := ⟨lb, lo + k * 7 + 2, none⟩) (block_lt_of_cell (hcl 2 _ rfl))).trans (hcl 2 _ rfl)
          have x3 := (hBw.cell (p := ⟨lb, lo + k * 7 + 3, none⟩) (block_lt_of_cell (hcl 3 _ rfl))).trans (hcl 3 _ rfl)
          have x4 := (hBw.cell (p := ⟨lb, lo + k * 7 + 4, none⟩) (block_lt_of_cell (hcl 4 _ rfl))).trans (hcl 4 _ rfl)
          have x5 := (hBw.cell (p := ⟨lb, lo + k * 7 + 5, none⟩) (block_lt_of_cell (hcl 5 _ rfl))).trans (hcl 5 _ rfl)
          have x6 := (hBw.cell (p := ⟨lb, lo + k * 7 + 6, none⟩) (block_lt_of_cell (hcl 6 _ rfl))).trans (hcl 6 _ rfl)
          simp only [Nat.add_zero] at x0
          obtain ⟨⟨hko, hnm, hvn⟩, ss, hss⟩ := HOK.out nd (List.mem_of_getElem? hnd)
          have hsm := HSM.out nd (List.mem_of_getElem? hnd)
          have hsm1 : nd.kl ≤ 20000 := hsm.1
          have hsm2 : nd.sl ≤ 20000 := hsm.2
          have hle1 : (nd.kl : Int) ≤ (nd.kl : Int) + 80 := by omega
          have hle2 : (nd.sl : Int) ≤ (nd.sl : Int) + 80 := by omega
          have HKO := Lib.hid hko
          have HSS := Lib.hid hss
          have HND := Lib.hid hnd
          have HVN := Lib.hid hvn
          have hBw2 := Lib.hid hBw
          clear hcl hnd hko hss hsm hvn hBw
          go_wp2_with fail
          obtain ⟨w2, hw2⟩ : ∃ w2, w2 = wr.alloc (.cells #[.int .i64 nd.op, .string nd.nm, .int .i64 nd.vk, .int .i64 nd.vn, .string nd.vt, .slice nd.sa nd.sl nd.sc, .slice nd.ka nd.kl nd.kc] 49) := ⟨_, rfl⟩
          have G2 : w2.heap[wr.heap.size]? = some (.cells #[.int .i64 nd.op, .string nd.nm, .int .i64 nd.vk, .int .i64 nd.vn, .string nd.vt, .slice nd.sa nd.sl nd.sc, .slice nd.ka nd.kl nd.kc] 49 (0, 0)) := by rw [hw2]; exact heap_alloc_new _ _
          have hb2 : Below wr.heap.size wr w2 := by rw [hw2]; exact (Below.refl _ _).alloc (Nat.le_refl _) _
          have hz2 : wr.heap.size < w2.heap.size := by rw [hw2]; simp
          rw [← hw2]
          have n6 := cell_of_row w2 _ 6 _ _ _ G2
          have f6 := frozen_of_row w2 _ 6 _ _ G2
          simp only [List.getElem?_toArray, List.getElem?_cons_zero, List.getElem?_cons_succ] at n6
          have K2 := Lib.hid (HKO.out.below (hBw2.out.trans (hb2.mono hBw2.out.size)).drew)
          have HG2 := Lib.hid G2
          have HB2 := Lib.hid hb2
          clear hw2 G2 hb2 x0 x1 x2 x3 x4 x5 x6
          go_region_law (first
            | (go_simp; go_at_call 37; refine (roomy_I w2.drew nd.ka nd.kl nd.kc nd.ks (-77) K2.out (by omega)).mono ?_; rintro e w3 ⟨gk, rfl, hok3, hb3⟩
               have hb3' : Below w2.heap.size w2 w3 := (Below.refl _ _).drew.trans hb3
               have G3 := (hb3'.block wr.heap.size hz2).trans HG2.out
               have n63 := keepg hb3' n6
               have f63 := frozen_of_row w3 _ 6 _ _ G3))
          · obtain ⟨w4, hw4⟩ : ∃ w4, w4 = w3.setCell ⟨wr.heap.size, 6, none⟩ (.slice (some ⟨gk, 0, none⟩) nd.kl (nd.kl + 80)) := ⟨_, rfl⟩
            have hz3 : wr.heap.size < w3.heap.size := Nat.lt_of_lt_of_le hz2 hb3'.size
            have G4 : w4.heap[wr.heap.size]? = some (.cells #[.int .i64 nd.op, .string nd.nm, .int .i64 nd.vk, .int .i64 nd.vn, .string nd.vt, .slice nd.sa nd.sl nd.sc, .slice (some ⟨gk, 0, none⟩) nd.kl (nd.kl + 80)] 49 (0, 0)) := by
              rw [hw4]; exact heap_setCell_same w3 wr.heap.size 6 _ _ _ G3
            have hok4 : w4.ownsRow w.heap.size 3 1 (.slice (some ⟨gk, 0, none⟩) (nd.kl + 80) (nd.kl + 80)) (nd.kl + 80) ((nd.ks ++ List.replicate 80 (-77)).flatMap Iv) := by
              rw [hw4]
              exact (owns_mono hok3 (show w.heap.size ≤ w2.heap.size by have := hBw2.out.size; omega)).kept (grown_set' w3 wr.heap.size 6 _) (.inr (own_ne hok3 G3 (by decide)))
            have hb4 : Below wr.heap.size wr w4 := by
              rw [hw4]; exact (HB2.out.trans (hb3'.mono (by omega))).setCell (p := ⟨wr.heap.size, 6, none⟩) (Nat.le_refl _) _
            have hz4 : wr.heap.size < w4.heap.size := by rw [hw4]; simpa using hz3
            rw [← hw4]
            have n5 := cell_of_row w4 _ 5 _ _ _ G4
            have f5 := frozen_of_row w4 _ 5 _ _ G4
            simp only [List.getElem?_toArray, List.getElem?_cons_zero, List.getElem?_cons_succ] at n5
            have S4 := Lib.hid (HSS.out.below (hBw2.out.trans (hb4.mono hBw2.out.size)).drew)
            have HG4 := Lib.hid G4
            have HB4 := Lib.hid hb4
            have HO4 := Lib.hid hok4
            clear hw4 G4 hb4 hok4 G3 n63 f63 hok3 hb3 hb3' hz3 n6 f6
            go_wp2_with fail
            go_region_law (first
              | (go_simp; go_at_call 38; refine (roomy_S w4.drew nd.sa nd.sl nd.sc ss mkS S4.out (by omega)).mono ?_; rintro e w5 ⟨gs, rfl, hos5, hb5⟩
                 have hb5' : Below w4.heap.size w4 w5 := (Below.refl _ _).drew.trans hb5
                 have G5 := (hb5'.block wr.heap.size hz4).trans HG4.out
                 have n55 := keepg hb5' n5
                 have f55 := frozen_of_row w5 _ 5 _ _ G5))
            · clear n5 f5
              obtain ⟨w6, hw6⟩ : ∃ w6, w6 = w5.setCell ⟨wr.heap.size, 5, none⟩ (.slice (some ⟨gs, 0, none⟩) nd.sl (nd.sl + 80)) := ⟨_, rfl⟩
              have G6 : w6.heap[wr.heap.size]? = some (.cells #[.int .i64 nd.op, .string nd.nm, .int .i64 nd.vk, .int .i64 nd.vn, .string nd.vt, .slice (some ⟨gs, 0, none⟩) nd.sl (nd.sl + 80), .slice (some ⟨gk, 0, none⟩) nd.kl (nd.kl + 80)] 49 (0, 0)) := by
                rw [hw6]; exact heap_setCell_same w5 wr.heap.size 5 _ _ _ G5
              have hos6 : w6.ownsRow w.heap.size 9 1 (.slice (some ⟨gs, 0, none⟩) (nd.sl + 80) (nd.sl + 80)) (nd.sl + 80) ((ss ++ List.replicate 80 mkS).flatMap Sv) := by
                rw [hw6]
                exact (owns_mono hos5 (show w.heap.size ≤ w4.heap.size by have := hBw2.out.size; omega)).kept (grown_set' w5 wr.heap.size 5 _) (.inr (own_ne hos5 G5 (by decide)))
              have hok6 : w6.ownsRow w.heap.size 3 1 (.slice (some ⟨gk, 0, none⟩) (nd.kl + 80) (nd.kl + 80)) (nd.kl + 80) ((nd.ks ++ List.replicate 80 (-77)).flatMap Iv) := by
                rw [hw6]
                have h5 := own_below HO4.out hb5'
                exact h5.kept (grown_set' w5 wr.heap.size 5 _) (.inr (own_ne h5 G5 (by decide)))
              have hb6 : Below wr.heap.size wr w6 := by
                rw [hw6]; exact (HB4.out.trans (hb5'.mono (by omega))).setCell (p := ⟨wr.heap.size, 5, none⟩) (Nat.le_refl _) _
              rw [← hw6]
              obtain ⟨u, hu⟩ : ∃ u : Nd, u = ⟨nd.op, nd.nm, nd.vk, nd.vn, nd.vt, some ⟨gs, 0, none⟩, nd.sl, nd.sl + 80, some ⟨gk, 0, none⟩, nd.kl, nd.kl + 80, nd.ks⟩ := ⟨_, rfl⟩
              have hsl : ss.length = nd.sl := HSS.out.1
              have hnew : WhoI w w6 u nd := by
                rw [hu]; exact ⟨rfl, rfl, rfl, rfl, rfl, rfl, rfl, rfl, rfl, rfl, hok6, ss, hsl, HSS.out, hos6⟩
              have ho := own_below HO.out hb6
              obtain ⟨hf1, hz⟩ := fill2 us n k u HUS.out hlt
              have c0 := own_at Nd_len2 ho hz 0 _ rfl
              have f0 := ho.frozenAt (k * 7)
              have c1 := own_at Nd_len2 ho hz 1 _ rfl
              have f1 := ho.frozenAt (k * 7 + 1)
              have c2 := own_at Nd_len2 ho hz 2 _ rfl
              have f2 := ho.frozenAt (k * 7 + 2)
              have c3 := own_at Nd_len2 ho hz 3 _ rfl
              have f3 := ho.frozenAt (k * 7 + 3)
              have c4 := own_at Nd_len2 ho hz 4 _ rfl
              have f4 := ho.frozenAt (k * 7 + 4)
              have c5 := own_at Nd_len2 ho hz 5 _ rfl
              have f5 := ho.frozenAt (k * 7 + 5)
              have c6 := own_at Nd_len2 ho hz 6 _ rfl
              have f6 := ho.frozenAt (k * 7 + 6)
              have b0 := cell_of_row w6 _ 0 _ _ _ G6
              have b1 := cell_of_row w6 _ 1 _ _ _ G6
              have b2 := cell_of_row w6 _ 2 _ _ _ G6
              have b3 := cell_of_row w6 _ 3 _ _ _ G6
              have b4 := cell_of_row w6 _ 4 _ _ _ G6
              have b5 := cell_of_row w6 _ 5 _ _ _ G6
              have b6 := cell_of_row w6 _ 6 _ _ _ G6
              simp only [List.getElem?_toArray, List.getElem?_cons_zero, List.getElem?_cons_succ] at b0 b1 b2 b3 b4 b5 b6
              simp only [Nat.add_zero, markNd] at c0 c1 c2 c3 c4 c5 c6
              have hlenk := (List.getElem?_eq_some_iff.1 hz).1
              obtain ⟨ho', hg'⟩ := own_chain (Nd.cs u) _ w6 (k * 7) ho
              rw [setList_flat Nd.cs 7 Nd_len2 _ k u hlenk, hf1] at ho'
              have hW : ∀ (i : Nat) (u' nd' : Nd), (us ++ [u])[i]? = some u' → ns[i]? = some nd' → WhoI w (setChain w6 B (k * 7) (Nd.cs u)) u' nd' := by
                intro i u' nd' hi hi2
                by_cases hik : i < k
                · rw [List.getElem?_append_left (by rw [HUS.out]; exact hik)] at hi
                  exact ((HWH.out i u' nd' hi hi2).below hb6).grown ho hg'
                · have hik2 : i = k := by
                    have := (List.getElem?_eq_some_iff.1 hi).1
                    have h2 := HUS.out
                    simp at this; omega
                  subst hik2
                  rw [List.getElem?_append_right (by rw [HUS.out]; omega), HUS.out] at hi
                  simp at hi
                  rw [HND.out] at hi2
                  obtain rfl := Option.some.inj hi2
                  subst hi
                  exact hnew.grown ho hg'
              have hB6 : Below B w (setChain w6 B (k * 7) (Nd.cs u)) := below_chain (Nat.le_refl B) (Nd.cs u) w6 (k * 7) (HBK.out.trans (hb6.mono (by have := HBK.out.size; have := HB.out; omega)))
              rw [hu] at ho' hW hB6
              have HO' := Lib.hid ho'
              have HW' := Lib.hid hW
              have HB' := Lib.hid hB6
              have hlt8 : (k : Int) < (n : Int) + 8 := by omega
              clear hw6 G6 hos6 hok6 hb6 hu hnew ho hf1 hz hlenk ho' hg' hW hB6 n55 f55 G5 hb5 hb5' hos5
              go_wp2
              refine ⟨?_, ?measure⟩
              (repeat apply Exists.intro)
              refine ⟨?rel, rfl⟩
              case rel => exact ⟨k + 1, _, by omega, by go_num, by simp [HUS.out], HB'.out, HO'.out, HW'.out⟩
              case measure => simp [intOf]; omega
            · clear n5 f5
              obtain ⟨w6, hw6⟩ : ∃ w6, w6 = w5.setCell ⟨wr.heap.size, 5, none⟩ (.slice (some ⟨gs, 0, none⟩) nd.sl (nd.sl + 80)) := ⟨_, rfl⟩
              have G6 : w6.heap[wr.heap.size]? = some (.cells #[.int .i64 nd.op, .string nd.nm, .int .i64 nd.vk, .int .i64 nd.vn, .string nd.vt, .slice (some ⟨gs, 0, none⟩) nd.sl (nd.sl + 80), .slice (some ⟨gk, 0, none⟩) nd.kl (nd.kl + 80)] 49 (0, 0)) := by
                rw [hw6]; exact heap_setCell_same w5 wr.heap.size 5 _ _ _ G5
              have hos6 : w6.ownsRow w.heap.size 9 1 (.slice (some ⟨gs, 0, none⟩) (nd.sl + 80) (nd.sl + 80)) (nd.sl + 80) ((ss ++ List.replicate 80 mkS).flatMap Sv) := by
                rw [hw6]
                exact (owns_mono hos5 (show w.heap.size ≤ w4.heap.size by have := hBw2.out.size; omega)).kept (grown_set' w5 wr.heap.size 5 _) (.inr (own_ne hos5 G5 (by decide)))
              have hok6 : w6.ownsRow w.heap.size 3 1 (.slice (some ⟨gk, 0, none⟩) (nd.kl + 80) (nd.kl + 80)) (nd.kl + 80) ((nd.ks ++ List.replicate 80 (-77)).flatMap Iv) := by
                rw [hw6]
                have h5 := own_below HO4.out hb5'
                exact h5.kept (grown_set' w5 wr.heap.size 5 _) (.inr (own_ne h5 G5 (by decide)))
              have hb6 : Below wr.heap.size wr w6 := by
                rw [hw6]; exact (HB4.out.trans (hb5'.mono (by omega))).setCell (p := ⟨wr.heap.size, 5, none⟩) (Nat.le_refl _) _
              rw [← hw6]
              obtain ⟨u, hu⟩ : ∃ u : Nd, u = ⟨nd.op, nd.nm, nd.vk, nd.vn, nd.vt, some ⟨gs, 0, none⟩, nd.sl, nd.sl + 80, some ⟨gk, 0, none⟩, nd.kl, nd.kl + 80, nd.ks⟩ := ⟨_, rfl⟩
              have hsl : ss.length = nd.sl := HSS.out.1
              have hnew : WhoI w w6 u nd := by
                rw [hu]; exact ⟨rfl, rfl, rfl, rfl, rfl, rfl, rfl, rfl, rfl, rfl, hok6, ss, hsl, HSS.out, hos6⟩
              have ho := own_below HO.out hb6
              obtain ⟨hf1, hz⟩ := fill2 us n k u HUS.out hlt
              have c0 := own_at Nd_len2 ho hz 0 _ rfl
              have f0 := ho.frozenAt (k * 7)
              have c1 := own_at Nd_len2 ho hz 1 _ rfl
              have f1 := ho.frozenAt (k * 7 + 1)
              have c2 := own_at Nd_len2 ho hz 2 _ rfl
              have f2 := ho.frozenAt (k * 7 + 2)
              have c3 := own_at Nd_len2 ho hz 3 _ rfl
              have f3 := ho.frozenAt (k * 7 + 3)
              have c4 := own_at Nd_len2 ho hz 4 _ rfl
              have f4 := ho.frozenAt (k * 7 + 4)
              have c5 := own_at Nd_len2 ho hz 5 _ rfl
              have f5 := ho.frozenAt (k * 7 + 5)
              have c6 := own_at Nd_len2 ho hz 6 _ rfl
              have f6 := ho.frozenAt (k * 7 + 6)
              have b0 := cell_of_row w6 _ 0 _ _ _ G6
              have b1 := cell_of_row w6 _ 1 _ _ _ G6
              have b2 := cell_of_row w6 _ 2 _ _ _ G6
              have b3 := cell_of_row w6 _ 3 _ _ _ G6
              have b4 := cell_of_row w6 _ 4 _ _ _ G6
              have b5 := cell_of_row w6 _ 5 _ _ _ G6
              have b6 := cell_of_row w6 _ 6 _ _ _ G6
              simp only [List.getElem?_toArray, List.getElem?_cons_zero, List.getElem?_cons_succ] at b0 b1 b2 b3 b4 b5 b6
              simp only [Nat.add_zero, markNd] at c0 c1 c2 c3 c4 c5 c6
              have hlenk := (List.getElem?_eq_some_iff.1 hz).1
              obtain ⟨ho', hg'⟩ := own_chain (Nd.cs u) _ w6 (k * 7) ho
              rw [setList_flat Nd.cs 7 Nd_len2 _ k u hlenk, hf1] at ho'
              have hW : ∀ (i : Nat) (u' nd' : Nd), (us ++ [u])[i]? = some u' → ns[i]? = some nd' → WhoI w (setChain w6 B (k * 7) (Nd.cs u)) u' nd' := by
                intro i u' nd' hi hi2
                by_cases hik : i < k
                · rw [List.getElem?_append_left (by rw [HUS.out]; exact hik)] at hi
                  exact ((HWH.out i u' nd' hi hi2).below hb6).grown ho hg'
                · have hik2 : i = k := by
                    have := (List.getElem?_eq_some_iff.1 hi).1
                    have h2 := HUS.out
                    simp at this; omega
                  subst hik2
                  rw [List.getElem?_append_right (by rw [HUS.out]; omega), HUS.out] at hi
                  simp at hi
                  rw [HND.out] at hi2
                  obtain rfl := Option.some.inj hi2
                  subst hi
                  exact hnew.grown ho hg'
              have hB6 : Below B w (setChain w6 B (k * 7) (Nd.cs u)) := below_chain (Nat.le_refl B) (Nd.cs u) w6 (k * 7) (HBK.out.trans (hb6.mono (by have := HBK.out.size; have := HB.out; omega)))
              rw [hu] at ho' hW hB6
              have HO' := Lib.hid ho'
              have HW' := Lib.hid hW
              have HB' := Lib.hid hB6
              have hlt8 : (k : Int) < (n : Int) + 8 := by omega
              clear hw6 G6 hos6 hok6 hb6 hu hnew ho hf1 hz hlenk ho' hg' hW hB6 n55 f55 G5 hb5 hb5' hos5
              go_wp2
              refine ⟨?_, ?measure⟩
              (repeat apply Exists.intro)
              refine ⟨?rel, rfl⟩
              case rel => exact ⟨k + 1, _, by omega, by go_num, by simp [HUS.out], HB'.out, HO'.out, HW'.out⟩
              case measure => simp [intOf]; omega
            · clear n5 f5
              obtain ⟨w6, hw6⟩ : ∃ w6, w6 = w5.setCell ⟨wr.heap.size, 5, none⟩ (.slice (some ⟨gs, 0, none⟩) nd.sl (nd.sl + 80)) := ⟨_, rfl⟩
              have G6 : w6.heap[wr.heap.size]? = some (.cells #[.int .i64 nd.op, .string nd.nm, .int .i64 nd.vk, .int .i64 nd.vn, .string nd.vt, .slice (some ⟨gs, 0, none⟩) nd.sl (nd.sl + 80), .slice (some ⟨gk, 0, none⟩) nd.kl (nd.kl + 80)] 49 (0, 0)) := by
                rw [hw6]; exact heap_setCell_same w5 wr.heap.size 5 _ _ _ G5
              have hos6 : w6.ownsRow w.heap.size 9 1 (.slice (some ⟨gs, 0, none⟩) (nd.sl + 80) (nd.sl + 80)) (nd.sl + 80) ((ss ++ List.replicate 80 mkS).flatMap Sv) := by
                rw [hw6]
                exact (owns_mono hos5 (show w.heap.size ≤ w4.heap.size by have := hBw2.out.size; omega)).kept (grown_set' w5 wr.heap.size 5 _) (.inr (own_ne hos5 G5 (by decide)))
              have hok6 : w6.ownsRow w.heap.size 3 1 (.slice (some ⟨gk, 0, none⟩) (nd.kl + 80) (nd.kl + 80)) (nd.kl + 80) ((nd.ks ++ List.replicate 80 (-77)).flatMap Iv) := by
                rw [hw6]
                have h5 := own_below HO4.out hb5'
                exact h5.kept (grown_set' w5 wr.heap.size 5 _) (.inr (own_ne h5 G5 (by decide)))
              have hb6 : Below wr.heap.size wr w6 := by
                rw [hw6]; exact (HB4.out.trans (hb5'.mono (by omega))).setCell (p := ⟨wr.heap.size, 5, none⟩) (Nat.le_refl _) _
              rw [← hw6]
              obtain ⟨u, hu⟩ : ∃ u : Nd, u = ⟨nd.op, nd.nm, nd.vk, nd.vn, nd.vt, some ⟨gs, 0, none⟩, nd.sl, nd.sl + 80, some ⟨gk, 0, none⟩, nd.kl, nd.kl + 80, nd.ks⟩ := ⟨_, rfl⟩
              have hsl : ss.length = nd.sl := HSS.out.1
              have hnew : WhoI w w6 u nd := by
                rw [hu]; exact ⟨rfl, rfl, rfl, rfl, rfl, rfl, rfl, rfl, rfl, rfl, hok6, ss, hsl, HSS.out, hos6⟩
              have ho := own_below HO.out hb6
              obtain ⟨hf1, hz⟩ := fill2 us n k u HUS.out hlt
              have c0 := own_at Nd_len2 ho hz 0 _ rfl
              have f0 := ho.frozenAt (k * 7)
              have c1 := own_at Nd_len2 ho hz 1 _ rfl
              have f1 := ho.frozenAt (k * 7 + 1)
              have c2 := own_at Nd_len2 ho hz 2 _ rfl
              have f2 := ho.frozenAt (k * 7 + 2)
              have c3 := own_at Nd_len2 ho hz 3 _ rfl
              have f3 := ho.frozenAt (k * 7 + 3)
              have c4 := own_at Nd_len2 ho hz 4 _ rfl
              have f4 := ho.frozenAt (k * 7 + 4)
              have c5 := own_at Nd_len2 ho hz 5 _ rfl
              have f5 := ho.frozenAt (k * 7 + 5)
              have c6 := own_at Nd_len2 ho hz 6 _ rfl
              have f6 := ho.frozenAt (k * 7 + 6)
              have b0 := cell_of_row w6 _ 0 _ _ _ G6
              have b1 := cell_of_row w6 _ 1 _ _ _ G6
              have b2 := cell_of_row w6 _ 2 _ _ _ G6
              have b3 := cell_of_row w6 _ 3 _ _ _ G6
              have b4 := cell_of_row w6 _ 4 _ _ _ G6
              have b5 := cell_of_row w6 _ 5 _ _ _ G6
              have b6 := cell_of_row w6 _ 6 _ _ _ G6
              simp only [List.getElem?_toArray, List.getElem?_cons_zero, List.getElem?_cons_succ] at b0 b1 b2 b3 b4 b5 b6
              simp only [Nat.add_zero, markNd] at c0 c1 c2 c3 c4 c5 c6
              have hlenk := (List.getElem?_eq_some_iff.1 hz).1
              obtain ⟨ho', hg'⟩ := own_chain (Nd.cs u) _ w6 (k * 7) ho
              rw [setList_flat Nd.cs 7 Nd_len2 _ k u hlenk, hf1] at ho'
              have hW : ∀ (i : Nat) (u' nd' : Nd), (us ++ [u])[i]? = some u' → ns[i]? = some nd' → WhoI w (setChain w6 B (k * 7) (Nd.cs u)) u' nd' := by
                intro i u' nd' hi hi2
                by_cases hik : i < k
                · rw [List.getElem?_append_left (by rw [HUS.out]; exact hik)] at hi
                  exact ((HWH.out i u' nd' hi hi2).below hb6).grown ho hg'
                · have hik2 : i = k := by
                    have := (List.getElem?_eq_some_iff.1 hi).1
                    have h2 := HUS.out
                    simp at this; omega
                  subst hik2
                  rw [List.getElem?_append_right (by rw [HUS.out]; omega), HUS.out] at hi
                  simp at hi
                  rw [HND.out] at hi2
                  obtain rfl := Option.some.inj hi2
                  subst hi
                  exact hnew.grown ho hg'
              have hB6 : Below B w (setChain w6 B (k * 7) (Nd.cs u)) := below_chain (Nat.le_refl B) (Nd.cs u) w6 (k * 7) (HBK.out.trans (hb6.mono (by have := HBK.out.size; have := HB.out; omega)))
              rw [hu] at ho' hW hB6
              have HO' := Lib.hid ho'
              have HW' := Lib.hid hW
              have HB' := Lib.hid hB6
              have hlt8 : (k : Int) < (n : Int) + 8 := by omega
              clear hw6 G6 hos6 hok6 hb6 hu hnew ho hf1 hz hlenk ho' hg' hW hB6 n55 f55 G5 hb5 hb5' hos5
              go_wp2
              refine ⟨?_, ?measure⟩
              (repeat apply Exists.intro)
              refine ⟨?rel, rfl⟩
              case rel => exact ⟨k + 1, _, by omega, by go_num, by simp [HUS.out], HB'.out, HO'.out, HW'.out⟩
              case measure => simp [intOf]; omega
          · obtain ⟨w4, hw4⟩ : ∃ w4, w4 = w3.setCell ⟨wr.heap.size, 6, none⟩ (.slice (some ⟨gk, 0, none⟩) nd.kl (nd.kl + 80)) := ⟨_, rfl⟩
            have hz3 : wr.heap.size < w3.heap.size := Nat.lt_of_lt_of_le hz2 hb3'.size
            have G4 : w4.heap[wr.heap.size]? = some (.cells #[.int .i64 nd.op, .string nd.nm, .int .i64 nd.vk, .int .i64 nd.vn, .string nd.vt, .slice nd.sa nd.sl nd.sc, .slice (some ⟨gk, 0, none⟩) nd.kl (nd.kl + 80)] 49 (0, 0)) := by
              rw [hw4]; exact heap_setCell_same w3 wr.heap.size 6 _ _ _ G3
            have hok4 : w4.ownsRow w.heap.size 3 1 (.slice (some ⟨gk, 0, none⟩) (nd.kl + 80) (nd.kl + 80)) (nd.kl + 80) ((nd.ks ++ List.replicate 80 (-77)).flatMap Iv) := by
              rw [hw4]
              exact (owns_mono hok3 (show w.heap.size ≤ w2.heap.size by have := hBw2.out.size; omega)).kept (grown_set' w3 wr.heap.size 6 _) (.inr (own_ne hok3 G3 (by decide)))
            have hb4 : Below wr.heap.size wr w4 := by
              rw [hw4]; exact (HB2.out.trans (hb3'.mono (by omega))).setCell (p := ⟨wr.heap.size, 6, none⟩) (Nat.le_refl _) _
            have hz4 : wr.heap.size < w4.heap.size := by rw [hw4]; simpa using hz3
            rw [← hw4]
            have n5 := cell_of_row w4 _ 5 _ _ _ G4
            have f5 := frozen_of_row w4 _ 5 _ _ G4
            simp only [List.getElem?_toArray, List.getElem?_cons_zero, List.getElem?_cons_succ] at n5
            have S4 := Lib.hid (HSS.out.below (hBw2.out.trans (hb4.mono hBw2.out.size)).drew)
            have HG4 := Lib.hid G4
            have HB4 := Lib.hid hb4
            have HO4 := Lib.hid hok4
            clear hw4 G4 hb4 hok4 G3 n63 f63 hok3 hb3 hb3' hz3 n6 f6
            go_wp2_with fail
            go_region_law (first
              | (go_simp; go_at_call 38; refine (roomy_S w4.drew nd.sa nd.sl nd.sc ss mkS S4.out (by omega)).mono ?_; rintro e w5 ⟨gs, rfl, hos5, hb5⟩
                 have hb5' : Below w4.heap.size w4 w5 := (Below.refl _ _).drew.trans hb5
                 have G5 := (hb5'.block wr.heap.size hz4).trans HG4.out
                 have n55 := keepg hb5' n5
                 have f55 := frozen_of_row w5 _ 5 _ _ G5))
            · clear n5 f5
              obtain ⟨w6, hw6⟩ : ∃ w6, w6 = w5.setCell ⟨wr.heap.size, 5, none⟩ (.slice (some ⟨gs, 0, none⟩) nd.sl (nd.sl + 80)) := ⟨_, rfl⟩
              have G6 : w6.heap[wr.heap.size]? = some (.cells #[.int .i64 nd.op, .string nd.nm, .int .i64 nd.vk, .int .i64 nd.vn, .string nd.vt, .slice (some ⟨gs, 0, none⟩) nd.sl (nd.sl + 80), .slice (some ⟨gk, 0, none⟩) nd.kl (nd.kl + 80)] 49 (0, 0)) := by
                rw [hw6]; exact heap_setCell_same w5 wr.heap.size 5 _ _ _ G5
              have hos6 : w6.ownsRow w.heap.size 9 1 (.slice (some ⟨gs, 0, none⟩) (nd.sl + 80) (nd.sl + 80)) (nd.sl + 80) ((ss ++ List.replicate 80 mkS).flatMap Sv) := by
                rw [hw6]
                exact (owns_mono hos5 (show w.heap.size ≤ w4.heap.size by have := hBw2.out.size; omega)).kept (grown_set' w5 wr.heap.size 5 _) (.inr (own_ne hos5 G5 (by decide)))
              have hok6 : w6.ownsRow w.heap.size 3 1 (.slice (some ⟨gk, 0, none⟩) (nd.kl + 80) (nd.kl + 80)) (nd.kl + 80) ((nd.ks ++ List.replicate 80 (-77)).flatMap Iv) := by
                rw [hw6]
                have h5 := own_below HO4.out hb5'
                exact h5.kept (grown_set' w5 wr.heap.size 5 _) (.inr (own_ne h5 G5 (by decide)))
              have hb6 : Below wr.heap.size wr w6 := by
                rw [hw6]; exact (HB4.out.trans (hb5'.mono (by omega))).setCell (p := ⟨wr.heap.size, 5, none⟩) (Nat.le_refl _) _
              rw [← hw6]
              obtain ⟨u, hu⟩ : ∃ u : Nd, u = ⟨nd.op, nd.nm, nd.vk, nd.vn, nd.vt, some ⟨gs, 0, none⟩, nd.sl, nd.sl + 80, some ⟨gk, 0, none⟩, nd.kl, nd.kl + 80, nd.ks⟩ := ⟨_, rfl⟩
              have hsl : ss.length = nd.sl := HSS.out.1
              have hnew : WhoI w w6 u nd := by
                rw [hu]; exact ⟨rfl, rfl, rfl, rfl, rfl, rfl, rfl, rfl, rfl, rfl, hok6, ss, hsl, HSS.out, hos6⟩
              have ho := own_below HO.out hb6
              obtain ⟨hf1, hz⟩ := fill2 us n k u HUS.out hlt
              have c0 := own_at Nd_len2 ho hz 0 _ rfl
              have f0 := ho.frozenAt (k * 7)
              have c1 := own_at Nd_len2 ho hz 1 _ rfl
              have f1 := ho.frozenAt (k * 7 + 1)
              have c2 := own_at Nd_len2 ho hz 2 _ rfl
              have f2 := ho.frozenAt (k * 7 + 2)
              have c3 := own_at Nd_len2 ho hz 3 _ rfl
              have f3 := ho.frozenAt (k * 7 + 3)
              have c4 := own_at Nd_len2 ho hz 4 _ rfl
              have f4 := ho.frozenAt (k * 7 + 4)
              have c5 := own_at Nd_len2 ho hz 5 _ rfl
              have f5 := ho.frozenAt (k * 7 + 5)
              have c6 := own_at Nd_len2 ho hz 6 _ rfl
              have f6 := ho.frozenAt (k * 7 + 6)
              have b0 := cell_of_row w6 _ 0 _ _ _ G6
              have b1 := cell_of_row w6 _ 1 _ _ _ G6
              have b2 := cell_of_row w6 _ 2 _ _ _ G6
              have b3 := cell_of_row w6 _ 3 _ _ _ G6
              have b4 := cell_of_row w6 _ 4 _ _ _ G6
              have b5 := cell_of_row w6 _ 5 _ _ _ G6
              have b6 := cell_of_row w6 _ 6 _ _ _ G6
              simp only [List.getElem?_toArray, List.getElem?_cons_zero, List.getElem?_cons_succ] at b0 b1 b2 b3 b4 b5 b6
              simp only [Nat.add_zero, markNd] at c0 c1 c2 c3 c4 c5 c6
              have hlenk := (List.getElem?_eq_some_iff.1 hz).1
              obtain ⟨ho', hg'⟩ := own_chain (Nd.cs u) _ w6 (k * 7) ho
              rw [setList_flat Nd.cs 7 Nd_len2 _ k u hlenk, hf1] at ho'
              have hW : ∀ (i : Nat) (u' nd' : Nd), (us ++ [u])[i]? = some u' → ns[i]? = some nd' → WhoI w (setChain w6 B (k * 7) (Nd.cs u)) u' nd' := by
                intro i u' nd' hi hi2
                by_cases hik : i < k
                · rw [List.getElem?_append_left (by rw [HUS.out]; exact hik)] at hi
                  exact ((HWH.out i u' nd' hi hi2).below hb6).grown ho hg'
                · have hik2 : i = k := by
                    have := (List.getElem?_eq_some_iff.1 hi).1
                    have h2 := HUS.out
                    simp at this; omega
                  subst hik2
                  rw [List.getElem?_append_right (by rw [HUS.out]; omega), HUS.out] at hi
                  simp at hi
                  rw [HND.out] at hi2
                  obtain rfl := Option.some.inj hi2
                  subst hi
                  exact hnew.grown ho hg'
              have hB6 : Below B w (setChain w6 B (k * 7) (Nd.cs u)) := below_chain (Nat.le_refl B) (Nd.cs u) w6 (k * 7) (HBK.out.trans (hb6.mono (by have := HBK.out.size; have := HB.out; omega)))
              rw [hu] at ho' hW hB6
              have HO' := Lib.hid ho'
              have HW' := Lib.hid hW
              have HB' := Lib.hid hB6
              have hlt8 : (k : Int) < (n : Int) + 8 := by omega
              clear hw6 G6 hos6 hok6 hb6 hu hnew ho hf1 hz hlenk ho' hg' hW hB6 n55 f55 G5 hb5 hb5' hos5
              go_wp2
              refine ⟨?_, ?measure⟩
              (repeat apply Exists.intro)
              refine ⟨?rel, rfl⟩
              case rel => exact ⟨k + 1, _, by omega, by go_num, by simp [HUS.out], HB'.out, HO'.out, HW'.out⟩
              case measure => simp [intOf]; omega
            · clear n5 f5
              obtain ⟨w6, hw6⟩ : ∃ w6, w6 = w5.setCell ⟨wr.heap.size, 5, none⟩ (.slice (some ⟨gs, 0, none⟩) nd.sl (nd.sl + 80)) := ⟨_, rfl⟩
              have G6 : w6.heap[wr.heap.size]? = some (.cells #[.int .i64 nd.op, .string nd.nm, .int .i64 nd.vk, .int .i64 nd.vn, .string nd.vt, .slice (some ⟨gs, 0, none⟩) nd.sl (nd.sl + 80), .slice (some ⟨gk, 0, none⟩) nd.kl (nd.kl + 80)] 49 (0, 0)) := by
                rw [hw6]; exact heap_setCell_same w5 wr.heap.size 5 _ _ _ G5
              have hos6 : w6.ownsRow w.heap.size 9 1 (.slice (some ⟨gs, 0, none⟩) (nd.sl + 80) (nd.sl + 80)) (nd.sl + 80) ((ss ++ List.replicate 80 mkS).flatMap Sv) := by
                rw [hw6]
                exact (owns_mono hos5 (show w.heap.size ≤ w4.heap.size by have := hBw2.out.size; omega)).kept (grown_set' w5 wr.heap.size 5 _) (.inr (own_ne hos5 G5 (by decide)))
              have hok6 : w6.ownsRow w.heap.size 3 1 (.slice (some ⟨gk, 0, none⟩) (nd.kl + 80) (nd.kl + 80)) (nd.kl + 80) ((nd.ks ++ List.replicate 80 (-77)).flatMap Iv) := by
                rw [hw6]
                have h5 := own_below HO4.out hb5'
                exact h5.kept (grown_set' w5 wr.heap.size 5 _) (.inr (own_ne h5 G5 (by decide)))
              have hb6 : Below wr.heap.size wr w6 := by
                rw [hw6]; exact (HB4.out.trans (hb5'.mono (by omega))).setCell (p := ⟨wr.heap.size, 5, none⟩) (Nat.le_refl _) _
              rw [← hw6]
              obtain ⟨u, hu⟩ : ∃ u : Nd, u = ⟨nd.op, nd.nm, nd.vk, nd.vn, nd.vt, some ⟨gs, 0, none⟩, nd.sl, nd.sl + 80, some ⟨gk, 0, none⟩, nd.kl, nd.kl + 80, nd.ks⟩ := ⟨_, rfl⟩
              have hsl : ss.length = nd.sl := HSS.out.1
              have hnew : WhoI w w6 u nd := by
                rw [hu]; exact ⟨rfl, rfl, rfl, rfl, rfl, rfl, rfl, rfl, rfl, rfl, hok6, ss, hsl, HSS.out, hos6⟩
              have ho := own_below HO.out hb6
              obtain ⟨hf1, hz⟩ := fill2 us n k u HUS.out hlt
              have c0 := own_at Nd_len2 ho hz 0 _ rfl
              have f0 := ho.frozenAt (k * 7)
              have c1 := own_at Nd_len2 ho hz 1 _ rfl
              have f1 := ho.frozenAt (k * 7 + 1)
              have c2 := own_at Nd_len2 ho hz 2 _ rfl
              have f2 := ho.frozenAt (k * 7 + 2)
              have c3 := own_at Nd_len2 ho hz 3 _ rfl
              have f3 := ho.frozenAt (k * 7 + 3)
              have c4 := own_at Nd_len2 ho hz 4 _ rfl
              have f4 := ho.frozenAt (k * 7 + 4)
              have c5 := own_at Nd_len2 ho hz 5 _ rfl
              have f5 := ho.frozenAt (k * 7 + 5)
              have c6 := own_at Nd_len2 ho hz 6 _ rfl
              have f6 := ho.frozenAt (k * 7 + 6)
              have b0 := cell_of_row w6 _ 0 _ _ _ G6
              have b1 := cell_of_row w6 _ 1 _ _ _ G6
              have b2 := cell_of_row w6 _ 2 _ _ _ G6
              have b3 := cell_of_row w6 _ 3 _ _ _ G6
              have b4 := cell_of_row w6 _ 4 _ _ _ G6
              have b5 := cell_of_row w6 _ 5 _ _ _ G6
              have b6 := cell_of_row w6 _ 6 _ _ _ G6
              simp only [List.getElem?_toArray, List.getElem?_cons_zero, List.getElem?_cons_succ] at b0 b1 b2 b3 b4 b5 b6
              simp only [Nat.add_zero, markNd] at c0 c1 c2 c3 c4 c5 c6
              have hlenk := (List.getElem?_eq_some_iff.1 hz).1
              obtain ⟨ho', hg'⟩ := own_chain (Nd.cs u) _ w6 (k * 7) ho
              rw [setList_flat Nd.cs 7 Nd_len2 _ k u hlenk, hf1] at ho'
              have hW : ∀ (i : Nat) (u' nd' : Nd), (us ++ [u])[i]? = some u' → ns[i]? = some nd' → WhoI w (setChain w6 B (k * 7) (Nd.cs u)) u' nd' := by
                intro i u' nd' hi hi2
                by_cases hik : i < k
                · rw [List.getElem?_append_left (by rw [HUS.out]; exact hik)] at hi
                  exact ((HWH.out i u' nd' hi hi2).below hb6).grown ho hg'
                · have hik2 : i = k := by
                    have := (List.getElem?_eq_some_iff.1 hi).1
                    have h2 := HUS.out
                    simp at this; omega
                  subst hik2
                  rw [List.getElem?_append_right (by rw [HUS.out]; omega), HUS.out] at hi
                  simp at hi
                  rw [HND.out] at hi2
                  obtain rfl := Option.some.inj hi2
                  subst hi
                  exact hnew.grown ho hg'
              have hB6 : Below B w (setChain w6 B (k * 7) (Nd.cs u)) := below_chain (Nat.le_refl B) (Nd.cs u) w6 (k * 7) (HBK.out.trans (hb6.mono (by have := HBK.out.size; have := HB.out; omega)))
              rw [hu] at ho' hW hB6
              have HO' := Lib.hid ho'
              have HW' := Lib.hid hW
              have HB' := Lib.hid hB6
              have hlt8 : (k : Int) < (n : Int) + 8 := by omega
              clear hw6 G6 hos6 hok6 hb6 hu hnew ho hf1 hz hlenk ho' hg' hW hB6 n55 f55 G5 hb5 hb5' hos5
              go_wp2
              refine ⟨?_, ?measure⟩
              (repeat apply Exists.intro)
              refine ⟨?rel, rfl⟩
              case rel => exact ⟨k + 1, _, by omega, by go_num, by simp [HUS.out], HB'.out, HO'.out, HW'.out⟩
              case measure => simp [intOf]; omega
            · clear n5 f5
              obtain ⟨w6, hw6⟩ : ∃ w6, w6 = w5.setCell ⟨wr.heap.size, 5, none⟩ (.slice (some ⟨gs, 0, none⟩) nd.sl (nd.sl + 80)) := ⟨_, rfl⟩
              have G6 : w6.heap[wr.heap.size]? = some (.cells #[.int .i64 nd.op, .string nd.nm, .int .i64 nd.vk, .int .i64 nd.vn, .string nd.vt, .slice (some ⟨gs, 0, none⟩) nd.sl (nd.sl + 80), .slice (some ⟨gk, 0, none⟩) nd.kl (nd.kl + 80)] 49 (0, 0)) := by
                rw [hw6]; exact heap_setCell_same w5 wr.heap.size 5 _ _ _ G5
              have hos6 : w6.ownsRow w.heap.size 9 1 (.slice (some ⟨gs, 0, none⟩) (nd.sl + 80) (nd.sl + 80)) (nd.sl + 80) ((ss ++ List.replicate 80 mkS).flatMap Sv) := by
                rw [hw6]
                exact (owns_mono hos5 (show w.heap.size ≤ w4.heap.size by have := hBw2.out.size; omega)).kept (grown_set' w5 wr.heap.size 5 _) (.inr (own_ne hos5 G5 (by decide)))
              have hok6 : w6.ownsRow w.heap.size 3 1 (.slice (some ⟨gk, 0, none⟩) (nd.kl + 80) (nd.kl + 80)) (nd.kl + 80) ((nd.ks ++ List.replicate 80 (-77)).flatMap Iv) := by
                rw [hw6]
                have h5 := own_below HO4.out hb5'
                exact h5.kept (grown_set' w5 wr.heap.size 5 _) (.inr (own_ne h5 G5 (by decide)))
              have hb6 : Below wr.heap.size wr w6 := by
                rw [hw6]; exact (HB4.out.trans (hb5'.mono (by omega))).setCell (p := ⟨wr.heap.size, 5, none⟩) (Nat.le_refl _) _
              rw [← hw6]
              obtain ⟨u, hu⟩ : ∃ u : Nd, u = ⟨nd.op, nd.nm, nd.vk, nd.vn, nd.vt, some ⟨gs, 0, none⟩, nd.sl, nd.sl + 80, some ⟨gk, 0, none⟩, nd.kl, nd.kl + 80, nd.ks⟩ := ⟨_, rfl⟩
              have hsl : ss.length = nd.sl := HSS.out.1
              have hnew : WhoI w w6 u nd := by
                rw [hu]; exact ⟨rfl, rfl, rfl, rfl, rfl, rfl, rfl, rfl, rfl, rfl, hok6, ss, hsl, HSS.out, hos6⟩
              have ho := own_below HO.out hb6
              obtain ⟨hf1, hz⟩ := fill2 us n k u HUS.out hlt
              have c0 := own_at Nd_len2 ho hz 0 _ rfl
              have f0 := ho.frozenAt (k * 7)
              have c1 := own_at Nd_len2 ho hz 1 _ rfl
              have f1 := ho.frozenAt (k * 7 + 1)
              have c2 := own_at Nd_len2 ho hz 2 _ rfl
              have f2 := ho.frozenAt (k * 7 + 2)
              have c3 := own_at Nd_len2 ho hz 3 _ rfl
              have f3 := ho.frozenAt (k * 7 + 3)
              have c4 := own_at Nd_len2 ho hz 4 _ rfl
              have f4 := ho.frozenAt (k * 7 + 4)
              have c5 := own_at Nd_len2 ho hz 5 _ rfl
              have f5 := ho.frozenAt (k * 7 + 5)
              have c6 := own_at Nd_len2 ho hz 6 _ rfl
              have f6 := ho.frozenAt (k * 7 + 6)
              have b0 := cell_of_row w6 _ 0 _ _ _ G6
              have b1 := cell_of_row w6 _ 1 _ _ _ G6
              have b2 := cell_of_row w6 _ 2 _ _ _ G6
              have b3 := cell_of_row w6 _ 3 _ _ _ G6
              have b4 := cell_of_row w6 _ 4 _ _ _ G6
              have b5 := cell_of_row w6 _ 5 _ _ _ G6
              have b6 := cell_of_row w6 _ 6 _ _ _ G6
              simp only [List.getElem?_toArray, List.getElem?_cons_zero, List.getElem?_cons_succ] at b0 b1 b2 b3 b4 b5 b6
              simp only [Nat.add_zero, markNd] at c0 c1 c2 c3 c4 c5 c6
              have hlenk := (List.getElem?_eq_some_iff.1 hz).1
              obtain ⟨ho', hg'⟩ := own_chain (Nd.cs u) _ w6 (k * 7) ho
              rw [setList_flat Nd.cs 7 Nd_len2 _ k u hlenk, hf1] at ho'
              have hW : ∀ (i : Nat) (u' nd' : Nd), (us ++ [u])[i]? = some u' → ns[i]? = some nd' → WhoI w (setChain w6 B (k * 7) (Nd.cs u)) u' nd' := by
                intro i u' nd' hi hi2
                by_cases hik : i < k
                · rw [List.getElem?_append_left (by rw [HUS.out]; exact hik)] at hi
                  exact ((HWH.out i u' nd' hi hi2).below hb6).grown ho hg'
                · have hik2 : i = k := by
                    have := (List.getElem?_eq_some_iff.1 hi).1
                    have h2 := HUS.out
                    simp at this; omega
                  subst hik2
                  rw [List.getElem?_append_right (by rw [HUS.out]; omega), HUS.out] at hi
                  simp at hi
                  rw [HND.out] at hi2
                  obtain rfl := Option.some.inj hi2
                  subst hi
                  exact hnew.grown ho hg'
              have hB6 : Below B w (setChain w6 B (k * 7) (Nd.cs u)) := below_chain (Nat.le_refl B) (Nd.cs u) w6 (k * 7) (HBK.out.trans (hb6.mono (by have := HBK.out.size; have := HB.out; omega)))
              rw [hu] at ho' hW hB6
              have HO' := Lib.hid ho'
              have HW' := Lib.hid hW
              have HB' := Lib.hid hB6
              have hlt8 : (k : Int) < (n : Int) + 8 := by omega
              clear hw6 G6 hos6 hok6 hb6 hu hnew ho hf1 hz hlenk ho' hg' hW hB6 n55 f55 G5 hb5 hb5' hos5
              go_wp2
              refine ⟨?_, ?measure⟩
              (repeat apply Exists.intro)
              refine ⟨?rel, rfl⟩
              case rel => exact ⟨k + 1, _, by omega, by go_num, by simp [HUS.out], HB'.out, HO'.out, HW'.out⟩
              case measure => simp [intOf]; omega
          · obtain ⟨w4, hw4⟩ : ∃ w4, w4 = w3.setCell ⟨wr.heap.size, 6, none⟩ (.slice (some ⟨gk, 0, none⟩) nd.kl (nd.kl + 80)) := ⟨_, rfl⟩
            have hz3 : wr.heap.size < w3.heap.size := Nat.lt_of_lt_of_le hz2 hb3'.size
            have G4 : w4.heap[wr.heap.size]? = some (.cells #[.int .i64 nd.op, .string nd.nm, .int .i64 nd.vk, .int .i64 nd.vn, .string nd.vt, .slice nd.sa nd.sl nd.sc, .slice (some ⟨gk, 0, none⟩) nd.kl (nd.kl + 80)] 49 (0, 0)) := by
              rw [hw4]; exact heap_setCell_same w3 wr.heap.size 6 _ _ _ G3
            have hok4 : w4.ownsRow w.heap.size 3 1 (.slice (some ⟨gk, 0, none⟩) (nd.kl + 80) (nd.kl + 80)) (nd.kl + 80) ((nd.ks ++ List.replicate 80 (-77)).flatMap Iv) := by
              rw [hw4]
              exact (owns_mono hok3 (show w.heap.size ≤ w2.heap.size by have := hBw2.out.size; omega)).kept (grown_set' w3 wr.heap.size 6 _) (.inr (own_ne hok3 G3 (by decide)))
            have hb4 : Below wr.heap.size wr w4 := by
              rw [hw4]; exact (HB2.out.trans (hb3'.mono (by omega))).setCell (p := ⟨wr.heap.size, 6, none⟩) (Nat.le_refl _) _
            have hz4 : wr.heap.size < w4.heap.size := by rw [hw4]; simpa using hz3
            rw [← hw4]
            have n5 := cell_of_row w4 _ 5 _ _ _ G4
            have f5 := frozen_of_row w4 _ 5 _ _ G4
            simp only [List.getElem?_toArray, List.getElem?_cons_zero, List.getElem?_cons_succ] at n5
            have S4 := Lib.hid (HSS.out.below (hBw2.out.trans (hb4.mono hBw2.out.size)).drew)
            have HG4 := Lib.hid G4
            have HB4 := Lib.hid hb4
            have HO4 := Lib.hid hok4
            clear hw4 G4 hb4 hok4 G3 n63 f63 hok3 hb3 hb3' hz3 n6 f6
            go_wp2_with fail
            go_region_law (first
              | (go_simp; go_at_call 38; refine (roomy_S w4.drew nd.sa nd.sl nd.sc ss mkS S4.out (by omega)).mono ?_; rintro e w5 ⟨gs, rfl, hos5, hb5⟩
                 have hb5' : Below w4.heap.size w4 w5 := (Below.refl _ _).drew.trans hb5
                 have G5 := (hb5'.block wr.heap.size hz4).trans HG4.out
                 have n55 := keepg hb5' n5
                 have f55 := frozen_of_row w5 _ 5 _ _ G5))
            · clear n5 f5
              obtain ⟨w6, hw6⟩ : ∃ w6, w6 = w5.setCell ⟨wr.heap.size, 5, none⟩ (.slice (some ⟨gs, 0, none⟩) nd.sl (nd.sl + 80)) := ⟨_, rfl⟩
              have G6 : w6.heap[wr.heap.size]? = some (.cells #[.int .i64 nd.op, .string nd.nm, .int .i64 nd.vk, .int .i64 nd.vn, .string nd.vt, .slice (some ⟨gs, 0, none⟩) nd.sl (nd.sl + 80), .slice (some ⟨gk, 0, none⟩) nd.kl (nd.kl + 80)] 49 (0, 0)) := by
                rw [hw6]; exact heap_setCell_same w5 wr.heap.size 5 _ _ _ G5
              have hos6 : w6.ownsRow w.heap.size 9 1 (.slice (some ⟨gs, 0, none⟩) (nd.sl + 80) (nd.sl + 80)) (nd.sl + 80) ((ss ++ List.replicate 80 mkS).flatMap Sv) := by
                rw [hw6]
                exact (owns_mono hos5 (show w.heap.size ≤ w4.heap.size by have := hBw2.out.size; omega)).kept (grown_set' w5 wr.heap.size 5 _) (.inr (own_ne hos5 G5 (by decide)))
              have hok6 : w6.ownsRow w.heap.size 3 1 (.slice (some ⟨gk, 0, none⟩) (nd.kl + 80) (nd.kl + 80)) (nd.kl + 80) ((nd.ks ++ List.replicate 80 (-77)).flatMap Iv) := by
                rw [hw6]
                have h5 := own_below HO4.out hb5'
                exact h5.kept (grown_set' w5 wr.heap.size 5 _) (.inr (own_ne h5 G5 (by decide)))
              have hb6 : Below wr.heap.size wr w6 := by
                rw [hw6]; exact (HB4.out.trans (hb5'.mono (by omega))).setCell (p := ⟨wr.heap.size, 5, none⟩) (Nat.le_refl _) _
              rw [← hw6]
              obtain ⟨u, hu⟩ : ∃ u : Nd, u = ⟨nd.op, nd.nm, nd.vk, nd.vn, nd.vt, some ⟨gs, 0, none⟩, nd.sl, nd.sl + 80, some ⟨gk, 0, none⟩, nd.kl, nd.kl + 80, nd.ks⟩ := ⟨_, rfl⟩
              have hsl : ss.length = nd.sl := HSS.out.1
              have hnew : WhoI w w6 u nd := by
                rw [hu]; exact ⟨rfl, rfl, rfl, rfl, rfl, rfl, rfl, rfl, rfl, rfl, hok6, ss, hsl, HSS.out, hos6⟩
              have ho := own_below HO.out hb6
              obtain ⟨hf1, hz⟩ := fill2 us n k u HUS.out hlt
              have c0 := own_at Nd_len2 ho hz 0 _ rfl
              have f0 := ho.frozenAt (k * 7)
              have c1 := own_at Nd_len2 ho hz 1 _ rfl
              have f1 := ho.frozenAt (k * 7 + 1)
              have c2 := own_at Nd_len2 ho hz 2 _ rfl
              have f2 := ho.frozenAt (k * 7 + 2)
              have c3 := own_at Nd_len2 ho hz 3 _ rfl
              have f3 := ho.frozenAt (k * 7 + 3)
              have c4 := own_at Nd_len2 ho hz 4 _ rfl
              have f4 := ho.frozenAt (k * 7 + 4)
              have c5 := own_at Nd_len2 ho hz 5 _ rfl
              have f5 := ho.frozenAt (k * 7 + 5)
              have c6 := own_at Nd_len2 ho hz 6 _ rfl
              have f6 := ho.frozenAt (k * 7 + 6)
              have b0 := cell_of_row w6 _ 0 _ _ _ G6
              have b1 := cell_of_row w6 _ 1 _ _ _ G6
              have b2 := cell_of_row w6 _ 2 _ _ _ G6
              have b3 := cell_of_row w6 _ 3 _ _ _ G6
              have b4 := cell_of_row w6 _ 4 _ _ _ G6
              have b5 := cell_of_row w6 _ 5 _ _ _ G6
              have b6 := cell_of_row w6 _ 6 _ _ _ G6
              simp only [List.getElem?_toArray, List.getElem?_cons_zero, List.getElem?_cons_succ] at b0 b1 b2 b3 b4 b5 b6
              simp only [Nat.add_zero, markNd] at c0 c1 c2 c3 c4 c5 c6
              have hlenk := (List.getElem?_eq_some_iff.1 hz).1
              obtain ⟨ho', hg'⟩ := own_chain (Nd.cs u) _ w6 (k * 7) ho
              rw [setList_flat Nd.cs 7 Nd_len2 _ k u hlenk, hf1] at ho'
              have hW : ∀ (i : Nat) (u' nd' : Nd), (us ++ [u])[i]? = some u' → ns[i]? = some nd' → WhoI w (setChain w6 B (k * 7) (Nd.cs u)) u' nd' := by
                intro i u' nd' hi hi2
                by_cases hik : i < k
                · rw [List.getElem?_append_left (by rw [HUS.out]; exact hik)] at hi
                  exact ((HWH.out i u' nd' hi hi2).below hb6).grown ho hg'
                · have hik2 : i = k := by
                    have := (List.getElem?_eq_some_iff.1 hi).1
                    have h2 := HUS.out
                    simp at this; omega
                  subst hik2
                  rw [List.getElem?_append_right (by rw [HUS.out]; omega), HUS.out] at hi
                  simp at hi
                  rw [HND.out] at hi2
                  obtain rfl := Option.some.inj hi2
                  subst hi
                  exact hnew.grown ho hg'
              have hB6 : Below B w (setChain w6 B (k * 7) (Nd.cs u)) := below_chain (Nat.le_refl B) (Nd.cs u) w6 (k * 7) (HBK.out.trans (hb6.mono (by have := HBK.out.size; have := HB.out; omega)))
              rw [hu] at ho' hW hB6
              have HO' := Lib.hid ho'
              have HW' := Lib.hid hW
              have HB' := Lib.hid hB6
              have hlt8 : (k : Int) < (n : Int) + 8 := by omega
              clear hw6 G6 hos6 hok6 hb6 hu hnew ho hf1 hz hlenk ho' hg' hW hB6 n55 f55 G5 hb5 hb5' hos5
              go_wp2
              refine ⟨?_, ?measure⟩
              (repeat apply Exists.intro)
              refine ⟨?rel, rfl⟩
              case rel => exact ⟨k + 1, _, by omega, by go_num, by simp [HUS.out], HB'.out, HO'.out, HW'.out⟩
              case measure => simp [intOf]; omega
            · clear n5 f5
              obtain ⟨w6, hw6⟩ : ∃ w6, w6 = w5.setCell ⟨wr.heap.size, 5, none⟩ (.slice (some ⟨gs, 0, none⟩) nd.sl (nd.sl + 80)) := ⟨_, rfl⟩
              have G6 : w6.heap[wr.heap.size]? = some (.cells #[.int .i64 nd.op, .string nd.nm, .int .i64 nd.vk, .int .i64 nd.vn, .string nd.vt, .slice (some ⟨gs, 0, none⟩) nd.sl (nd.sl + 80), .slice (some ⟨gk, 0, none⟩) nd.kl (nd.kl + 80)] 49 (0, 0)) := by
                rw [hw6]; exact heap_setCell_same w5 wr.heap.size 5 _ _ _ G5
              have hos6 : w6.ownsRow w.heap.size 9 1 (.slice (some ⟨gs, 0, none⟩) (nd.sl + 80) (nd.sl + 80)) (nd.sl + 80) ((ss ++ List.replicate 80 mkS).flatMap Sv) := by
                rw [hw6]
                exact (owns_mono hos5 (show w.heap.size ≤ w4.heap.size by have := hBw2.out.size; omega)).kept (grown_set' w5 wr.heap.size 5 _) (.inr (own_ne hos5 G5 (by decide)))
              have hok6 : w6.ownsRow w.heap.size 3 1 (.slice (some ⟨gk, 0, none⟩) (nd.kl + 80) (nd.kl + 80)) (nd.kl + 80) ((nd.ks ++ List.replicate 80 (-77)).flatMap Iv) := by
                rw [hw6]
                have h5 := own_below HO4.out hb5'
                exact h5.kept (grown_set' w5 wr.heap.size 5 _) (.inr (own_ne h5 G5 (by decide)))
              have hb6 : Below wr.heap.size wr w6 := by
                rw [hw6]; exact (HB4.out.trans (hb5'.mono (by omega))).setCell (p := ⟨wr.heap.size, 5, none⟩) (Nat.le_refl _) _
              rw [← hw6]
              obtain ⟨u, hu⟩ : ∃ u : Nd, u = ⟨nd.op, nd.nm, nd.vk, nd.vn, nd.vt, some ⟨gs, 0, none⟩, nd.sl, nd.sl + 80, some ⟨gk, 0, none⟩, nd.kl, nd.kl + 80, nd.ks⟩ := ⟨_, rfl⟩
              have hsl : ss.length = nd.sl := HSS.out.1
              have hnew : WhoI w w6 u nd := by
                rw [hu]; exact ⟨rfl, rfl, rfl, rfl, rfl, rfl, rfl, rfl, rfl, rfl, hok6, ss, hsl, HSS.out, hos6⟩
              have ho := own_below HO.out hb6
              obtain ⟨hf1, hz⟩ := fill2 us n k u HUS.out hlt
              have c0 := own_at Nd_len2 ho hz 0 _ rfl
              have f0 := ho.frozenAt (k * 7)
              have c1 := own_at Nd_len2 ho hz 1 _ rfl
              have f1 := ho.frozenAt (k * 7 + 1)
              have c2 := own_at Nd_len2 ho hz 2 _ rfl
              have f2 := ho.frozenAt (k * 7 + 2)
              have c3 := own_at Nd_len2 ho hz 3 _ rfl
              have f3 := ho.frozenAt (k * 7 + 3)
              have c4 := own_at Nd_len2 ho hz 4 _ rfl
              have f4 := ho.frozenAt (k * 7 + 4)
              have c5 := own_at Nd_len2 ho hz 5 _ rfl
              have f5 := ho.frozenAt (k * 7 + 5)
              have c6 := own_at Nd_len2 ho hz 6 _ rfl
              have f6 := ho.frozenAt (k * 7 + 6)
              have b0 := cell_of_row w6 _ 0 _ _ _ G6
              have b1 := cell_of_row w6 _ 1 _ _ _ G6
              have b2 := cell_of_row w6 _ 2 _ _ _ G6
              have b3 := cell_of_row w6 _ 3 _ _ _ G6
              have b4 := cell_of_row w6 _ 4 _ _ _ G6
              have b5 := cell_of_row w6 _ 5 _ _ _ G6
              have b6 := cell_of_row w6 _ 6 _ _ _ G6
              simp only [List.getElem?_toArray, List.getElem?_cons_zero, List.getElem?_cons_succ] at b0 b1 b2 b3 b4 b5 b6
              simp only [Nat.add_zero, markNd] at c0 c1 c2 c3 c4 c5 c6
              have hlenk := (List.getElem?_eq_some_iff.1 hz).1
              obtain ⟨ho', hg'⟩ := own_chain (Nd.cs u) _ w6 (k * 7) ho
              rw [setList_flat Nd.cs 7 Nd_len2 _ k u hlenk, hf1] at ho'
              have hW : ∀ (i : Nat) (u' nd' : Nd), (us ++ [u])[i]? = some u' → ns[i]? = some nd' → WhoI w (setChain w6 B (k * 7) (Nd.cs u)) u' nd' := by
                intro i u' nd' hi hi2
                by_cases hik : i < k
                · rw [List.getElem?_append_left (by rw [HUS.out]; exact hik)] at hi
                  exact ((HWH.out i u' nd' hi hi2).below hb6).grown ho hg'
                · have hik2 : i = k := by
                    have := (List.getElem?_eq_some_iff.1 hi).1
                    have h2 := HUS.out
                    simp at this; omega
                  subst hik2
                  rw [List.getElem?_append_right (by rw [HUS.out]; omega), HUS.out] at hi
                  simp at hi
                  rw [HND.out] at hi2
                  obtain rfl := Option.some.inj hi2
                  subst hi
                  exact hnew.grown ho hg'
              have hB6 : Below B w (setChain w6 B (k * 7) (Nd.cs u)) := below_chain (Nat.le_refl B) (Nd.cs u) w6 (k * 7) (HBK.out.trans (hb6.mono (by have := HBK.out.size; have := HB.out; omega)))
              rw [hu] at ho' hW hB6
              have HO' := Lib.hid ho'
              have HW' := Lib.hid hW
              have HB' := Lib.hid hB6
              have hlt8 : (k : Int) < (n : Int) + 8 := by omega
              clear hw6 G6 hos6 hok6 hb6 hu hnew ho hf1 hz hlenk ho' hg' hW hB6 n55 f55 G5 hb5 hb5' hos5
              go_wp2
              refine ⟨?_, ?measure⟩
              (repeat apply Exists.intro)
              refine ⟨?rel, rfl⟩
              case rel => exact ⟨k + 1, _, by omega, by go_num, by simp [HUS.out], HB'.out, HO'.out, HW'.out⟩
              case measure => simp [intOf]; omega
            · clear n5 f5
              obtain ⟨w6, hw6⟩ : ∃ w6, w6 = w5.setCell ⟨wr.heap.size, 5, none⟩ (.slice (some ⟨gs, 0, none⟩) nd.sl (nd.sl + 80)) := ⟨_, rfl⟩
              have G6 : w6.heap[wr.heap.size]? = some (.cells #[.int .i64 nd.op, .string nd.nm, .int .i64 nd.vk, .int .i64 nd.vn, .string nd.vt, .slice (some ⟨gs, 0, none⟩) nd.sl (nd.sl + 80), .slice (some ⟨gk, 0, none⟩) nd.kl (nd.kl + 80)] 49 (0, 0)) := by
                rw [hw6]; exact heap_setCell_same w5 wr.heap.size 5 _ _ _ G5
              have hos6 : w6.ownsRow w.heap.size 9 1 (.slice (some ⟨gs, 0, none⟩) (nd.sl + 80) (nd.sl + 80)) (nd.sl + 80) ((ss ++ List.replicate 80 mkS).flatMap Sv) := by
                rw [hw6]
                exact (owns_mono hos5 (show w.heap.size ≤ w4.heap.size by have := hBw2.out.size; omega)).kept (grown_set' w5 wr.heap.size 5 _) (.inr (own_ne hos5 G5 (by decide)))
              have hok6 : w6.ownsRow w.heap.size 3 1 (.slice (some ⟨gk, 0, none⟩) (nd.kl + 80) (nd.kl + 80)) (nd.kl + 80) ((nd.ks ++ List.replicate 80 (-77)).flatMap Iv) := by
                rw [hw6]
                have h5 := own_below HO4.out hb5'
                exact h5.kept (grown_set' w5 wr.heap.size 5 _) (.inr (own_ne h5 G5 (by decide)))
              have hb6 : Below wr.heap.size wr w6 := by
                rw [hw6]; exact (HB4.out.trans (hb5'.mono (by omega))).setCell (p := ⟨wr.heap.size, 5, none⟩) (Nat.le_refl _) _
              rw [← hw6]
              obtain ⟨u, hu⟩ : ∃ u : Nd, u = ⟨nd.op, nd.nm, nd.vk, nd.vn, nd.vt, some ⟨gs, 0, none⟩, nd.sl, nd.sl + 80, some ⟨gk, 0, none⟩, nd.kl, nd.kl + 80, nd.ks⟩ := ⟨_, rfl⟩
              have hsl : ss.length = nd.sl := HSS.out.1
              have hnew : WhoI w w6 u nd := by
                rw [hu]; exact ⟨rfl, rfl, rfl, rfl, rfl, rfl, rfl, rfl, rfl, rfl, hok6, ss, hsl, HSS.out, hos6⟩
              have ho := own_below HO.out hb6
              obtain ⟨hf1, hz⟩ := fill2 us n k u HUS.out hlt
              have c0 := own_at Nd_len2 ho hz 0 _ rfl
              have f0 := ho.frozenAt (k * 7)
              have c1 := own_at Nd_len2 ho hz 1 _ rfl
              have f1 := ho.frozenAt (k * 7 + 1)
              have c2 := own_at Nd_len2 ho hz 2 _ rfl
              have f2 := ho.frozenAt (k * 7 + 2)
              have c3 := own_at Nd_len2 ho hz 3 _ rfl
              have f3 := ho.frozenAt (k * 7 + 3)
              have c4 := own_at Nd_len2 ho hz 4 _ rfl
              have f4 := ho.frozenAt (k * 7 + 4)
              have c5 := own_at Nd_len2 ho hz 5 _ rfl
              have f5 := ho.frozenAt (k * 7 + 5)
              have c6 := own_at Nd_len2 ho hz 6 _ rfl
              have f6 := ho.frozenAt (k * 7 + 6)
              have b0 := cell_of_row w6 _ 0 _ _ _ G6
              have b1 := cell_of_row w6 _ 1 _ _ _ G6
              have b2 := cell_of_row w6 _ 2 _ _ _ G6
              have b3 := cell_of_row w6 _ 3 _ _ _ G6
              have b4 := cell_of_row w6 _ 4 _ _ _ G6
              have b5 := cell_of_row w6 _ 5 _ _ _ G6
              have b6 := cell_of_row w6 _ 6 _ _ _ G6
              simp only [List.getElem?_toArray, List.getElem?_cons_zero, List.getElem?_cons_succ] at b0 b1 b2 b3 b4 b5 b6
              simp only [Nat.add_zero, markNd] at c0 c1 c2 c3 c4 c5 c6
              have hlenk := (List.getElem?_eq_some_iff.1 hz).1
              obtain ⟨ho', hg'⟩ := own_chain (Nd.cs u) _ w6 (k * 7) ho
              rw [setList_flat Nd.cs 7 Nd_len2 _ k u hlenk, hf1] at ho'
              have hW : ∀ (i : Nat) (u' nd' : Nd), (us ++ [u])[i]? = some u' → ns[i]? = some nd' → WhoI w (setChain w6 B (k * 7) (Nd.cs u)) u' nd' := by
                intro i u' nd' hi hi2
                by_cases hik : i < k
                · rw [List.getElem?_append_left (by rw [HUS.out]; exact hik)] at hi
                  exact ((HWH.out i u' nd' hi hi2).below hb6).grown ho hg'
                · have hik2 : i = k := by
                    have := (List.getElem?_eq_some_iff.1 hi).1
                    have h2 := HUS.out
                    simp at this; omega
                  subst hik2
                  rw [List.getElem?_append_right (by rw [HUS.out]; omega), HUS.out] at hi
                  simp at hi
                  rw [HND.out] at hi2
                  obtain rfl := Option.some.inj hi2
                  subst hi
                  exact hnew.grown ho hg'
              have hB6 : Below B w (setChain w6 B (k * 7) (Nd.cs u)) := below_chain (Nat.le_refl B) (Nd.cs u) w6 (k * 7) (HBK.out.trans (hb6.mono (by have := HBK.out.size; have := HB.out; omega)))
              rw [hu] at ho' hW hB6
              have HO' := Lib.hid ho'
              have HW' := Lib.hid hW
              have HB' := Lib.hid hB6
              have hlt8 : (k : Int) < (n : Int) + 8 := by omega
              clear hw6 G6 hos6 hok6 hb6 hu hnew ho hf1 hz hlenk ho' hg' hW hB6 n55 f55 G5 hb5 hb5' hos5
              go_wp2
              refine ⟨?_, ?measure⟩
              (repeat apply Exists.intro)
              refine ⟨?rel, rfl⟩
              case rel => exact ⟨k + 1, _, by omega, by go_num, by simp [HUS.out], HB'.out, HO'.out, HW'.out⟩
              case measure => simp [intOf]; omega
        · have hltI : ¬ (k : Int) < (n : Int) := by omega
          obtain rfl : k = n := by omega
          go_wp2
          go_ret
          exact ⟨⟨B, us, rfl, HUS.out, by have := HO.out; rw [show k + 8 - k = 8 by omega] at this; rw [← HB.out]; exact this, HWH.out⟩, by rw [← HB.out]; exact HBK.out⟩
end Go.Proofs.YtakaoacialnjaaaDoor
