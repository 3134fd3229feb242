import Derived.Test.YtdepdediggokgaaDoorE7a
namespace Go.Proofs.YtdepdediggokgaaDoor
open Go.RowKit Go.Shelf
set_option linter.unusedVariables false
attribute [local go_sem] Oper.semAt_some
set_option maxRecDepth 100000 in
set_option maxHeartbeats 4000000 in
theorem rows_any (w : World) (N : Int) (hN : -9223372036854775808 ≤ N ∧ N ≤ 9223372036854775807) (sa : Option Addr) (m c : Nat) (l : List UInt8) (h : R8 w sa m c l) (hm : m ≤ 140737488351232)
    (wa : Option Addr) (wc : Nat) (vs : List Value) (os : List (Nat × Nat)) (hos : recOF (l.length + 1) N l 0 = os) (hv : RV w wa os.length wc vs) (hvs : Vals w vs (os.map fun p => ((l.drop p.1).drop 9).take p.2)) (lv : Int) (hlv : -9223372036854775808 ≤ lv ∧ lv ≤ 9223372036854775807) (ht : HalfTab w) (h0 : 0 < w.heap.size) :
    Calls Tryd.prog 28 #[.int .i64 N, .slice sa m c, .slice wa os.length wc, .int .i64 lv] w fun e w' => e = .returned (.bool true) ∧ Below w.heap.size w w' := by
  obtain ⟨B, hB⟩ : ∃ B, B = w.heap.size := ⟨_, rfl⟩
  have HBB := Lib.hid hB
  have HR := Lib.hid h
  have HT := Lib.hid ht
  have HV := Lib.hid hv
  have HVS := Lib.hid hvs
  have HN := Lib.hid hN
  have HLV := Lib.hid hlv
  have HOS := Lib.hid hos
  have h0B : 0 < B := by omega
  have b5 : Below w.heap.size w (((((w.alloc (.cells #[.int .i64 N] 3)).alloc (.cells #[.slice sa m c] 22)).alloc (.cells #[.slice wa os.length wc] 32)).alloc (.cells #[.int .i64 lv] 3)).alloc (.cells #[.bool false] 4)) :=
    (((((Below.refl _ _).alloc (Nat.le_refl _) _).alloc (by simp) _).alloc (by simp; omega) _).alloc (by simp; omega) _).alloc (by simp; omega) _
  clear h ht hv hvs hN hlv hos hB
  refine (callsIn_wide (n := 4)).1 (callsIn_of_wp_marks Tryd.func28 rfl trivial (wpIn_wide.2 ?_) rfl)
  simp only [Tryd.ntmps28, List.size_toArray, List.length_cons, List.length_nil, Nat.reduceAdd, Nat.reduceSub, Array.replicate_succ, Array.replicate_zero, List.push_toArray, List.append_toArray, List.nil_append, List.cons_append]
  go_wp2_with fail
  have x1 := ((((Bx.new w 3 (.int .i64 N)).alloc (.cells #[.slice sa m c] 22)).alloc (.cells #[.slice wa os.length wc] 32)).alloc (.cells #[.int .i64 lv] 3)).alloc (.cells #[.bool false] 4)
  have x2 := (((Bx.new (w.alloc (.cells #[.int .i64 N] 3)) 22 (.slice sa m c)).alloc (.cells #[.slice wa os.length wc] 32)).alloc (.cells #[.int .i64 lv] 3)).alloc (.cells #[.bool false] 4)
  have x3 := ((Bx.new ((w.alloc (.cells #[.int .i64 N] 3)).alloc (.cells #[.slice sa m c] 22)) 32 (.slice wa os.length wc)).alloc (.cells #[.int .i64 lv] 3)).alloc (.cells #[.bool false] 4)
  have x4 := (Bx.new (((w.alloc (.cells #[.int .i64 N] 3)).alloc (.cells #[.slice sa m c] 22)).alloc (.cells #[.slice wa os.length wc] 32)) 3 (.int .i64 lv)).alloc (.cells #[.bool false] 4)
  have x5 := Bx.new ((((w.alloc (.cells #[.int .i64 N] 3)).alloc (.cells #[.slice sa m c] 22)).alloc (.cells #[.slice wa os.length wc] 32)).alloc (.cells #[.int .i64 lv] 3)) 4 (.bool false)
  simp only [World.size_alloc] at x2 x3 x4 x5
  have r5 := HR.out.below b5
  have z5 := b5.size
  generalize ((((w.alloc (.cells #[.int .i64 N] 3)).alloc (.cells #[.slice sa m c] 22)).alloc (.cells #[.slice wa os.length wc] 32)).alloc (.cells #[.int .i64 lv] 3)).alloc (.cells #[.bool false] 4) = w5 at *
  obtain ⟨bN, hbN⟩ : ∃ b, b = w.heap.size := ⟨_, rfl⟩
  obtain ⟨bB, hbB⟩ : ∃ b, b = w.heap.size + 1 := ⟨_, rfl⟩
  obtain ⟨bW, hbW⟩ : ∃ b, b = w.heap.size + 1 + 1 := ⟨_, rfl⟩
  obtain ⟨bL, hbL⟩ : ∃ b, b = w.heap.size + 1 + 1 + 1 := ⟨_, rfl⟩
  obtain ⟨bR, hbR⟩ : ∃ b, b = w.heap.size + 1 + 1 + 1 + 1 := ⟨_, rfl⟩
  rw [← hbN] at x1
  rw [← hbB] at x2
  rw [← hbW] at x3
  rw [← hbL] at x4
  rw [← hbR] at x5
  rw [← hbR, ← hbL, ← hbW, ← hbB, ← hbN]
  have HBL := Lib.hid (show bN = B ∧ bB = B + 1 ∧ bW = B + 2 ∧ bL = B + 3 ∧ bR = B + 4 by have := HBB.out; omega)
  clear hbN hbB hbW hbL hbR
  with_reducible refine (roomy209 w5 _ _ _ l r5 (by omega)).mono ?_
  rintro e w6 ⟨g, rfl, o6, b6⟩
  have z6 := b6.size
  have y1 := (x1.belowS b6).alloc (.cells #[.slice (some ⟨g, 0, none⟩) (m + 80) (m + 80)] 22)
  have y2 := (x2.belowS b6).alloc (.cells #[.slice (some ⟨g, 0, none⟩) (m + 80) (m + 80)] 22)
  have y3 := (x3.belowS b6).alloc (.cells #[.slice (some ⟨g, 0, none⟩) (m + 80) (m + 80)] 22)
  have y4 := (x4.belowS b6).alloc (.cells #[.slice (some ⟨g, 0, none⟩) (m + 80) (m + 80)] 22)
  have y5 := (x5.belowS b6).alloc (.cells #[.slice (some ⟨g, 0, none⟩) (m + 80) (m + 80)] 22)
  have y6 := Bx.new w6 22 (.slice (some ⟨g, 0, none⟩) (m + 80) (m + 80))
  have b7 : Below w6.heap.size w6 (w6.alloc (.cells #[.slice (some ⟨g, 0, none⟩) (m + 80) (m + 80)] 22)) := (Below.refl _ _).alloc (Nat.le_refl _) _
  have z7 : (w6.alloc (.cells #[.slice (some ⟨g, 0, none⟩) (m + 80) (m + 80)] 22)).heap.size = w6.heap.size + 1 := by simp
  have hgs := o6.lt g rfl
  have O7 := Lib.hid (own_below o6 b7)
  have B7 := Lib.hid ((b5.trans (b6.mono z5)).trans (b7.mono (by omega)))
  have HG := Lib.hid (show B + 5 ≤ g ∧ g < w6.heap.size from ⟨by have := HBL.out; have := x5.lt; omega, hgs.2⟩)
  have L5 := Lib.hid x5.lt
  clear x1 x2 x3 x4 x5 o6 b6 b7 r5 b5 hgs
  go_wp2_with fail
  generalize hw7 : w6.alloc (.cells #[.slice (some ⟨g, 0, none⟩) (m + 80) (m + 80)] 22) = w7 at *
  clear hw7
  obtain ⟨bF, hbF⟩ : ∃ b, b = w6.heap.size := ⟨_, rfl⟩
  rw [← hbF] at y6 ⊢
  have HBF := Lib.hid (show B + 5 ≤ bF ∧ bF < w7.heap.size ∧ g < bF from ⟨by have := HG.out; omega, by omega, by have := HG.out; omega⟩)
  clear hbF
  have c1 := y1.cell
  have c2 := y2.cell
  have c6 := y6.cell
  have hsl := fun wx => slice_to wx (some ⟨g, 0, none⟩) (m + 80) (m + 80) m (by omega)
  have rm : R8 w7 (some ⟨g, 0, none⟩) m (m + 80) l := by
    have := (R8.of_owns O7.out (by omega)).take m (by omega)
    have hl := HR.out.1
    rwa [List.take_append_of_le_length (by omega), List.take_of_length_le (by omega)] at this
  go_region_held3 (fun w => w.cell? ⟨bN, 0, none⟩ = some (.int .i64 N) ∧ w.cell? ⟨bF, 0, none⟩ = some (.slice (some ⟨g, 0, none⟩) (m + 80) (m + 80)) ∧ w.cell? ⟨bB, 0, none⟩ = some (.slice sa m c)) (first | exact ⟨c1, c6, c2⟩ | exact ⟨(Bx.belowS (w := w7.drew) y1 hb8).cell, (Bx.belowS (w := w7.drew) y6 hb8).cell, (Bx.belowS (w := w7.drew) y2 hb8).cell⟩)
    (first | (go_at_call 42; refine (rowsfn_any w7.drew _ _ _ _ l rm.drew hm).mono ?_; rintro e w8 ⟨a', c', rfl, cN, cB, rR, hb8⟩))
  have z8 : w7.heap.size ≤ w8.heap.size := hb8.size
  have hb8' : Below w7.heap.size w7 w8 := (show Below w7.heap.size w7 w7.drew from (Below.refl _ _).drew).trans hb8
  have B8 := Lib.hid (B7.out.trans (hb8'.mono (by have := B7.out.size; omega)))
  have y1 := y1.belowS hb8'; have y2 := y2.belowS hb8'; have y3 := y3.belowS hb8'; have y4 := y4.belowS hb8'; have y5 := y5.belowS hb8'; have y6 := y6.belowS hb8'
  have O8 := Lib.hid (own_below O7.out hb8')
  rw [show w7.drew.heap.size = w7.heap.size from rfl, z7] at cN cB
  obtain ⟨q1, hq1⟩ : ∃ q, q = w6.heap.size + 1 := ⟨_, rfl⟩
  obtain ⟨q2, hq2⟩ : ∃ q, q = w6.heap.size + 1 + 1 := ⟨_, rfl⟩
  rw [← hq1] at cN
  rw [← hq2] at cB
  rw [← hq2, ← hq1]
  have HQ := Lib.hid (show B + 5 ≤ q1 ∧ q2 = q1 + 1 ∧ bF < q1 from ⟨by have := HG.out; omega, by omega, by have := HBF.out; omega⟩)
  have LQ2 := Lib.hid (block_lt_of_cell cB)
  have CN := Lib.hid cN
  have CB := Lib.hid cB
  have RO := Lib.hid (show w8.ownsRow w7.heap.size 5 1 (.slice a' m c') m (l.map b8) from rR)
  have rf := R8.of_owns O8.out (by omega)
  have rp := HR.out.below B8.out
  clear hq1 hq2 cN cB rR hb8 hb8' rm hsl c1 c2 c6 z7 z6 z5
  have heq := eqf
  have c6 := y6.cell
  have c2 := y2.cell
  go_wp2_with fail
  with_reducible refine (intact209 w8 _ _ _ _ _ _ l rf rp).mono ?_
  rintro e w' ⟨rfl, nn, rfl⟩
  go_wp2_with fail
  have z8 := B8.out.size
  have HGT : ∀ b, b ≠ g → ∀ wx : World, (∀ k : Nat, k ≠ g → wx.heap[k]? = w8.heap[k]?) → ∀ t v, Bx w8 b t v → Bx wx b t v := fun b hb wx h t v hx => (h b hb).trans hx
  have HGB := Lib.hid HGT
  clear HGT rf rp c2
  go_loopw [11] (fun x wr => ∃ j : Nat, j ≤ m + 80 ∧ x = .int .i64 j ∧ (∀ k : Nat, k ≠ g → wr.heap[k]? = w8.heap[k]?) ∧ wr.ownsRow w5.heap.size 5 1 (.slice (some ⟨g, 0, none⟩) (m + 80) (m + 80)) (m + 80) ((turnL (l ++ List.replicate 80 209) 0 j).map b8) ∧ Below w.heap.size w wr ∧ wr.heap.size = w8.heap.size) (fun x _ => m + 80 - (intOf x).toNat)
  case atStart => exact ⟨0, by omega, rfl, fun _ _ => rfl, by rw [turnL_none]; exact O8.out, below_drewN B8.out nn, rfl⟩
  case round =>
    obtain ⟨j, hj, rfl, hk, ho, hb, hz⟩ := hrel
    have HK := Lib.hid hk
    have HO := Lib.hid ho
    have HB := Lib.hid hb
    have HZ := Lib.hid hz
    have y6r := HGB.out bF (by have := HBF.out; omega) wr hk _ _ y6
    have c6r := y6r.cell
    have hlen : (l ++ List.replicate 80 (209 : UInt8)).length = m + 80 := by have := HR.out.1; simp; omega
    have HLEN := Lib.hid hlen
    clear hk hb hz hlen c6
    by_cases hlt : j < m + 80
    · have hc := ho.cellAt j (by omega)
      have hf := ho.frozenAt j
      rw [List.getElem?_map, List.getElem?_eq_getElem (by rw [turnL_len]; have := HLEN.out; omega)] at hc
      simp only [Option.map_some, b8] at hc
      obtain ⟨x, hcc⟩ : ∃ x, (turnL (l ++ List.replicate 80 209) 0 j)[j]? = some x := ⟨_, List.getElem?_eq_getElem (by rw [turnL_len]; have := HLEN.out; omega)⟩
      have e := (List.getElem?_eq_some_iff.1 hcc).2
      rw [e] at hc
      have ho' := (HO.out.stored j (.int .u8 ((flip255 x).toNat : Int))).1
      rw [set_b8, turnL_step _ _ _ _ (Nat.zero_le _) hcc] at ho'
      have HO' := Lib.hid ho'
      have hltI : (j : Int) < (m : Int) + 80 := by omega
      clear ho' hcc e ho
      go_wp2
      go_still_tail 7, (by kernel_rfl)
      change wpList _ _ _ _ _ wr.drew
      have hc' : wr.drew.cell? ⟨g, j, none⟩ = some (.int .u8 (x.toNat : Int)) := hc
      have hf' : wr.drew.frozen? ⟨g, j, none⟩ = false := hf
      have HO2 : RowKit.Hid ((wr.drew.setCell ⟨g, j, none⟩ (.int .u8 ((flip255 x).toNat : Int))).ownsRow w5.heap.size 5 1 (.slice (some ⟨g, 0, none⟩) (m + 80) (m + 80)) (m + 80) ((turnL (l ++ List.replicate 80 209) 0 (j + 1)).map b8)) := Lib.hid HO'.out
      have HK2 := Lib.hid (show ∀ k : Nat, k ≠ g → (wr.drew.setCell ⟨g, j, none⟩ (.int .u8 ((flip255 x).toNat : Int))).heap[k]? = w8.heap[k]? from fun k hk => (heap_setCell_other wr.drew ⟨g, j, none⟩ k _ hk).trans (HK.out k hk))
      have HB2 := Lib.hid ((show Below w.heap.size w wr.drew from HB.out.drew).setCell (p := ⟨g, j, none⟩) (show w.heap.size ≤ g by have := HG.out; have := HBB.out; omega) (.int .u8 ((flip255 x).toNat : Int)))
      clear hc hf c6r
      go_wp2
      go_roundw
      case rel => exact ⟨j + 1, by omega, by go_num, HK2.out, HO2.out, HB2.out, by rw [← HZ.out]; simp⟩
      case measure => simp [intOf]; omega
    · obtain rfl : j = m + 80 := by omega
      have y1 := HGB.out bN (by have := HBL.out; have := HG.out; omega) wr HK.out _ _ y1
      have y2 := HGB.out bB (by have := HBL.out; have := HG.out; omega) wr HK.out _ _ y2
      have y3 := HGB.out bW (by have := HBL.out; have := HG.out; omega) wr HK.out _ _ y3
      have y4 := HGB.out bL (by have := HBL.out; have := HG.out; omega) wr HK.out _ _ y4
      have y5 := HGB.out bR (by have := HBL.out; have := HG.out; omega) wr HK.out _ _ y5
      have hro : wr.ownsRow w7.heap.size 5 1 (.slice a' m c') m (l.map b8) := by
        refine ⟨RO.out.1, ?_⟩
        rcases RO.out.2 with h | ⟨gg, cap, cur, hv, hb, hg, r⟩
        · exact .inl h
        · exact .inr ⟨gg, cap, cur, hv, hb, (HK.out gg (by have := HBF.out; omega)).trans hg, r⟩
      have rR := R8.of_owns hro (by omega)
      have cN : wr.cell? ⟨q1, 0, none⟩ = some (.int .i64 N) := (World.cell?_of_block (HK.out q1 (by have := HQ.out; have := HBF.out; omega))).trans CN.out
      have cB : wr.cell? ⟨q2, 0, none⟩ = some (.slice a' m c') := (World.cell?_of_block (HK.out q2 (by have := HQ.out; have := HBF.out; omega))).trans CB.out
      have htr := HT.out.below HB.out (by omega)
      have RV' := Lib.hid (HV.out.below HB.out)
      have RVS := Lib.hid (HVS.out.below HB.out)
      have zr := HB.out.size
      clear ho hro
      clear hlt hj
      go_wp2_with fail
      refine wp_loop_rounds 3 ?_
      rw [rounds_succ]
      go_wp2_with fail
      have k1 := (Bx.new wr 3 (.int .i64 0)).belowS (show Below (wr.alloc (.cells #[.int .i64 0] 3)).heap.size (wr.alloc (.cells #[.int .i64 0] 3)) ((wr.alloc (.cells #[.int .i64 0] 3)).alloc (.cells #[.int .i64 0] 3)) from (Below.refl _ _).alloc (Nat.le_refl _) _)
      have i1 := Boxed.new (wr.alloc (.cells #[.int .i64 0] 3)) 3 (.int .i64 0)
      have bw1 : Below wr.heap.size wr ((wr.alloc (.cells #[.int .i64 0] 3)).alloc (.cells #[.int .i64 0] 3)) := ((Below.refl _ _).alloc (Nat.le_refl _) _).alloc (by simp) _
      rw [World.size_alloc] at i1
      generalize (wr.alloc (.cells #[.int .i64 0] 3)).alloc (.cells #[.int .i64 0] 3) = W1 at *
      obtain ⟨bk, hbk⟩ : ∃ b, b = wr.heap.size := ⟨_, rfl⟩
      obtain ⟨bi, hbi⟩ : ∃ b, b = wr.heap.size + 1 := ⟨_, rfl⟩
      have HBK := Lib.hid (show wr.heap.size ≤ bk ∧ bi = bk + 1 by omega)
      rw [show (wr.heap.size + 1) = bi from hbi.symm] at i1 ⊢
      have k1' : Boxed W1 bk 3 (.int .i64 0) := by rw [hbk]; exact k1
      rw [show (Value.pointer (some { block := wr.heap.size, off := 0 })) = Value.pointer (some { block := bk, off := 0 }) by rw [hbk]]
      have BW1 := Lib.hid (show w.heap.size ≤ W1.heap.size by have := bw1.size; omega)
      clear hbk hbi k1
      refine wp_meet4 (fun D iv W2 => W1.heap.size ≤ D ∧ (iv = os.length ∨ (iv : Int) = lv) ∧ RowI wr bk bi 0 os.length (List.range iv) W2 ∧ W2.heap[D]? = some (Obj.deferred (some []))) ?_ ?meet
      refine (wpIn_wide (n := 4)).1 ?_
      refine wpIn_rangeFunc_ownF (n := 4) (F := Fence.wide) rfl (by omega) (gf := 49) (lb := #[.pointer (some ⟨q1, 0, none⟩), .pointer (some ⟨q2, 0, none⟩)]) rfl trivial (enters_of Tryd.func49 (by kernel_rfl) rfl)
        (rows1_stops 3 (by omega) wr W1 bw1 q1 q2 N HN.out a' m c' l cN cB rR htr (by omega) os HOS.out) belowK_t (belowK_b bw1.size) (Below.refl _ _) (fun _ => rfl)
        (RowI wr bk bi 0 os.length) (RowX wr bk bi 0 lv os.length) (RowI.own _ _ _ _ _ _ bw1.size) (RowX.own _ _ _ _ _ _ _ bw1.size) ⟨⟨rfl, Nat.zero_le _⟩, i1, k1', bw1⟩ ?a1 ?assign ?body ?done ?stop
      case assign =>
        intro ll x W K hK
        gi_wp2
        exact hK
      case body =>
        rintro ll pre x W ⟨⟨hp1, hp2⟩, ib, kb, hb⟩ hlN
        have hlv2 := HLV.out
        obtain ⟨i, hi⟩ : ∃ i, i = pre.length := ⟨_, rfl⟩
        rw [← hi] at ib hp2 hp1 hlN
        have ci := ib.cell
        have fi := ib.frozen
        have ck := kb.cell
        have cw := (y3.belowS hb).cell
        have cn := (y1.belowS hb).cell
        have cl := (y4.belowS hb).cell
        have cr := (y5.belowS hb).cell
        have fr := (y5.belowS hb).frozen
        have hd : 1 ≤ 4 - 1 - 1 := by omega
        have HPRE := Lib.hid hp1
        have HI := Lib.hid hi
        have HB2 := Lib.hid hb
        clear hp1 hi hb
        by_cases c1 : i < os.length
        · have hbd := recOF_bd (l.length + 1) N l 0
          rw [HOS.out] at hbd
          have hw : IntKind.i64.wrap (N + (i : Int)) = N + (i : Int) := by simp [IntKind.wrap, IntKind.bits, IntKind.signed]; omega
          have c1' : ¬ os.length ≤ i := by omega
          have hol := RV'.out.2.2.1
          by_cases hx : x = i
          · subst hx
            have hne : ((N + (x : Int)) == (N + (x : Int))) = false ∨ True := .inr trivial
            obtain ⟨p, hp⟩ : ∃ p, os[x]? = some p := ⟨_, List.getElem?_eq_getElem c1⟩
            have hpin := recOF_in l (l.length + 1) N l 0 rfl x p (by rw [HOS.out]; exact hp)
            have hll := HR.out.1
            have rv := (r8_recV rR p (by omega)).below HB2.out
            obtain ⟨b3, o3, v3, rfl, hv3, hc3⟩ := RV'.out.at c1
            obtain ⟨a4, n4, c4, rfl, r4⟩ := RVS.out.2 x v3 (((l.drop p.1).drop 9).take p.2) hv3 (by rw [List.getElem?_map, hp]; rfl)
            have r4 := r4.below HB2.out
            have cv3 := (HB2.out.cell (p := ⟨b3, o3 + x, none⟩) (block_lt_of_cell hc3)).trans hc3
            have c1i : (x : Int) < (os.length : Int) := by omega
            have hpv : os[x]?.getD (0, 0) = p := by rw [hp]; rfl
            have HPV := Lib.hid hpv
            clear hv3 hc3 hp hpin hbd
            rw [hpv]
            unfold recV
            gi_wp2
            refine ⟨trivial, (CallsIn.inRound ll (callsIn_wide.2 (same_any W _ _ _ _ _ _ _ _ rv r4 true (by simp)))).mono ?_⟩
            rintro e w' ⟨rfl, nn2, rfl⟩
            have hw1 : IntKind.i64.wrap ((x : Int) + 1) = (x : Int) + 1 := by simp [IntKind.wrap, IntKind.bits, IntKind.signed]; omega
            have hKO : KeepsOthers W ((W.drewN nn2).setCell ⟨bi, 0, none⟩ (.int .i64 ((x : Int) + 1))) := (⟨Nat.le_refl _, fun _ _ h _ => h⟩ : KeepsOthers W (W.drewN nn2)).trans (KeepsOthers.setCell _ _ _)
            have hBW : Below wr.heap.size W ((W.drewN nn2).setCell ⟨bi, 0, none⟩ (.int .i64 ((x : Int) + 1))) := (below_drewN (Below.refl _ W) nn2).setCell (p := ⟨bi, 0, none⟩) (by have := HBK.out; show wr.heap.size ≤ bi; omega) _
            have hRI : RowI wr bk bi 0 os.length (pre ++ [x]) ((W.drewN nn2).setCell ⟨bi, 0, none⟩ (.int .i64 ((x : Int) + 1))) := by
              refine ⟨⟨?_, ?_⟩, ?_, ?_, HB2.out.trans hBW⟩
              · rw [HPRE.out]; simp [List.range_succ]
              · rw [HPRE.out]; simp; omega
              · rw [HPRE.out]
                have := heap_setCell_same (W.drewN nn2) bi 0 _ _ (.int .i64 ((x : Int) + 1)) ib
                simpa [Boxed] using this
              · exact (heap_setCell_other (W.drewN nn2) ⟨bi, 0, none⟩ bk _ (by have := HBK.out; show bk ≠ bi; omega)).trans kb
            have HKO := Lib.hid hKO
            have HBW := Lib.hid hBW
            have HRI := Lib.hid hRI
            have hne : bk ≠ bi := by have := HBK.out; omega
            have hlb : bL ≠ bi := by have := HBK.out; have := y4.lt; omega
            clear hKO hBW hRI rv r4
            by_cases hlx : lv = (x : Int) + 1
            · gi_wp2
              exact ⟨HKO.out, .inr ⟨rfl, rfl, by rw [HPRE.out]; simp; omega, HRI.out⟩⟩
            · have hlx' : ((x : Int) + 1 == lv) = false := by simp; omega
              gi_wp2
              exact ⟨HKO.out, HBW.out, HRI.out⟩
          · have hno : ¬ pre ++ [x] <+: List.range os.length := fun h => by
              obtain ⟨t, ht⟩ := h
              have h1 := congrArg (fun l => l[i]?) ht
              simp only [HPRE.out] at h1
              rw [List.append_assoc, List.getElem?_append_right (by simp)] at h1
              simp [c1] at h1
              exact hx h1
            have HNO := Lib.hid hno
            have hne : ((N + (x : Int)) == (N + (i : Int))) = false := by simp; omega
            have hne' : ((N + (x : Int)) != (N + (i : Int))) = true := by simp; omega
            clear hno hbd
            gi_wp2
            refine ⟨trivial, ?_⟩
            gi_wp2
            exact ⟨KeepsOthers.setCell _ _ _, .inl ⟨rfl, HNO.out⟩⟩
        · have hno : ¬ pre ++ [x] <+: List.range os.length := fun h => by
            have := h.length_le
            have h2 := HI.out
            simp at this; omega
          have HNO := Lib.hid hno
          clear hno
          gi_wp2
          refine ⟨trivial, ?_⟩
          gi_wp2
          exact ⟨KeepsOthers.setCell _ _ _, .inl ⟨rfl, HNO.out⟩⟩
      case done =>
        rintro D xs W2 hD rfl hI hK
        exact ⟨.inl rfl, D, os.length, rfl, hD, .inl rfl, hI, hK⟩
      case stop =>
        rintro D cc pre W2 hD hSp (⟨rfl, hno⟩ | ⟨rfl, -, hpl, hI⟩) hK
        · exact absurd hSp hno
        · refine (wpIn_wide (n := 4)).2 (wp_exit ⟨.inr rfl, D, pre.length, rfl, hD, .inr hpl, ?_, hK⟩)
          rw [← hI.1.1]; exact hI
      case meet =>
        rintro D iv W2 ⟨hD, hiv, hI, hK⟩
        obtain ⟨⟨-, hle⟩, ib, kb, hb⟩ := hI
        rw [List.length_range] at ib hle
        have ci := ib.cell
        have ck := kb.cell
        have cw := (y3.belowS hb).cell
        have cl := (y4.belowS hb).cell
        have hlvb := HLV.out
        have HHLE := Lib.hid hle
        have HHIV := Lib.hid hiv
        have hsel : (iv = os.length) ∨ (iv ≠ os.length ∧ (iv : Int) = lv) := by
          by_cases h : iv = os.length
          · exact .inl h
          · exact .inr ⟨h, by have := HHIV.out; omega⟩
        clear hle hiv
        rcases hsel with rfl | ⟨hio, hlvv⟩
        · have hne : (((os.length : Nat) : Int) != (os.length : Int)) = false := by simp
          go_wp2_with fail
          rw [rounds_succ]
          have hgk := (Bx.new W2 3 (.int .i64 1)).cell
          go_wp2_with fail
          have k1 := (Bx.new W2 3 (.int .i64 1)).belowS (show Below (W2.alloc (.cells #[.int .i64 1] 3)).heap.size (W2.alloc (.cells #[.int .i64 1] 3)) ((W2.alloc (.cells #[.int .i64 1] 3)).alloc (.cells #[.int .i64 0] 3)) from (Below.refl _ _).alloc (Nat.le_refl _) _)
          have i1 := Boxed.new (W2.alloc (.cells #[.int .i64 1] 3)) 3 (.int .i64 0)
          have bw1 : Below W2.heap.size W2 ((W2.alloc (.cells #[.int .i64 1] 3)).alloc (.cells #[.int .i64 0] 3)) := ((Below.refl _ _).alloc (Nat.le_refl _) _).alloc (by simp) _
          rw [World.size_alloc] at i1
          generalize (W2.alloc (.cells #[.int .i64 1] 3)).alloc (.cells #[.int .i64 0] 3) = W3 at *
          obtain ⟨bk2, hbk⟩ : ∃ b, b = W2.heap.size := ⟨_, rfl⟩
          obtain ⟨bi2, hbi⟩ : ∃ b, b = W2.heap.size + 1 := ⟨_, rfl⟩
          have HBK := Lib.hid (show wr.heap.size ≤ bk2 ∧ bi2 = bk2 + 1 ∧ bk2 = W2.heap.size by have := hb.size; omega)
          have HB20 := Lib.hid hb
          have BW23 := bw1
          have ltD := (Array.getElem?_eq_some_iff.1 hK).1
          have HWD := Lib.hid (show w.heap.size ≤ D by have := BW1.out; omega)
          rw [show (W2.heap.size + 1) = bi2 from hbi.symm] at i1 ⊢
          have k1' : Boxed W3 bk2 3 (.int .i64 1) := by rw [hbk]; exact k1
          rw [show (Value.pointer (some { block := W2.heap.size, off := 0 })) = Value.pointer (some { block := bk2, off := 0 }) by rw [hbk]]
          have bw3 := hb.trans (bw1.mono hb.size)
          clear hbk hbi k1 bw1
          refine wp_meet4 (fun D iv W4 => W3.heap.size ≤ D ∧ iv = os.length ∧ RowI W2 bk2 bi2 1 os.length (List.range iv) W4 ∧ W4.heap[D]? = some (Obj.deferred (some []))) ?_ ?meet2
          refine (wpIn_wide (n := 4)).1 ?_
          refine wpIn_rangeFunc_ownF (n := 4) (F := Fence.wide) rfl (by omega) (gf := 49) (lb := #[.pointer (some ⟨q1, 0, none⟩), .pointer (some ⟨q2, 0, none⟩)]) rfl trivial (enters_of Tryd.func49 (by kernel_rfl) rfl)
            (rows1_stops 3 (by omega) wr W3 bw3 q1 q2 N HN.out a' m c' l cN cB rR htr (by omega) os HOS.out) belowK_t (belowK_b bw3.size) (Below.refl _ _) (fun _ => rfl)
            (RowI W2 bk2 bi2 1 os.length) (RowX W2 bk2 bi2 1 lv os.length) (RowI.own _ _ _ _ _ _ BW23.size) (RowX.own _ _ _ _ _ _ _ BW23.size) ⟨⟨rfl, Nat.zero_le _⟩, i1, k1', BW23⟩ ?a2 ?assign2 ?body2 ?done2 ?stop2
          case assign2 =>
            intro ll x W K hK
            gi_wp2
            exact hK
          case body2 =>
            rintro ll pre x W ⟨⟨hp1, hp2⟩, ib, kb, hbn⟩ hlN
            have hb := HB20.out.trans (hbn.mono HB20.out.size)
            have HBN := Lib.hid hbn
            clear hbn
            have hlv2 := HLV.out
            obtain ⟨i, hi⟩ : ∃ i, i = pre.length := ⟨_, rfl⟩
            rw [← hi] at ib hp2 hp1 hlN
            have ci := ib.cell
            have fi := ib.frozen
            have ck := kb.cell
            have cw := (y3.belowS hb).cell
            have cn := (y1.belowS hb).cell
            have cl := (y4.belowS hb).cell
            have cr := (y5.belowS hb).cell
            have fr := (y5.belowS hb).frozen
            have hd : 1 ≤ 4 - 1 - 1 := by omega
            have HPRE := Lib.hid hp1
            have HI := Lib.hid hi
            have HB2 := Lib.hid hb
            clear hp1 hi hb
            by_cases c1 : i < os.length
            · have hbd := recOF_bd (l.length + 1) N l 0
              rw [HOS.out] at hbd
              have hw : IntKind.i64.wrap (N + (i : Int)) = N + (i : Int) := by simp [IntKind.wrap, IntKind.bits, IntKind.signed]; omega
              have c1' : ¬ os.length ≤ i := by omega
              have hol := RV'.out.2.2.1
              by_cases hx : x = i
              · subst hx
                have hne : ((N + (x : Int)) == (N + (x : Int))) = false ∨ True := .inr trivial
                obtain ⟨p, hp⟩ : ∃ p, os[x]? = some p := ⟨_, List.getElem?_eq_getElem c1⟩
                have hpin := recOF_in l (l.length + 1) N l 0 rfl x p (by rw [HOS.out]; exact hp)
                have hll := HR.out.1
                have rv := (r8_recV rR p (by omega)).below HB2.out
                obtain ⟨b3, o3, v3, rfl, hv3, hc3⟩ := RV'.out.at c1
                obtain ⟨a4, n4, c4, rfl, r4⟩ := RVS.out.2 x v3 (((l.drop p.1).drop 9).take p.2) hv3 (by rw [List.getElem?_map, hp]; rfl)
                have r4 := r4.below HB2.out
                have cv3 := (HB2.out.cell (p := ⟨b3, o3 + x, none⟩) (block_lt_of_cell hc3)).trans hc3
                have c1i : (x : Int) < (os.length : Int) := by omega
                have hpv : os[x]?.getD (0, 0) = p := by rw [hp]; rfl
                have HPV := Lib.hid hpv
                clear hv3 hc3 hp hpin hbd
                rw [hpv]
                unfold recV
                gi_wp2
                refine ⟨trivial, (CallsIn.inRound ll (callsIn_wide.2 (same_any W _ _ _ _ _ _ _ _ rv r4 true (by simp)))).mono ?_⟩
                rintro e w' ⟨rfl, nn2, rfl⟩
                have hw1 : IntKind.i64.wrap ((x : Int) + 1) = (x : Int) + 1 := by simp [IntKind.wrap, IntKind.bits, IntKind.signed]; omega
                have hKO : KeepsOthers W ((W.drewN nn2).setCell ⟨bi2, 0, none⟩ (.int .i64 ((x : Int) + 1))) := (⟨Nat.le_refl _, fun _ _ h _ => h⟩ : KeepsOthers W (W.drewN nn2)).trans (KeepsOthers.setCell _ _ _)
                have hBW : Below wr.heap.size W ((W.drewN nn2).setCell ⟨bi2, 0, none⟩ (.int .i64 ((x : Int) + 1))) := (below_drewN (Below.refl _ W) nn2).setCell (p := ⟨bi2, 0, none⟩) (by have := HBK.out; show wr.heap.size ≤ bi2; omega) _
                have hBW2 : Below W2.heap.size W ((W.drewN nn2).setCell ⟨bi2, 0, none⟩ (.int .i64 ((x : Int) + 1))) := (below_drewN (Below.refl _ W) nn2).setCell (p := ⟨bi2, 0, none⟩) (by have := HBK.out; show W2.heap.size ≤ bi2; omega) _
                have hRI : RowI W2 bk2 bi2 1 os.length (pre ++ [x]) ((W.drewN nn2).setCell ⟨bi2, 0, none⟩ (.int .i64 ((x : Int) + 1))) := by
                  refine ⟨⟨?_, ?_⟩, ?_, ?_, HBN.out.trans hBW2⟩
                  · rw [HPRE.out]; simp [List.range_succ]
                  · rw [HPRE.out]; simp; omega
                  · rw [HPRE.out]
                    have := heap_setCell_same (W.drewN nn2) bi2 0 _ _ (.int .i64 ((x : Int) + 1)) ib
                    simpa [Boxed] using this
                  · exact (heap_setCell_other (W.drewN nn2) ⟨bi2, 0, none⟩ bk2 _ (by have := HBK.out; show bk2 ≠ bi2; omega)).trans kb
                have HKO := Lib.hid hKO
                have HBW := Lib.hid hBW
                have HRI := Lib.hid hRI
                have hne : bk2 ≠ bi2 := by have := HBK.out; omega
                have hlb : bL ≠ bi2 := by have := HBK.out; have := y4.lt; omega
                clear hKO hBW hBW2 hRI rv r4
                by_cases hlx : lv = (x : Int) + 1
                · gi_wp2
                  exact ⟨HKO.out, HBW.out, HRI.out⟩
                · have hlx' : ((x : Int) + 1 == lv) = false := by simp; omega
                  gi_wp2
                  exact ⟨HKO.out, HBW.out, HRI.out⟩
              · have hno : ¬ pre ++ [x] <+: List.range os.length := fun h => by
                  obtain ⟨t, ht⟩ := h
                  have h1 := congrArg (fun l => l[i]?) ht
                  simp only [HPRE.out] at h1
                  rw [List.append_assoc, List.getElem?_append_right (by simp)] at h1
                  simp [c1] at h1
                  exact hx h1
                have HNO := Lib.hid hno
                have hne : ((N + (x : Int)) == (N + (i : Int))) = false := by simp; omega
                have hne' : ((N + (x : Int)) != (N + (i : Int))) = true := by simp; omega
                clear hno hbd
                gi_wp2
                refine ⟨trivial, ?_⟩
                gi_wp2
                exact ⟨KeepsOthers.setCell _ _ _, .inl ⟨rfl, HNO.out⟩⟩
            · have hno : ¬ pre ++ [x] <+: List.range os.length := fun h => by
                have := h.length_le
                have h2 := HI.out
                simp at this; omega
              have HNO := Lib.hid hno
              clear hno
              gi_wp2
              refine ⟨trivial, ?_⟩
              gi_wp2
              exact ⟨KeepsOthers.setCell _ _ _, .inl ⟨rfl, HNO.out⟩⟩
          case done2 =>
            rintro D2 xs W4 hD2 rfl hI hK2
            exact ⟨.inl rfl, D2, os.length, rfl, hD2, rfl, hI, hK2⟩
          case stop2 =>
            rintro D2 cc pre W4 hD2 hSp (⟨rfl, hno⟩ | ⟨rfl, h10, -, -⟩) hK2
            · exact absurd hSp hno
            · omega
          case meet2 =>
            rintro D2 iv W4 ⟨hD2, rfl, hI, hK2⟩
            obtain ⟨-, ib4, kb4, hb4n⟩ := hI
            have hb4 := HB20.out.trans (hb4n.mono HB20.out.size)
            have hK4 := (hb4n.block D ltD).trans hK
            have HDD := Lib.hid (show D < D2 by have := BW23.size; omega)
            rw [List.length_range] at ib4
            have ci4 := ib4.cell
            have ck4 := kb4.cell
            have cw4 := (y3.belowS hb4).cell
            have z4 := hb4.size
            have xk := Bx.new W4 3 (.int .i64 2)
            have b45 : Below W4.heap.size W4 (W4.alloc (.cells #[.int .i64 2] 3)) := (Below.refl _ _).alloc (Nat.le_refl _) _
            have b05 := hb4.trans (b45.mono z4)
            have x1 := y1.belowS b05
            have x2 := y2.belowS b05
            have x5 := y5.belowS b05
            have x6 := y6r.belowS b05
            have O5 := Lib.hid ((HO.out.kept (row := none) (gwk b05) (by cases (Value.slice (some (⟨g, 0, none⟩ : Addr)) (m + 80) (m + 80)).ownBlock <;> simp)))
            have hK5 := (Below.heap_alloc W4 (.cells #[.int .i64 2] 3) D2 (Array.getElem?_eq_some_iff.1 hK2).1).trans hK2
            have hL5 := (Below.heap_alloc W4 (.cells #[.int .i64 2] 3) D (Array.getElem?_eq_some_iff.1 hK4).1).trans hK4
            go_wp2_with fail
            rw [rounds_succ]
            have hgk4 := xk.cell
            go_wp2_with fail
            clear hgk4 xk
            have z5w : W4.heap.size ≤ (W4.alloc (.cells #[.int .i64 2] 3)).heap.size := b45.size
            generalize hW5 : W4.alloc (.cells #[.int .i64 2] 3) = W5 at *
            have d1 := x1.cell
            have d2 := x2.cell
            have d6 := x6.cell
            have hsl5 := fun wx => slice_to wx (some ⟨g, 0, none⟩) (m + 80) (m + 80) m (by omega)
            obtain ⟨X, hX⟩ : ∃ X, X = turnL (l ++ List.replicate 80 209) 0 (m + 80) := ⟨_, rfl⟩
            rw [← hX] at O5
            have HX := Lib.hid hX
            clear hX
            have rm5 : R8 W5 (some ⟨g, 0, none⟩) m (m + 80) (X.take m) := (R8.of_owns O5.out (by omega)).take m (by omega)
            go_region_held3 (fun w => w.cell? ⟨bN, 0, none⟩ = some (.int .i64 N) ∧ w.cell? ⟨bF, 0, none⟩ = some (.slice (some ⟨g, 0, none⟩) (m + 80) (m + 80)) ∧ w.cell? ⟨bB, 0, none⟩ = some (.slice sa m c)) (first | exact ⟨d1, d6, d2⟩ | exact ⟨(Bx.belowS (w := W5.drew) x1 hb6).cell, (Bx.belowS (w := W5.drew) x6 hb6).cell, (Bx.belowS (w := W5.drew) x2 hb6).cell⟩)
              (first | (go_at_call 42; refine (rowsfn_any W5.drew _ _ _ _ (X.take m) rm5.drew hm).mono ?_; rintro e W6 ⟨a6, c6', rfl, cN6, cB6, rR6, hb6⟩))
            have hb6' : Below W5.heap.size W5 W6 := (show Below W5.heap.size W5 W5.drew from (Below.refl _ _).drew).trans hb6
            have b06 := b05.trans (hb6'.mono b05.size)
            have t1 := x2.belowS hb6'
            have t5 := x5.belowS hb6'
            have t6 := x6.belowS hb6'
            have O6 := Lib.hid (own_below O5.out hb6')
            have hK2' := (hb6'.block D2 (Array.getElem?_eq_some_iff.1 hK5).1).trans hK5
            have hL6 := (hb6'.block D (Array.getElem?_eq_some_iff.1 hL5).1).trans hL5
            have e1 := t1.cell; have e5 := t5.cell; have e6 := t6.cell; have g5 := t5.frozen
            go_wp2_with fail
            have RX := Lib.hid (R8.of_owns rR6 (by omega))
            have HT6 := HT.out.below (HB.out.trans (b06.mono zr)) (by omega)
            have B6w := Lib.hid (HB.out.trans (b06.mono zr))
            obtain ⟨os2, hos2⟩ : ∃ o, recOF ((X.take m).length + 1) N (X.take m) 0 = o := ⟨_, rfl⟩
            refine (wpIn_wide (n := 4)).1 ?_
            refine wpIn_rangeFunc_ownF (n := 4) (F := Fence.wide) rfl (by omega) (gf := 49) (lb := #[.pointer (some ⟨W5.heap.size, 0, none⟩), .pointer (some ⟨W5.heap.size + 1, 0, none⟩)]) rfl trivial (enters_of Tryd.func49 (by kernel_rfl) rfl)
              (rows1_stops 3 (by omega) W6 W6 (Below.refl _ _) _ _ N HN.out a6 m c6' (X.take m) cN6 cB6 RX.out HT6 (by have := B6w.out.size; omega) os2 hos2) belowK_t (belowK_b (Nat.le_refl _)) (Below.refl _ _) (fun _ => rfl)
              (fun pre W => pre = [] ∧ Below W6.heap.size W6 W) (SeqR w bR m X D D2)
              (OwnFrom.and (ownFrom_pure _ _) (ownFrom_below (Nat.le_refl _) (Nat.le_refl _)))
              (SeqR.own w bR m X D D2 _ B6w.out.size (Array.getElem?_eq_some_iff.1 hL6).1 (Array.getElem?_eq_some_iff.1 hK2').1) ⟨rfl, Below.refl _ _⟩ ?a3 ?assign3 ?body3 ?done3 ?stop3
            case assign3 =>
              intro ll x W K hK
              gi_wp2
              exact hK
            case body3 =>
              rintro ll pre x W ⟨rfl, hbW⟩ -
              have QD := Lib.hid ((hbW.block D (Array.getElem?_eq_some_iff.1 hL6).1).trans hL6)
              have QD2 := Lib.hid ((hbW.block D2 (Array.getElem?_eq_some_iff.1 hK2').1).trans hK2')
              have hnD : D ≠ bR ∧ D2 ≠ bR := by
                have h1 := t5.belowS hbW
                exact ⟨(fun e => by have h2 := QD.out; rw [e, show W.heap[bR]? = _ from h1] at h2; cases h2), (fun e => by have h2 := QD2.out; rw [e, show W.heap[bR]? = _ from h1] at h2; cases h2)⟩
              have e1 := (t1.belowS hbW).cell
              have e5 := (t5.belowS hbW).cell
              have e6 := (t6.belowS hbW).cell
              have g5 := (t5.belowS hbW).frozen
              have OW := own_below O6.out hbW
              have rW := R8.of_owns OW (by omega)
              by_cases hm0 : m = 0
              · subst hm0
                have hdec : (decide (0 < 0) && X.getD 0 0 == 209) = false := by simp
                have HBR := Lib.hid (heap_setCell_same W bR 0 _ _ (.bool false) (t5.belowS hbW))
                have HBW := Lib.hid ((B6w.out.trans (hbW.mono B6w.out.size)).setCell (p := ⟨bR, 0, none⟩) (by have := HBL.out; have := HBB.out; show w.heap.size ≤ bR; omega) (.bool false))
                have HDD := Lib.hid hdec
                clear hdec
                gi_wp2
                exact ⟨KeepsOthers.setCell _ _ _, rfl, by simp, by rw [HDD.out]; exact HBR.out, HBW.out, (heap_setCell_other W ⟨bR, 0, none⟩ D _ hnD.1).trans QD.out, (heap_setCell_other W ⟨bR, 0, none⟩ D2 _ hnD.2).trans QD2.out⟩
              · obtain ⟨b7, o7, x7, hb7, hx7, hc7⟩ := rW.at (i := 0) (by omega)
                obtain ⟨rfl, rfl⟩ : g = b7 ∧ 0 = o7 := by simpa using hb7
                simp only [Nat.add_zero] at hc7
                have hmp : (0 : Int) < (m : Int) := by omega
                have hmn : 0 < m := by omega
                have hxg : X.getD 0 0 = x7 := by simp [List.getD, hx7]
                have hdec : (decide (0 < m) && X.getD 0 0 == 209) = (x7 == 209) := by rw [hxg]; simp [hmn]
                have hb80 : (0 : Int) < (m : Int) + 80 := by omega
                have heq7 : ((x7.toNat : Int) == 209) = (x7 == 209) := by
                  rw [Bool.eq_iff_iff]; simp
                  exact ⟨fun h => UInt8.toNat_inj.1 (by simpa using (by omega : x7.toNat = 209)), fun h => by rw [h]; rfl⟩
                clear hx7 hxg
                generalize (x7 == 209) = v7 at *
                have HD := Lib.hid hdec
                have HBR := Lib.hid (heap_setCell_same W bR 0 _ _ (.bool v7) (t5.belowS hbW))
                have HBW := Lib.hid ((B6w.out.trans (hbW.mono B6w.out.size)).setCell (p := ⟨bR, 0, none⟩) (by have := HBL.out; have := HBB.out; show w.heap.size ≤ bR; omega) (.bool v7))
                clear hdec
                gi_wp2
                exact ⟨KeepsOthers.setCell _ _ _, rfl, by simp, by rw [HD.out]; exact HBR.out, HBW.out, (heap_setCell_other W ⟨bR, 0, none⟩ D _ hnD.1).trans QD.out, (heap_setCell_other W ⟨bR, 0, none⟩ D2 _ hnD.2).trans QD2.out⟩
            case done3 =>
              rintro D3 xs W7 hD3 hxs ⟨rfl, hb7⟩ hK7
              have n5 := t5.belowS hb7
              have hnD : D ≠ bR ∧ D2 ≠ bR ∧ D3 ≠ bR := by
                have h1 := (hb7.block D (Array.getElem?_eq_some_iff.1 hL6).1).trans hL6
                have h2 := (hb7.block D2 (Array.getElem?_eq_some_iff.1 hK2').1).trans hK2'
                exact ⟨(fun e => by rw [e, show W7.heap[bR]? = _ from n5] at h1; cases h1), (fun e => by rw [e, show W7.heap[bR]? = _ from n5] at h2; cases h2), (fun e => by rw [e, show W7.heap[bR]? = _ from n5] at hK7; cases hK7)⟩
              have M1 := Lib.hid (heap_setCell_same W7 bR 0 _ _ (.bool true) n5)
              have M2 := Lib.hid ((heap_setCell_other W7 ⟨bR, 0, none⟩ D (.bool true) hnD.1).trans ((hb7.block D (Array.getElem?_eq_some_iff.1 hL6).1).trans hL6))
              have M3 := Lib.hid ((heap_setCell_other W7 ⟨bR, 0, none⟩ D2 (.bool true) hnD.2.1).trans ((hb7.block D2 (Array.getElem?_eq_some_iff.1 hK2').1).trans hK2'))
              have M4 := Lib.hid ((heap_setCell_other W7 ⟨bR, 0, none⟩ D3 (.bool true) hnD.2.2).trans hK7)
              have M5 := Lib.hid ((B6w.out.trans (hb7.mono B6w.out.size)).setCell (p := ⟨bR, 0, none⟩) (by have := HBL.out; have := HBB.out; show w.heap.size ≤ bR; omega) (.bool true))
              have M6 := Lib.hid (show D2 < D3 by have := (Array.getElem?_eq_some_iff.1 hK2').1; omega)
              have n5c := n5.cell
              have n5f := n5.frozen
              clear hK7 hnD hxs hb7 n5
              go_wp2_with fail
              exact leave3 _ w _ bR D D2 D3 rfl M1.out M4.out M3.out M2.out HDD.out M6.out M5.out (by have := HWD.out; omega)
            case stop3 =>
              rintro D3 cc pre W7 hD3 hSp ⟨rfl, hne7, hbx7, hb7, hL7, hK27⟩ hK7
              rw [third_true X m N _ os2 hos2 pre hne7 hSp] at hbx7
              have M6 := Lib.hid (show D2 < D3 by have := (Array.getElem?_eq_some_iff.1 hK2').1; omega)
              refine (wpIn_wide (n := 4)).2 ?_
              go_wp2_with fail
              exact leave3 _ w _ bR D D2 D3 rfl hbx7 hK7 hK27 hL7 HDD.out M6.out hb7 (by have := HWD.out; omega)
        · have hne : ((iv : Int) == (os.length : Int)) = false := by simp; omega
          have hne' : ((iv : Int) != (os.length : Int)) = true := by simp; omega
          have hnl : ((iv : Int) == lv) = true := by simp; omega
          have hnl' : ((iv : Int) != lv) = false := by simp; omega
          clear hlvv
          go_wp2_with fail
          rw [rounds_succ]
          have hgk := (Bx.new W2 3 (.int .i64 1)).cell
          go_wp2_with fail
          have k1 := (Bx.new W2 3 (.int .i64 1)).belowS (show Below (W2.alloc (.cells #[.int .i64 1] 3)).heap.size (W2.alloc (.cells #[.int .i64 1] 3)) ((W2.alloc (.cells #[.int .i64 1] 3)).alloc (.cells #[.int .i64 0] 3)) from (Below.refl _ _).alloc (Nat.le_refl _) _)
          have i1 := Boxed.new (W2.alloc (.cells #[.int .i64 1] 3)) 3 (.int .i64 0)
          have bw1 : Below W2.heap.size W2 ((W2.alloc (.cells #[.int .i64 1] 3)).alloc (.cells #[.int .i64 0] 3)) := ((Below.refl _ _).alloc (Nat.le_refl _) _).alloc (by simp) _
          rw [World.size_alloc] at i1
          generalize (W2.alloc (.cells #[.int .i64 1] 3)).alloc (.cells #[.int .i64 0] 3) = W3 at *
          obtain ⟨bk2, hbk⟩ : ∃ b, b = W2.heap.size := ⟨_, rfl⟩
          obtain ⟨bi2, hbi⟩ : ∃ b, b = W2.heap.size + 1 := ⟨_, rfl⟩
          have HBK := Lib.hid (show wr.heap.size ≤ bk2 ∧ bi2 = bk2 + 1 ∧ bk2 = W2.heap.size by have := hb.size; omega)
          have HB20 := Lib.hid hb
          have BW23 := bw1
          have ltD := (Array.getElem?_eq_some_iff.1 hK).1
          have HWD := Lib.hid (show w.heap.size ≤ D by have := BW1.out; omega)
          rw [show (W2.heap.size + 1) = bi2 from hbi.symm] at i1 ⊢
          have k1' : Boxed W3 bk2 3 (.int .i64 1) := by rw [hbk]; exact k1
          rw [show (Value.pointer (some { block := W2.heap.size, off := 0 })) = Value.pointer (some { block := bk2, off := 0 }) by rw [hbk]]
          have bw3 := hb.trans (bw1.mono hb.size)
          clear hbk hbi k1 bw1
          refine wp_meet4 (fun D iv W4 => W3.heap.size ≤ D ∧ iv = os.length ∧ RowI W2 bk2 bi2 1 os.length (List.range iv) W4 ∧ W4.heap[D]? = some (Obj.deferred (some []))) ?_ ?meet2b
          refine (wpIn_wide (n := 4)).1 ?_
          refine wpIn_rangeFunc_ownF (n := 4) (F := Fence.wide) rfl (by omega) (gf := 49) (lb := #[.pointer (some ⟨q1, 0, none⟩), .pointer (some ⟨q2, 0, none⟩)]) rfl trivial (enters_of Tryd.func49 (by kernel_rfl) rfl)
            (rows1_stops 3 (by omega) wr W3 bw3 q1 q2 N HN.out a' m c' l cN cB rR htr (by omega) os HOS.out) belowK_t (belowK_b bw3.size) (Below.refl _ _) (fun _ => rfl)
            (RowI W2 bk2 bi2 1 os.length) (RowX W2 bk2 bi2 1 lv os.length) (RowI.own _ _ _ _ _ _ BW23.size) (RowX.own _ _ _ _ _ _ _ BW23.size) ⟨⟨rfl, Nat.zero_le _⟩, i1, k1', BW23⟩ ?a2b ?assign2b ?body2b ?done2b ?stop2b
          case assign2b =>
            intro ll x W K hK
            gi_wp2
            exact hK
          case body2b =>
            rintro ll pre x W ⟨⟨hp1, hp2⟩, ib, kb, hbn⟩ hlN
            have hb := HB20.out.trans (hbn.mono HB20.out.size)
            have HBN := Lib.hid hbn
            clear hbn
            have hlv2 := HLV.out
            obtain ⟨i, hi⟩ : ∃ i, i = pre.length := ⟨_, rfl⟩
            rw [← hi] at ib hp2 hp1 hlN
            have ci := ib.cell
            have fi := ib.frozen
            have ck := kb.cell
            have cw := (y3.belowS hb).cell
            have cn := (y1.belowS hb).cell
            have cl := (y4.belowS hb).cell
            have cr := (y5.belowS hb).cell
            have fr := (y5.belowS hb).frozen
            have hd : 1 ≤ 4 - 1 - 1 := by omega
            have HPRE := Lib.hid hp1
            have HI := Lib.hid hi
            have HB2 := Lib.hid hb
            clear hp1 hi hb
            by_cases c1 : i < os.length
            · have hbd := recOF_bd (l.length + 1) N l 0
              rw [HOS.out] at hbd
              have hw : IntKind.i64.wrap (N + (i : Int)) = N + (i : Int) := by simp [IntKind.wrap, IntKind.bits, IntKind.signed]; omega
              have c1' : ¬ os.length ≤ i := by omega
              have hol := RV'.out.2.2.1
              by_cases hx : x = i
              · subst hx
                have hne : ((N + (x : Int)) == (N + (x : Int))) = false ∨ True := .inr trivial
                obtain ⟨p, hp⟩ : ∃ p, os[x]? = some p := ⟨_, List.getElem?_eq_getElem c1⟩
                have hpin := recOF_in l (l.length + 1) N l 0 rfl x p (by rw [HOS.out]; exact hp)
                have hll := HR.out.1
                have rv := (r8_recV rR p (by omega)).below HB2.out
                obtain ⟨b3, o3, v3, rfl, hv3, hc3⟩ := RV'.out.at c1
                obtain ⟨a4, n4, c4, rfl, r4⟩ := RVS.out.2 x v3 (((l.drop p.1).drop 9).take p.2) hv3 (by rw [List.getElem?_map, hp]; rfl)
                have r4 := r4.below HB2.out
                have cv3 := (HB2.out.cell (p := ⟨b3, o3 + x, none⟩) (block_lt_of_cell hc3)).trans hc3
                have c1i : (x : Int) < (os.length : Int) := by omega
                have hpv : os[x]?.getD (0, 0) = p := by rw [hp]; rfl
                have HPV := Lib.hid hpv
                clear hv3 hc3 hp hpin hbd
                rw [hpv]
                unfold recV
                gi_wp2
                refine ⟨trivial, (CallsIn.inRound ll (callsIn_wide.2 (same_any W _ _ _ _ _ _ _ _ rv r4 true (by simp)))).mono ?_⟩
                rintro e w' ⟨rfl, nn2, rfl⟩
                have hw1 : IntKind.i64.wrap ((x : Int) + 1) = (x : Int) + 1 := by simp [IntKind.wrap, IntKind.bits, IntKind.signed]; omega
                have hKO : KeepsOthers W ((W.drewN nn2).setCell ⟨bi2, 0, none⟩ (.int .i64 ((x : Int) + 1))) := (⟨Nat.le_refl _, fun _ _ h _ => h⟩ : KeepsOthers W (W.drewN nn2)).trans (KeepsOthers.setCell _ _ _)
                have hBW : Below wr.heap.size W ((W.drewN nn2).setCell ⟨bi2, 0, none⟩ (.int .i64 ((x : Int) + 1))) := (below_drewN (Below.refl _ W) nn2).setCell (p := ⟨bi2, 0, none⟩) (by have := HBK.out; show wr.heap.size ≤ bi2; omega) _
                have hBW2 : Below W2.heap.size W ((W.drewN nn2).setCell ⟨bi2, 0, none⟩ (.int .i64 ((x : Int) + 1))) := (below_drewN (Below.refl _ W) nn2).setCell (p := ⟨bi2, 0, none⟩) (by have := HBK.out; show W2.heap.size ≤ bi2; omega) _
                have hRI : RowI W2 bk2 bi2 1 os.length (pre ++ [x]) ((W.drewN nn2).setCell ⟨bi2, 0, none⟩ (.int .i64 ((x : Int) + 1))) := by
                  refine ⟨⟨?_, ?_⟩, ?_, ?_, HBN.out.trans hBW2⟩
                  · rw [HPRE.out]; simp [List.range_succ]
                  · rw [HPRE.out]; simp; omega
                  · rw [HPRE.out]
                    have := heap_setCell_same (W.drewN nn2) bi2 0 _ _ (.int .i64 ((x : Int) + 1)) ib
                    simpa [Boxed] using this
                  · exact (heap_setCell_other (W.drewN nn2) ⟨bi2, 0, none⟩ bk2 _ (by have := HBK.out; show bk2 ≠ bi2; omega)).trans kb
                have HKO := Lib.hid hKO
                have HBW := Lib.hid hBW
                have HRI := Lib.hid hRI
                have hne : bk2 ≠ bi2 := by have := HBK.out; omega
                have hlb : bL ≠ bi2 := by have := HBK.out; have := y4.lt; omega
                clear hKO hBW hBW2 hRI rv r4
                by_cases hlx : lv = (x : Int) + 1
                · gi_wp2
                  exact ⟨HKO.out, HBW.out, HRI.out⟩
                · have hlx' : ((x : Int) + 1 == lv) = false := by simp; omega
                  gi_wp2
                  exact ⟨HKO.out, HBW.out, HRI.out⟩
              · have hno : ¬ pre ++ [x] <+: List.range os.length := fun h => by
                  obtain ⟨t, ht⟩ := h
                  have h1 := congrArg (fun l => l[i]?) ht
                  simp only [HPRE.out] at h1
                  rw [List.append_assoc, List.getElem?_append_right (by simp)] at h1
                  simp [c1] at h1
                  exact hx h1
                have HNO := Lib.hid hno
                have hne : ((N + (x : Int)) == (N + (i : Int))) = false := by simp; omega
                have hne' : ((N + (x : Int)) != (N + (i : Int))) = true := by simp; omega
                clear hno hbd
                gi_wp2
                refine ⟨trivial, ?_⟩
                gi_wp2
                exact ⟨KeepsOthers.setCell _ _ _, .inl ⟨rfl, HNO.out⟩⟩
            · have hno : ¬ pre ++ [x] <+: List.range os.length := fun h => by
                have := h.length_le
                have h2 := HI.out
                simp at this; omega
              have HNO := Lib.hid hno
              clear hno
              gi_wp2
              refine ⟨trivial, ?_⟩
              gi_wp2
              exact ⟨KeepsOthers.setCell _ _ _, .inl ⟨rfl, HNO.out⟩⟩
          case done2b =>
            rintro D2 xs W4 hD2 rfl hI hK2
            exact ⟨.inl rfl, D2, os.length, rfl, hD2, rfl, hI, hK2⟩
          case stop2b =>
            rintro D2 cc pre W4 hD2 hSp (⟨rfl, hno⟩ | ⟨rfl, h10, -, -⟩) hK2
            · exact absurd hSp hno
            · omega
          case meet2b =>
            rintro D2 iv W4 ⟨hD2, rfl, hI, hK2⟩
            obtain ⟨-, ib4, kb4, hb4n⟩ := hI
            have hb4 := HB20.out.trans (hb4n.mono HB20.out.size)
            have hK4 := (hb4n.block D ltD).trans hK
            have HDD := Lib.hid (show D < D2 by have := BW23.size; omega)
            rw [List.length_range] at ib4
            have ci4 := ib4.cell
            have ck4 := kb4.cell
            have cw4 := (y3.belowS hb4).cell
            have z4 := hb4.size
            have xk := Bx.new W4 3 (.int .i64 2)
            have b45 : Below W4.heap.size W4 (W4.alloc (.cells #[.int .i64 2] 3)) := (Below.refl _ _).alloc (Nat.le_refl _) _
            have b05 := hb4.trans (b45.mono z4)
            have x1 := y1.belowS b05
            have x2 := y2.belowS b05
            have x5 := y5.belowS b05
            have x6 := y6r.belowS b05
            have O5 := Lib.hid ((HO.out.kept (row := none) (gwk b05) (by cases (Value.slice (some (⟨g, 0, none⟩ : Addr)) (m + 80) (m + 80)).ownBlock <;> simp)))
            have hK5 := (Below.heap_alloc W4 (.cells #[.int .i64 2] 3) D2 (Array.getElem?_eq_some_iff.1 hK2).1).trans hK2
            have hL5 := (Below.heap_alloc W4 (.cells #[.int .i64 2] 3) D (Array.getElem?_eq_some_iff.1 hK4).1).trans hK4
            go_wp2_with fail
            rw [rounds_succ]
            have hgk4 := xk.cell
            go_wp2_with fail
            clear hgk4 xk
            have z5w : W4.heap.size ≤ (W4.alloc (.cells #[.int .i64 2] 3)).heap.size := b45.size
            generalize hW5 : W4.alloc (.cells #[.int .i64 2] 3) = W5 at *
            have d1 := x1.cell
            have d2 := x2.cell
            have d6 := x6.cell
            have hsl5 := fun wx => slice_to wx (some ⟨g, 0, none⟩) (m + 80) (m + 80) m (by omega)
            obtain ⟨X, hX⟩ : ∃ X, X = turnL (l ++ List.replicate 80 209) 0 (m + 80) := ⟨_, rfl⟩
            rw [← hX] at O5
            have HX := Lib.hid hX
            clear hX
            have rm5 : R8 W5 (some ⟨g, 0, none⟩) m (m + 80) (X.take m) := (R8.of_owns O5.out (by omega)).take m (by omega)
            go_region_held3 (fun w => w.cell? ⟨bN, 0, none⟩ = some (.int .i64 N) ∧ w.cell? ⟨bF, 0, none⟩ = some (.slice (some ⟨g, 0, none⟩) (m + 80) (m + 80)) ∧ w.cell? ⟨bB, 0, none⟩ = some (.slice sa m c)) (first | exact ⟨d1, d6, d2⟩ | exact ⟨(Bx.belowS (w := W5.drew) x1 hb6).cell, (Bx.belowS (w := W5.drew) x6 hb6).cell, (Bx.belowS (w := W5.drew) x2 hb6).cell⟩)
              (first | (go_at_call 42; refine (rowsfn_any W5.drew _ _ _ _ (X.take m) rm5.drew hm).mono ?_; rintro e W6 ⟨a6, c6', rfl, cN6, cB6, rR6, hb6⟩))
            have hb6' : Below W5.heap.size W5 W6 := (show Below W5.heap.size W5 W5.drew from (Below.refl _ _).drew).trans hb6
            have b06 := b05.trans (hb6'.mono b05.size)
            have t1 := x2.belowS hb6'
            have t5 := x5.belowS hb6'
            have t6 := x6.belowS hb6'
            have O6 := Lib.hid (own_below O5.out hb6')
            have hK2' := (hb6'.block D2 (Array.getElem?_eq_some_iff.1 hK5).1).trans hK5
            have hL6 := (hb6'.block D (Array.getElem?_eq_some_iff.1 hL5).1).trans hL5
            have e1 := t1.cell; have e5 := t5.cell; have e6 := t6.cell; have g5 := t5.frozen
            go_wp2_with fail
            have RX := Lib.hid (R8.of_owns rR6 (by omega))
            have HT6 := HT.out.below (HB.out.trans (b06.mono zr)) (by omega)
            have B6w := Lib.hid (HB.out.trans (b06.mono zr))
            obtain ⟨os2, hos2⟩ : ∃ o, recOF ((X.take m).length + 1) N (X.take m) 0 = o := ⟨_, rfl⟩
            refine (wpIn_wide (n := 4)).1 ?_
            refine wpIn_rangeFunc_ownF (n := 4) (F := Fence.wide) rfl (by omega) (gf := 49) (lb := #[.pointer (some ⟨W5.heap.size, 0, none⟩), .pointer (some ⟨W5.heap.size + 1, 0, none⟩)]) rfl trivial (enters_of Tryd.func49 (by kernel_rfl) rfl)
              (rows1_stops 3 (by omega) W6 W6 (Below.refl _ _) _ _ N HN.out a6 m c6' (X.take m) cN6 cB6 RX.out HT6 (by have := B6w.out.size; omega) os2 hos2) belowK_t (belowK_b (Nat.le_refl _)) (Below.refl _ _) (fun _ => rfl)
              (fun pre W => pre = [] ∧ Below W6.heap.size W6 W) (SeqR w bR m X D D2)
              (OwnFrom.and (ownFrom_pure _ _) (ownFrom_below (Nat.le_refl _) (Nat.le_refl _)))
              (SeqR.own w bR m X D D2 _ B6w.out.size (Array.getElem?_eq_some_iff.1 hL6).1 (Array.getElem?_eq_some_iff.1 hK2').1) ⟨rfl, Below.refl _ _⟩ ?a3b ?assign3b ?body3b ?done3b ?stop3b
            case assign3b =>
              intro ll x W K hK
              gi_wp2
              exact hK
            case body3b =>
              rintro ll pre x W ⟨rfl, hbW⟩ -
              have QD := Lib.hid ((hbW.block D (Array.getElem?_eq_some_iff.1 hL6).1).trans hL6)
              have QD2 := Lib.hid ((hbW.block D2 (Array.getElem?_eq_some_iff.1 hK2').1).trans hK2')
              have hnD : D ≠ bR ∧ D2 ≠ bR := by
                have h1 := t5.belowS hbW
                exact ⟨(fun e => by have h2 := QD.out; rw [e, show W.heap[bR]? = _ from h1] at h2; cases h2), (fun e => by have h2 := QD2.out; rw [e, show W.heap[bR]? = _ from h1] at h2; cases h2)⟩
              have e1 := (t1.belowS hbW).cell
              have e5 := (t5.belowS hbW).cell
              have e6 := (t6.belowS hbW).cell
              have g5 := (t5.belowS hbW).frozen
              have OW := own_below O6.out hbW
              have rW := R8.of_owns OW (by omega)
              by_cases hm0 : m = 0
              · subst hm0
                have hdec : (decide (0 < 0) && X.getD 0 0 == 209) = false := by simp
                have HBR := Lib.hid (heap_setCell_same W bR 0 _ _ (.bool false) (t5.belowS hbW))
                have HBW := Lib.hid ((B6w.out.trans (hbW.mono B6w.out.size)).setCell (p := ⟨bR, 0, none⟩) (by have := HBL.out; have := HBB.out; show w.heap.size ≤ bR; omega) (.bool false))
                have HDD := Lib.hid hdec
                clear hdec
                gi_wp2
                exact ⟨KeepsOthers.setCell _ _ _, rfl, by simp, by rw [HDD.out]; exact HBR.out, HBW.out, (heap_setCell_other W ⟨bR, 0, none⟩ D _ hnD.1).trans QD.out, (heap_setCell_other W ⟨bR, 0, none⟩ D2 _ hnD.2).trans QD2.out⟩
              · obtain ⟨b7, o7, x7, hb7, hx7, hc7⟩ := rW.at (i := 0) (by omega)
                obtain ⟨rfl, rfl⟩ : g = b7 ∧ 0 = o7 := by simpa using hb7
                simp only [Nat.add_zero] at hc7
                have hmp : (0 : Int) < (m : Int) := by omega
                have hmn : 0 < m := by omega
                have hxg : X.getD 0 0 = x7 := by simp [List.getD, hx7]
                have hdec : (decide (0 < m) && X.getD 0 0 == 209) = (x7 == 209) := by rw [hxg]; simp [hmn]
                have hb80 : (0 : Int) < (m : Int) + 80 := by omega
                have heq7 : ((x7.toNat : Int) == 209) = (x7 == 209) := by
                  rw [Bool.eq_iff_iff]; simp
                  exact ⟨fun h => UInt8.toNat_inj.1 (by simpa using (by omega : x7.toNat = 209)), fun h => by rw [h]; rfl⟩
                clear hx7 hxg
                generalize (x7 == 209) = v7 at *
                have HD := Lib.hid hdec
                have HBR := Lib.hid (heap_setCell_same W bR 0 _ _ (.bool v7) (t5.belowS hbW))
                have HBW := Lib.hid ((B6w.out.trans (hbW.mono B6w.out.size)).setCell (p := ⟨bR, 0, none⟩) (by have := HBL.out; have := HBB.out; show w.heap.size ≤ bR; omega) (.bool v7))
                clear hdec
                gi_wp2
                exact ⟨KeepsOthers.setCell _ _ _, rfl, by simp, by rw [HD.out]; exact HBR.out, HBW.out, (heap_setCell_other W ⟨bR, 0, none⟩ D _ hnD.1).trans QD.out, (heap_setCell_other W ⟨bR, 0, none⟩ D2 _ hnD.2).trans QD2.out⟩
            case done3b =>
              rintro D3 xs W7 hD3 hxs ⟨rfl, hb7⟩ hK7
              have n5 := t5.belowS hb7
              have hnD : D ≠ bR ∧ D2 ≠ bR ∧ D3 ≠ bR := by
                have h1 := (hb7.block D (Array.getElem?_eq_some_iff.1 hL6).1).trans hL6
                have h2 := (hb7.block D2 (Array.getElem?_eq_some_iff.1 hK2').1).trans hK2'
                exact ⟨(fun e => by rw [e, show W7.heap[bR]? = _ from n5] at h1; cases h1), (fun e => by rw [e, show W7.heap[bR]? = _ from n5] at h2; cases h2), (fun e => by rw [e, show W7.heap[bR]? = _ from n5] at hK7; cases hK7)⟩
              have M1 := Lib.hid (heap_setCell_same W7 bR 0 _ _ (.bool true) n5)
              have M2 := Lib.hid ((heap_setCell_other W7 ⟨bR, 0, none⟩ D (.bool true) hnD.1).trans ((hb7.block D (Array.getElem?_eq_some_iff.1 hL6).1).trans hL6))
              have M3 := Lib.hid ((heap_setCell_other W7 ⟨bR, 0, none⟩ D2 (.bool true) hnD.2.1).trans ((hb7.block D2 (Array.getElem?_eq_some_iff.1 hK2').1).trans hK2'))
              have M4 := Lib.hid ((heap_setCell_other W7 ⟨bR, 0, none⟩ D3 (.bool true) hnD.2.2).trans hK7)
              have M5 := Lib.hid ((B6w.out.trans (hb7.mono B6w.out.size)).setCell (p := ⟨bR, 0, none⟩) (by have := HBL.out; have := HBB.out; show w.heap.size ≤ bR; omega) (.bool true))
              have M6 := Lib.hid (show D2 < D3 by have := (Array.getElem?_eq_some_iff.1 hK2').1; omega)
              have n5c := n5.cell
              have n5f := n5.frozen
              clear hK7 hnD hxs hb7 n5
              go_wp2_with fail
              exact leave3 _ w _ bR D D2 D3 rfl M1.out M4.out M3.out M2.out HDD.out M6.out M5.out (by have := HWD.out; omega)
            case stop3b =>
              rintro D3 cc pre W7 hD3 hSp ⟨rfl, hne7, hbx7, hb7, hL7, hK27⟩ hK7
              rw [third_true X m N _ os2 hos2 pre hne7 hSp] at hbx7
              have M6 := Lib.hid (show D2 < D3 by have := (Array.getElem?_eq_some_iff.1 hK2').1; omega)
              refine (wpIn_wide (n := 4)).2 ?_
              go_wp2_with fail
              exact leave3 _ w _ bR D D2 D3 rfl hbx7 hK7 hK27 hL7 HDD.out M6.out hb7 (by have := HWD.out; omega)
end Go.Proofs.YtdepdediggokgaaDoor
