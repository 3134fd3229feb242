import Derived.Test.YtdepdediggokgaaDoorE7
namespace Go.Proofs.YtdepdediggokgaaDoor
open Go.RowKit
set_option linter.unusedVariables false
theorem turnedLast (w : World) (B g N C m : Nat) (xs : List UInt8) (ho : w.ownsRow B 5 1 (.slice (some ⟨g, 0, none⟩) N C) N (xs.map b8)) (hm : m ≤ N) (hN : N ≤ 140737488355328) (h1 : 0 < m) :
    Calls Tryd.prog 19 #[.slice (some ⟨g, 0, none⟩) m C, .int .i64 ((m : Int) - 1)] w fun e w' => ∃ a c, e = .returned (.slice a m c) ∧ w'.ownsRow w.heap.size 5 1 (.slice a m c) m (((turnL xs (m - 1) m).take m).map b8) ∧
      w'.ownsRow B 5 1 (.slice (some ⟨g, 0, none⟩) N C) N ((turnL xs (m - 1) m).map b8) ∧ w.grownBy w' (some g) := by
  have := turned_any w B g N C m (m - 1) xs ho hm hN (by omega)
  rwa [show (((m - 1 : Nat) : Nat) : Int) = (m : Int) - 1 by omega] at this

set_option maxRecDepth 100000 in
set_option maxHeartbeats 2000000 in
theorem frameends_walk (w : World) (n : Int) (n0 : -9223372036854775808 ≤ n) (n1 : n ≤ 9223372036854775807) (sa : Option Addr) (m c : Nat) (l : List UInt8) (h : R8 w sa m c l) (hs : m ≤ 140737488351232)
    (lv : Int) (l0 : -9223372036854775808 ≤ lv) (l1 : lv ≤ 9223372036854775807) (ht0 : HalfTab w ∧ 0 < w.heap.size) :
    Calls Tryd.prog 9 #[.int .i64 n, .slice sa m c, .int .i64 lv] w fun e w' => e = .returned (.bool true) ∧ Below w.heap.size w w' := by
  obtain ⟨ht, h0⟩ := ht0
  have HT := Lib.hid ht
  have HR := Lib.hid h
  have hlen := Lib.hid h.1
  have HN := Lib.hid (show -9223372036854775808 ≤ n ∧ n ≤ 9223372036854775807 from ⟨n0, n1⟩)
  have HL := Lib.hid (show -9223372036854775808 ≤ lv ∧ lv ≤ 9223372036854775807 from ⟨l0, l1⟩)
  obtain ⟨B, hB⟩ : ∃ B, B = w.heap.size := ⟨_, rfl⟩
  have HBB := Lib.hid hB
  have hB0 : B ≤ w.heap.size := by omega
  have h0B : 0 < B := by omega
  obtain ⟨k, at_, why, hE⟩ : ∃ k a e, endF (l.length + 1) n l = (k, a, e) := ⟨_, _, _, rfl⟩
  have HE := Lib.hid hE
  clear hE n0 n1 l0 l1
  go_enter Tryd.func9, Tryd.ntmps9
  go_wp2_with fail
  with_reducible refine (first_any _ ht h0).mono ?_
  rintro e w1 ⟨rfl, hb1⟩
  rw [← hB] at hb1
  clear hB ht h h0
  have z1 : B ≤ w1.heap.size := by have := hb1.size; omega
  go_wp2_with fail
  with_reducible refine (refend_any w1 n HN.out _ _ _ l (HR.out.belowB (by have := HBB.out; omega) hb1) k at_ why HE.out).mono ?_
  rintro e w2 ⟨⟨a2, c2, vs, rfl, o2, v2⟩, b2⟩
  have z2 := b2.size
  have hb2 := hb1.trans (b2.mono z1)
  have hk48 : k ≤ 281474976710656 := by
    have h1 := o2.1
    have h2 := v2.1
    have h3 := recOF_bd (l.length + 1) n l 0
    have h4 := recOF_recs l (l.length + 1) n l 0 rfl
    rw [h4] at h2
    simp at h1 h2
    omega
  have RVS := Lib.hid (RV.of_owns o2 hk48)
  have V2 := Lib.hid v2
  have HOS := Lib.hid (show (recOF (l.length + 1) n l 0).length = k by
    have h1 := o2.1
    have h2 := v2.1
    have h4 := recOF_recs l (l.length + 1) n l 0 rfl
    rw [h4] at h2
    simp at h1 h2
    omega)
  have B12 := Lib.hid b2
  clear b2 hb1 o2 v2
  go_wp2_with fail
  with_reducible refine (roomy209 w2 _ _ _ l (HR.out.belowB (by have := HBB.out; omega) hb2) (by omega)).mono ?_
  rintro e w3 ⟨g, rfl, o3, b3⟩
  have z3 := b3.size
  have HB2 := Lib.hid hb2
  have O3 := Lib.hid o3
  have B3 := Lib.hid b3
  have zB2 : B ≤ w2.heap.size := by omega
  have HF := Lib.hid (show ∀ wX, Below w2.heap.size w2 wX → Calls Tryd.prog 28 #[.int .i64 n, .slice sa m c, .slice a2 k c2, .int .i64 lv] wX fun e w' => e = .returned (.bool true) ∧ Below wX.heap.size wX w' from fun wX hbX => by
    have hBX := HB2.out.trans (hbX.mono zB2)
    have hB1 := HBB.out
    have := rows_any wX n HN.out sa m c l (HR.out.belowB (by omega) hBX) hs a2 c2 vs _ rfl (by rw [HOS.out]; exact RVS.out.below hbX) (by rw [← recOF_recs l (l.length + 1) n l 0 rfl]; exact V2.out.below (B12.out.trans (hbX.mono z2))) lv HL.out (HT.out.below (hB1 ▸ hBX) (by omega)) (by have := hBX.size; omega)
    rwa [HOS.out] at this)
  clear o3 b3 hb2
  go_wp2_with fail
  go_loopw [11, 12, 13, 14] (fun x _ _ _ wr => ∃ i : Nat, i ≤ 2 ∧ x = .int .i64 i ∧ Below w3.heap.size w3 wr) (fun x _ _ _ _ => 2 - (intOf x).toNat)
  case atStart => exact ⟨0, by omega, rfl, Below.refl _ _⟩
  case round =>
    obtain ⟨i, hi, rfl, hb⟩ := hrel
    have HB := Lib.hid hb
    have zr := hb.size
    have o := own_below O3.out hb
    have O := Lib.hid o
    have r0 := R8.of_owns o (by omega)
    have rm : R8 wr (some ⟨g, 0, none⟩) m (m + 80) l := by
      have := r0.take m (by omega)
      rwa [List.take_append_of_le_length (by rw [hlen.out]; omega), List.take_of_length_le (by rw [hlen.out]; omega)] at this
    have hb23 := B3.out.trans (hb.mono z3)
    have HB23 := Lib.hid hb23
    have htr := HT.out.below (HBB.out ▸ HB2.out.trans (hb23.mono zB2)) (by have := HBB.out; omega)
    have hsl := fun wx => slice_to wx (some ⟨g, 0, none⟩) (m + 80) (m + 80) m (by omega)
    clear o hb r0 hb23
    by_cases hlt : i < 2
    · go_wp2_with fail
      with_reducible refine (end_any wr n HN.out _ _ _ l rm htr (by omega) k at_ why HE.out).mono ?_
      rintro e w5 ⟨rfl, b5⟩
      have z5 := b5.size
      have B5 := Lib.hid (HB.out.trans (b5.mono zr))
      have rf := R8.of_owns (own_below O.out b5) (by omega)
      have rp := HR.out.belowB (show w.heap.size ≤ B by have := HBB.out; omega) ((HB2.out.trans (HB23.out.mono zB2)).trans (b5.mono (by omega)))
      clear b5 rm htr hsl
      go_wp2_with fail
      with_reducible refine (intact209 w5 _ _ _ _ _ _ l rf rp).mono ?_
      rintro e w' ⟨rfl, q2, rfl⟩
      have B5d := Lib.hid (below_drewN B5.out q2)
      clear rf rp
      go_wp2
      go_roundw
      case rel => exact ⟨i + 1, by omega, by go_num, B5d.out⟩
      case measure => simp [intOf]; omega
    · by_cases hm0 : 0 < m
      · have hmI : (0 : Int) < (m : Int) := by omega
        go_wp2_with fail
        with_reducible refine (turnedLast wr w2.heap.size g (m + 80) (m + 80) m _ O.out (by omega) (by omega) hm0).mono ?_
        rintro e w5 ⟨a5, c5, rfl, o5, o6, g5⟩
        have z5 := g5.size
        have b5 := HB23.out.grown g5 (by omega) (fun k hk => by obtain rfl := Option.some.inj hk; exact (O.out.lt g rfl).1)
        have r5 := R8.of_owns o5 (by omega)
        have r6 := (R8.of_owns o6 (by omega)).take m (by omega)
        have hBw := HB2.out.trans (b5.mono zB2)
        have ht5 := HT.out.below (HBB.out ▸ hBw) (by have := HBB.out; omega)
        generalize turnL (l ++ List.replicate 80 209) (m - 1) m = X at *
        obtain ⟨k1, at1, why1, hE1⟩ : ∃ k a e, endF ((X.take m).length + 1) n (X.take m) = (k, a, e) := ⟨_, _, _, rfl⟩
        have HE1 := Lib.hid hE1
        have B5 := Lib.hid b5
        generalize hL : X.take m = L at *
        have HL' := Lib.hid hL
        clear hE1 b5 g5 hBw rm htr o5 o6 hL
        go_wp2_with fail
        with_reducible refine (refend_any w5 n HN.out _ _ _ L r5 k1 at1 why1 HE1.out).mono ?_
        rintro e w6 ⟨⟨a6, c6, vs6, rfl, o6, v6⟩, b6⟩
        have z6 := b6.size
        have r6' := r6.below b6
        have ht6 := ht5.below b6 (by omega)
        have B6 := Lib.hid (B5.out.trans (b6.mono (by omega)))
        clear o6 v6 r5 r6 ht5 b6
        go_wp2_with fail
        with_reducible refine (end_any w6 n HN.out _ _ _ L r6' ht6 (by omega) k1 at1 why1 HE1.out).mono ?_
        rintro e w7 ⟨rfl, b7⟩
        have B7 := Lib.hid (B6.out.trans (b7.mono (by omega)))
        clear r6' ht6 b7
        go_wp2_with fail
        with_reducible refine (HF.out w7 B7.out).mono ?_
        rintro e w8 ⟨rfl, b8⟩
        go_wp2
        go_ret
        refine ⟨rfl, ?_⟩
        have hB8 := (HB2.out.trans (B7.out.mono zB2)).trans (b8.mono (by have := B7.out.size; omega))
        rwa [HBB.out] at hB8
      · have hmI : ¬ (0 : Int) < (m : Int) := by omega
        have hmN : m = 0 := by omega
        have HM := Lib.hid hmN
        clear hmN hm0
        go_wp2_with fail
        with_reducible refine (HF.out wr HB23.out).mono ?_
        rintro e w8 ⟨rfl, b8⟩
        go_wp2
        go_ret
        refine ⟨rfl, ?_⟩
        have hB8 := (HB2.out.trans (HB23.out.mono zB2)).trans (b8.mono (by omega))
        rwa [HBB.out] at hB8
end Go.Proofs.YtdepdediggokgaaDoor
