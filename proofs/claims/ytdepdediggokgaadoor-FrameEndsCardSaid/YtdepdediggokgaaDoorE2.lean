import Derived.Test.YtdepdediggokgaaDoorE1
import Derived.Deep.DeepCutAuto
import Derived.Deep.CutBlock
namespace Go.Proofs.YtdepdediggokgaaDoor
open Go.RowKit
set_option linter.unusedVariables false
theorem refunpack_arg (w : World) (n : Int) (hn : n < 0 ∨ 1099511627776 ≤ n) (a : Option Addr) (m c : Nat) :
    Calls Tryd.prog 41 #[.int .i64 n, .slice a m c] w fun e w' => e = .returned (.tuple #[.slice none 0 0, .int .i64 0, .int .i64 1]) ∧ w = w' := by
  rcases hn with h | h
  · go_enter Tryd.func41, Tryd.ntmps41
    go_wp2
    go_ret3
    exact ⟨rfl, rfl⟩
  · have h0 : ¬ n < 0 := by omega
    have h1 : 1099511627775 < n := by omega
    go_enter Tryd.func41, Tryd.ntmps41
    go_wp2
    go_ret3
    exact ⟨rfl, rfl⟩
/-- What the reference's Unpack answers. -/
def UnpOut (x : Ending) (a : Option Addr) (c q e : Nat) : Prop := ∃ v k, x = .returned (.tuple #[v, .int .i64 k, .int .i64 (e : Int)]) ∧ (e = 0 → v = .slice (dropA a 9 c) q (c - 9) ∧ k = ((q + 13 : Nat) : Int))
set_option maxRecDepth 100000 in
set_option maxHeartbeats 2000000 in
theorem refunpack_any (w : World) (n : Nat) (hn : n < 1099511627776) (a : Option Addr) (m c : Nat) (l : List UInt8) (h : R8 w a m c l) (q e : Nat) (hr : wholeF n l = (q, e)) :
    Calls Tryd.prog 41 #[.int .i64 (n : Int), .slice a m c] w fun x w' => UnpOut x a c q e ∧ Below w.heap.size w w' := by
  have hm := h.2.2.1
  have hmc := h.2.1
  have hlen := Lib.hid h.1
  have hn1 : decide ((n:Int) < 0) = false := by simp
  have hn2 : decide (1099511627775 < (n:Int)) = false := by simp; omega
  have HR := Lib.hid h
  have HQ := Lib.hid hr
  clear hr
  go_enter Tryd.func41, Tryd.ntmps41
  go_wp2
  go_loop [7, 8] (fun v i => ∃ k : Nat, k ≤ 4 ∧ i = .int .i64 ((k + 1 : Nat) : Int) ∧ v = .int .i64 ((lenK l k : Nat) : Int)) (fun _ i => 5 - (intOf i).toNat)
  case atStart => exact ⟨0, by omega, rfl, rfl⟩
  case round =>
    obtain ⟨k, hk, rfl, rfl⟩ := hrel
    have hkl := lenK_lt l k
    by_cases hlt : k < 4
    · have hk2 : lenK l k < 16777216 := Nat.lt_of_lt_of_le hkl (by have : 256 ^ k ≤ 256 ^ 3 := Nat.pow_le_pow_right (by omega) (by omega); omega)
      have hst : lenK l (k + 1) = lenK l k * 256 + (l.getD (k + 1) 0).toNat := rfl
      have Hst := Lib.hid hst; clear hst hkl
      by_cases hln : k + 1 < m
      · obtain ⟨b, off, x, rfl, hl, hc⟩ := h.at hln
        have hx : x.toNat < 256 := x.toNat_lt
        have hg : l.getD (k + 1) 0 = x := by simp [List.getD, hl]
        have Hg := Lib.hid hg
        clear h hl hg
        generalize lenK l k = y at *
        have hw1 : IntKind.i64.wrap (256 * (y : Int)) = 256 * (y : Int) := by simp [IntKind.wrap, IntKind.bits, IntKind.signed]; omega
        have hw2 : IntKind.i64.wrap (256 * (y : Int) + (x.toNat : Int)) = 256 * (y : Int) + (x.toNat : Int) := by simp [IntKind.wrap, IntKind.bits, IntKind.signed]; omega
        go_wp2
        go_round
        case rel => exact ⟨k+1, by omega, by go_num, by rw [Hst.out, Hg.out]; congr 1; omega⟩
        case measure => simp [intOf]; omega
      · have hg : l.getD (k + 1) 0 = 0 := by have := hlen.out; simp [List.getD, show l.length ≤ k + 1 by omega]
        have Hg := Lib.hid hg
        clear h hg
        generalize lenK l k = y at *
        have hw1 : IntKind.i64.wrap (256 * (y : Int)) = 256 * (y : Int) := by simp [IntKind.wrap, IntKind.bits, IntKind.signed]; omega
        go_wp2
        go_round
        case rel => exact ⟨k+1, by omega, by go_num, by rw [Hst.out, Hg.out]; congr 1; simp; omega⟩
        case measure => simp [intOf]; omega
    · obtain rfl : k = 4 := by omega
      clear hkl hk hlt
      have hr := HQ.out
      unfold wholeF at hr
      rw [hlen.out] at hr
      by_cases c1 : m = 0
      · rw [if_pos c1] at hr
        obtain ⟨rfl, rfl⟩ := Prod.mk.inj hr
        subst c1
        have hl0 : l = [] := List.eq_nil_of_length_eq_zero hlen.out
        have hz : lenK l 4 = 0 := by rw [hl0]; rfl
        rw [hz]
        clear h hr hz
        go_wp2
        go_ret3
        exact ⟨⟨_, _, rfl, by omega⟩, Below.refl _ _⟩
      rw [if_neg c1] at hr
      obtain ⟨b, off, x, rfl, hl, hc⟩ := h.at (i := 0) (by omega)
      simp only [Nat.add_zero] at hc
      have hx : l.getD 0 0 = x := by simp [List.getD, hl]
      have hm0 : (0 : Int) < (m : Int) := by omega
      have hm00 : 0 < m := by omega
      have hLb := lenK_lt l 4
      rw [show lenK l 4 = lenL l from rfl] at hLb ⊢
      rw [hx] at hr
      obtain ⟨y, hy⟩ : ∃ y, y = lenL l := ⟨_, rfl⟩
      have HY := Lib.hid hy
      rw [← hy] at hr hLb ⊢
      clear hy
      by_cases c2 : x ≠ 209 ∨ 65536 < y
      · rw [if_pos c2] at hr
        obtain ⟨rfl, rfl⟩ := Prod.mk.inj hr
        clear hr hl
        by_cases c3 : x = 209
        · subst c3
          have hq : 65536 < y := by simpa using c2
          have hqd : decide ((65536 : Int) < (y : Int)) = true := by simp; omega
          clear c2 h hq hLb
          rw [show (((209 : UInt8).toNat : Nat) : Int) = 209 from rfl] at hc
          go_wp2
          go_ret3
          exact ⟨⟨_, _, rfl, by omega⟩, Below.refl _ _⟩
        · have h1 := ne209 x c3
          have h2 : ((x.toNat : Int) != 209) = true := by simp [bne, h1]
          clear c2 h hLb
          go_wp2
          go_ret3
          exact ⟨⟨_, _, rfl, by omega⟩, Below.refl _ _⟩
      rw [if_neg c2] at hr
      obtain ⟨rfl, hq⟩ : x = 209 ∧ y ≤ 65536 := by
        by_cases e : x = 209
        · exact ⟨e, by have : ¬ 65536 < y := fun h => c2 (.inr h); omega⟩
        · exact absurd (.inl e) c2
      have hqd : decide ((65536 : Int) < (y : Int)) = false := by simp; omega
      have hqi : y ≤ 281474976710656 := by omega
      have HQ65 := Lib.hid hq
      have HX := Lib.hid hx
      clear c2 hLb hl hx hq
      rw [show (((209 : UInt8).toNat : Nat) : Int) = 209 from rfl] at hc
      by_cases c3 : m ≤ 5
      · rw [if_pos c3] at hr
        obtain ⟨rfl, rfl⟩ := Prod.mk.inj hr
        clear hr h
        go_wp2
        go_ret3
        exact ⟨⟨_, _, rfl, by omega⟩, Below.refl _ _⟩
      rw [if_neg c3] at hr
      have hcy : IntKind.u64.wrap (y : Int) = (y : Int) := by simp [IntKind.wrap, IntKind.bits, IntKind.signed]; omega
      clear h
      have HRR := Lib.hid hr
      clear hr
      go_wp2_with fail
      have b1 : Below w.heap.size w (w.alloc (.cells #[.int .u8 209] 5)) := (Below.refl _ _).alloc (Nat.le_refl _) _
      have o1 := owns_lit w w.heap.size 5 ([209].map b8) 1 rfl (by simp [maxLen]) (Nat.le_refl _) #[.int .u8 209] rfl
      generalize w.alloc (.cells #[.int .u8 209] 5) = w1 at *
      have z1 := b1.size
      with_reducible refine (low4 w1 y (by omega)).mono ?_
      rintro e w2 ⟨a2, c2, rfl, o2, b2⟩
      have z2 := b2.size
      have r2 := R8.of_owns o2 (by omega)
      have O1 := Lib.hid (own_below o1 b2)
      have B2 := Lib.hid (b1.trans (b2.mono z1))
      clear o1 b1 b2 o2 hc
      go_wp2_with (first
        | (at_builtin; refine L_append8 rfl _ _ _ rfl sl22 w.heap.size (.slice (some ⟨w.heap.size, 0, none⟩) 1 1) 1 _ rfl O1.out _ 4 _ _ rfl r2 (by omega) (by simp [maxLen]) (by omega) (fun a3 c3 w3 ho3 hg3 hat3 => ?_)))
      have z3 := hg3.size
      have B3 := Lib.hid (below_app B2.out B2.out.size O1.out hg3)
      have E1 : [209].map b8 ++ (be 4 y).map b8 = ([209] ++ be 4 y).map b8 := by simp
      rw [E1] at ho3
      generalize hL1 : [209] ++ be 4 y = L1 at *
      have HL1 := Lib.hid hL1
      have O3 := Lib.hid ho3
      have r3 := R8.of_owns ho3 (by omega)
      clear ho3 hg3 hat3 E1 hL1 r2 O1 B2
      with_reducible refine (refcrc_crc _ _ _ _ _ r3).mono ?_
      rintro e w' ⟨rfl, rfl⟩
      have hcv1 : IntKind.u64.wrap ((crc L1).toNat : Int) = ((crc L1).toNat : Int) := by have := (crc L1).toNat_lt; simp [IntKind.wrap, IntKind.bits, IntKind.signed]; omega
      generalize hc1 : (crc L1).toNat = k1 at *
      have HC1 := Lib.hid hc1
      have hk1 : k1 < 18446744073709551616 := by rw [← hc1]; have := (crc L1).toNat_lt; omega
      have HK1 := Lib.hid hk1
      clear hc1 hk1 r3
      go_wp2_with fail
      with_reducible refine (low4 w3 k1 HK1.out).mono ?_
      rintro e w4 ⟨a4, c4, rfl, o4, b4⟩
      have z4 := b4.size
      have r4 := R8.of_owns o4 (by omega)
      have O4 := Lib.hid (own_below O3.out b4)
      have B4 := Lib.hid (B3.out.trans (b4.mono B3.out.size))
      clear O3 B3 b4 o4
      go_wp2_with (first
        | (at_builtin; refine L_append8 rfl _ _ _ rfl sl22 w.heap.size (.slice a3 5 c3) 5 _ rfl O4.out _ 4 _ _ rfl r4 (by omega) (by simp [maxLen]) (by omega) (fun a5 c5 w5 ho5 hg5 hat5 => ?_)
           have z5 := hg5.size
           have B5 := Lib.hid (below_app B4.out B4.out.size O4.out hg5)
           have O5 := Lib.hid ho5
           clear ho5 hg5 hat5))
      have hhd : L1 ++ be 4 k1 = headL (lenL l) := by rw [headL, ← HY.out, HL1.out, HC1.out]
      have r5 := R8.of_owns (l := L1 ++ be 4 k1) (by simpa using O5.out) (by omega)
      rw [hhd] at r5
      have hbe := begins_head l HX.out (by rw [hlen.out]; omega)
      have rl5 := HR.out.below B5.out
      have HRL := Lib.hid rl5
      clear hhd r4 O4 B4 HC1 HL1 HK1 hcv1
      with_reducible refine (begins_any w5 _ _ _ _ _ _ _ l r5 rl5 _ hbe).mono ?_
      rintro e w' ⟨rfl, q1, rfl⟩
      clear r5 rl5 hbe O5
      by_cases c4 : rightB (l.drop 5) (crc (l.take 5)) = false
      · have hr := HRR.out
        rw [if_pos c4] at hr
        obtain ⟨rfl, rfl⟩ := Prod.mk.inj hr
        rw [c4]
        clear hr
        have B6 := Lib.hid (below_drewN B5.out q1)
        clear B5
        go_wp2
        go_ret3
        exact ⟨⟨_, _, rfl, by omega⟩, B6.out⟩
      have c4' : rightB (l.drop 5) (crc (l.take 5)) = true := by simpa using c4
      rw [c4']
      have HC4 := Lib.hid c4'
      have hr := HRR.out
      rw [if_neg c4] at hr
      clear c4 c4' HRR
      have hw9 : IntKind.i64.wrap (9 + (y : Int)) = 9 + (y : Int) := by simp [IntKind.wrap, IntKind.bits, IntKind.signed]; omega
      by_cases c5 : m < 9 + y
      · rw [if_pos c5] at hr
        obtain ⟨rfl, rfl⟩ := Prod.mk.inj hr
        clear hr
        have B6 := Lib.hid (below_drewN B5.out q1)
        have c5' : (m : Int) < 9 + (y : Int) := by omega
        clear B5
        go_wp2
        go_ret3
        exact ⟨⟨_, _, rfl, by omega⟩, B6.out⟩
      rw [if_neg c5] at hr
      have c5' : ¬ (m : Int) < 9 + (y : Int) := by omega
      have hs9 := fun wx => slice_mid (P := Tryd.prog) sl22 wx (some ⟨b, off, none⟩) m c 9 (9 + y) 9 (9 + (y : Int)) rfl (by omega) (by omega) (by omega)
      simp only [Nat.add_sub_cancel_left] at hs9
      have rm := HRL.out.mid 9 (9 + y) (by omega) (by omega)
      rw [Nat.add_sub_cancel_left] at rm
      have HRR := Lib.hid hr
      clear hr
      go_wp2_with fail
      with_reducible refine (refpack_ok (w5.drewN q1) n hn _ _ _ _ (rm.drewN q1) HQ65.out).mono ?_
      rintro e w6 ⟨a6, m6, c6, rfl, hm6, o6, b6⟩
      have z6 := b6.size
      have hpl : ((l.drop 9).take y).length = y := by simp; have := hlen.out; omega
      have hm6' : m6 = y + 13 := by rw [hm6, packL_len, hpl]
      clear hm6
      subst hm6'
      have r6 := R8.of_owns o6 (by have := HQ65.out; omega)
      have rl6 := R8.below (HRL.out.drewN q1) b6
      have B6 := Lib.hid ((below_drewN B5.out q1).trans (b6.mono (below_drewN B5.out q1).size))
      have hbw := begins_whole l n HX.out HC4.out (by rw [← HY.out, hlen.out]; omega)
      rw [← HY.out] at hbw
      clear o6 b6 B5 rm hs9
      go_wp2_with fail
      with_reducible refine (begins_any w6 _ _ _ _ _ _ _ l r6 rl6 _ hbw).mono ?_
      rintro e w' ⟨rfl, q2, rfl⟩
      clear r6 rl6 hbw
      have B7 := Lib.hid (below_drewN B6.out q2)
      clear B6
      have hr := HRR.out
      by_cases c6 : rightB (l.drop (9 + y)) (crc (be 8 n ++ (l.drop 9).take y)) = false
      · rw [if_pos c6] at hr
        obtain ⟨rfl, rfl⟩ := Prod.mk.inj hr
        rw [c6]
        clear hr
        go_wp2
        go_ret3
        exact ⟨⟨_, _, rfl, by omega⟩, B7.out⟩
      have c6' : rightB (l.drop (9 + y)) (crc (be 8 n ++ (l.drop 9).take y)) = true := by simpa using c6
      rw [c6']
      rw [if_neg c6] at hr
      clear c6 c6' HRR
      by_cases c7 : m < y + 13
      · rw [if_pos c7] at hr
        obtain ⟨rfl, rfl⟩ := Prod.mk.inj hr
        clear hr
        have c7' : (m : Int) < (y : Int) + 13 := by omega
        go_wp2
        go_ret3
        exact ⟨⟨_, _, rfl, by omega⟩, B7.out⟩
      rw [if_neg c7] at hr
      obtain ⟨rfl, rfl⟩ := Prod.mk.inj hr
      have c7' : ¬ (m : Int) < (y : Int) + 13 := by omega
      have hs9 := fun wx => slice_mid (P := Tryd.prog) sl22 wx (some ⟨b, off, none⟩) m c 9 (9 + y) 9 (9 + (y : Int)) rfl (by omega) (by omega) (by omega)
      simp only [Nat.add_sub_cancel_left] at hs9
      clear hr
      go_wp2
      go_ret3
      exact ⟨⟨_, _, rfl, fun _ => ⟨rfl, rfl⟩⟩, B7.out⟩
end Go.Proofs.YtdepdediggokgaaDoor
