import Derived.Test.YtdepdediggokgaaDoorB3
namespace Go.Proofs.YtdepdediggokgaaDoor
open Go.RowKit
set_option linter.unusedVariables false
set_option maxHeartbeats 1000000 in
theorem low_any (w : World) (n k : Nat) (hn : n < 18446744073709551616) (hk : k ≤ 8) :
    Calls Tryd.prog 30 #[.int .u64 n, .int .i64 k] w fun e w' => ∃ a c, e = .returned (.slice a k c) ∧ w'.ownsRow w.heap.size 5 1 (.slice a k c) k ((be k n).map b8) ∧ Below w.heap.size w w' := by
  go_enter Tryd.func30, Tryd.ntmps30
  have hk1 : IntKind.i64.wrap ((k : Int) - 1) = (k : Int) - 1 := by simp [IntKind.wrap, IntKind.bits, IntKind.signed]; omega
  go_wp2
  go_loopw [5, 6] (fun v x wr => ∃ (j : Nat) (a : Option Addr) (c : Nat), j ≤ k ∧ x = .int .i64 ((k : Int) - 1 - (j : Int)) ∧ v = .slice a j c ∧ wr.ownsRow w.heap.size 5 1 (.slice a j c) j (((be k n).take j).map b8) ∧ Below w.heap.size w wr) (fun _ x _ => (intOf x + 1).toNat)
  case atStart => exact ⟨0, none, 0, by omega, by simp, rfl, by simpa using World.ownsRow_nil _ _ _ _, Below.refl _ _⟩
  case round =>
    obtain ⟨j, a, c, hj, rfl, rfl, ho, hb⟩ := hrel
    by_cases hlt : j < k
    · have hsz := hb.size
      obtain ⟨q, hq⟩ : ∃ q : Nat, q = k - 1 - j := ⟨_, rfl⟩
      have hq1 : ((k : Int) - 1 - (j : Int)) = (q : Int) := by omega
      have HQ := Lib.hid hq
      have hq8 : q < 8 := by omega
      have hbt := be_take k n j hlt
      rw [← hq] at hbt
      have HBT := Lib.hid hbt
      rw [hq1]
      clear hq hq1 hbt
      have hw1 : IntKind.i64.wrap (8 * (q : Int)) = 8 * (q : Int) := by simp [IntKind.wrap, IntKind.bits, IntKind.signed]; omega
      have hw2 : IntKind.u64.wrap (8 * (q : Int)) = 8 * (q : Int) := by simp [IntKind.wrap, IntKind.bits, IntKind.signed]; omega
      have hp0 : (0 : Int) ≤ 8 * (q : Int) := by omega
      have hp1 : 8 * (q : Int) ≤ 64 := by omega
      have hp2 : (8 * (q : Int)).toNat = 8 * q := by omega
      have hwb := wrap_byte n (8 * q)
      generalize hcc : UInt8.ofNat (n / 2 ^ (8 * q)) = b at *
      have HCC := Lib.hid hcc; clear hcc
      have HO := Lib.hid ho
      have HB := Lib.hid hb
      clear ho hb
      go_wp2_with (first
        | (at_builtin; refine L_append8 rfl _ _ _ rfl sl22 w.heap.size (.slice a j c) j _ rfl (HO.out.alloc _) (some ⟨wr.heap.size, 0, none⟩) 1 1 [b] rfl (R8.lit _ 5 _ [b] 1 rfl (by omega) _ rfl) (by omega) (by simp [maxLen]; omega) (by simp; omega) (fun a2 c2 w2 ho2 hg2 hat2 => ?_)))
      refine ⟨⟨j + 1, a2, c2, by omega, ?_, rfl, ?_, (HB.out.alloc (by omega) _).grown hg2 (by simp; omega) (fun k hk => (HO.out.lt k hk).1)⟩, by simp [intOf]⟩
      · rw [show (q : Int) - 1 = (k : Int) - 1 - ((j + 1 : Nat) : Int) by have := HQ.out; omega]
      · rw [HBT.out]; simpa using ho2
    · obtain rfl : j = k := by omega
      have HO := Lib.hid ho
      have HB := Lib.hid hb
      have hneg : ¬ (0 : Int) ≤ (j : Int) - 1 - (j : Int) := by omega
      clear ho hb
      go_wp2
      go_ret
      exact ⟨a, c, rfl, by have := HO.out; rwa [List.take_of_length_le (by rw [be_len]; omega)] at this, HB.out⟩

theorem low4 (w : World) (n : Nat) (hn : n < 18446744073709551616) :
    Calls Tryd.prog 30 #[.int .u64 n, .int .i64 4] w fun e w' => ∃ a c, e = .returned (.slice a 4 c) ∧ w'.ownsRow w.heap.size 5 1 (.slice a 4 c) 4 ((be 4 n).map b8) ∧ Below w.heap.size w w' := by
  have := low_any w n 4 hn (by omega)
  rwa [show ((4 : Nat) : Int) = 4 from rfl] at this
theorem low8 (w : World) (n : Nat) (hn : n < 18446744073709551616) :
    Calls Tryd.prog 30 #[.int .u64 n, .int .i64 8] w fun e w' => ∃ a c, e = .returned (.slice a 8 c) ∧ w'.ownsRow w.heap.size 5 1 (.slice a 8 c) 8 ((be 8 n).map b8) ∧ Below w.heap.size w w' := by
  have := low_any w n 8 hn (by omega)
  rwa [show ((8 : Nat) : Int) = 8 from rfl] at this
/-- A word as the reference tells it. -/
theorem refcrc_crc (w : World) (a : Option Addr) (len cap : Nat) (l : List UInt8) (h : R8 w a len cap l) :
    Calls Tryd.prog 12 #[.slice a len cap] w fun e w' => e = .returned (.int .u32 ((crc l).toNat : Int)) ∧ w = w' := by
  have := refcrc_any w a len cap l h
  rwa [thr_ref] at this

theorem gwk {w1 w2 : World} (hb : Below w1.heap.size w1 w2) : w1.grownBy w2 none := ⟨hb.os, hb.tape, hb.output, hb.size, fun k hk _ => hb.block k hk⟩
theorem own_below {w w' : World} {B e s : Nat} {v : Value} {n : Nat} {xs : List Value} (h : w.ownsRow B e s v n xs) (hb : Below w.heap.size w w') : w'.ownsRow B e s v n xs := h.kept (gwk hb) (by cases v.ownBlock <;> simp)
theorem below_app {w0 w2 w3 : World} {B e s : Nat} {v : Value} {n : Nat} {xs : List Value} (hb : Below B w0 w2) (h0 : B ≤ w2.heap.size) (ho : w2.ownsRow B e s v n xs) (hg : w2.grownBy w3 v.ownBlock) : Below B w0 w3 :=
  hb.grown hg h0 (fun k hk => (ho.lt k hk).1)
theorem own_app {w2 w3 : World} {B B' e s n n' : Nat} {v v' : Value} {xs xs' : List Value} (h : w2.ownsRow B e s v n xs) (ho : w2.ownsRow B' e s v' n' xs') (hlt : ∀ k, v.ownBlock = some k → k < B') (hg : w2.grownBy w3 v'.ownBlock) : w3.ownsRow B e s v n xs :=
  h.kept hg (by
    cases hv : v.ownBlock with
    | none => exact .inl rfl
    | some k =>
      right
      intro e
      have h1 := hlt k hv
      have h2 := (ho.lt k e.symm).1
      omega)
theorem refpack_arg (w : World) (n : Int) (hn : n < 0 ∨ 1099511627776 ≤ n) (a : Option Addr) (m c : Nat) :
    Calls Tryd.prog 15 #[.int .i64 n, .slice a m c] w fun e w' => e = .returned (.tuple #[.slice none 0 0, .int .i64 1]) ∧ w = w' := by
  rcases hn with h | h
  · go_enter Tryd.func15, Tryd.ntmps15
    go_wp2
    go_ret2
    exact ⟨rfl, rfl⟩
  · have h0 : ¬ n < 0 := by omega
    have h1 : 1099511627775 < n := by omega
    go_enter Tryd.func15, Tryd.ntmps15
    go_wp2
    go_ret2
    exact ⟨rfl, rfl⟩
theorem refpack_long (w : World) (n : Int) (h0 : 0 ≤ n) (h1 : n < 1099511627776) (a : Option Addr) (m c : Nat) (hm : 65536 < m) (hm2 : m ≤ 281474976710656) :
    Calls Tryd.prog 15 #[.int .i64 n, .slice a m c] w fun e w' => e = .returned (.tuple #[.slice none 0 0, .int .i64 6]) ∧ w = w' := by
  have h0 : ¬ n < 0 := by omega
  have h1 : ¬ 1099511627775 < n := by omega
  go_enter Tryd.func15, Tryd.ntmps15
  go_wp2
  go_ret2
  exact ⟨rfl, rfl⟩

set_option maxHeartbeats 1000000 in
theorem refpack_ok (w : World) (n : Nat) (hn : n < 1099511627776) (a : Option Addr) (m c : Nat) (p : List UInt8) (h : R8 w a m c p) (hm : m ≤ 65536) :
    Calls Tryd.prog 15 #[.int .i64 (n : Int), .slice a m c] w fun e w' => ∃ a' m' c', e = .returned (.tuple #[.slice a' m' c', .int .i64 0]) ∧ m' = (packL n p).length ∧
      w'.ownsRow w.heap.size 5 1 (.slice a' m' c') m' ((packL n p).map b8) ∧ Below w.heap.size w w' := by
  have hlen := Lib.hid h.1
  have hcv : IntKind.u64.wrap (m : Int) = (m : Int) := by simp [IntKind.wrap, IntKind.bits, IntKind.signed]; omega
  have hcn : IntKind.u64.wrap (n : Int) = (n : Int) := by simp [IntKind.wrap, IntKind.bits, IntKind.signed]; omega
  have hgt0 : decide ((n : Int) > 1099511627775) = false := by simp; omega
  have hng : decide ((n : Int) < 0) = false := by simp
  have hgt : decide ((m : Int) > 65536) = false := by simp; omega
  go_enter Tryd.func15, Tryd.ntmps15
  go_wp2_with fail
  have b1 : Below w.heap.size w (w.alloc (.cells #[.int .u8 209] 5)) := (Below.refl _ _).alloc (Nat.le_refl _) _
  have o1 := owns_lit w w.heap.size 5 ([209].map b8) 1 rfl (by simp [maxLen]) (Nat.le_refl _) #[.int .u8 209] rfl
  generalize w.alloc (.cells #[.int .u8 209] 5) = w1 at *
  have z1 := b1.size
  with_reducible refine (low4 w1 m (by omega)).mono ?_
  rintro e w2 ⟨a2, c2, rfl, o2, b2⟩
  have z2 := b2.size
  have r2 := R8.of_owns o2 (by omega)
  have O1 := Lib.hid (own_below o1 b2)
  have B2 := Lib.hid (b1.trans (b2.mono z1))
  clear o1 b1 b2 o2
  go_wp2_with (first
    | (at_builtin; refine L_append8 rfl _ _ _ rfl sl22 w.heap.size (.slice (some ⟨w.heap.size, 0, none⟩) 1 1) 1 _ rfl O1.out _ 4 _ _ rfl r2 (by omega) (by simp [maxLen]) (by omega) (fun a3 c3 w3 ho3 hg3 hat3 => ?_)))
  have z3 := hg3.size
  have B3 := Lib.hid (below_app B2.out B2.out.size O1.out hg3)
  have E1 : [209].map b8 ++ (be 4 m).map b8 = ([209] ++ be 4 m).map b8 := by simp
  rw [E1] at ho3
  generalize hL1 : [209] ++ be 4 m = L1 at *
  have HL1 := Lib.hid hL1
  have O3 := Lib.hid ho3
  have r3 := R8.of_owns ho3 (by omega)
  clear ho3 hg3 hat3 E1 hL1 r2 O1 B2
  with_reducible refine (refcrc_crc _ _ _ _ _ r3).mono ?_
  rintro e w' ⟨rfl, rfl⟩
  have hcv1 : IntKind.u64.wrap ((crc L1).toNat : Int) = ((crc L1).toNat : Int) := by have := (crc L1).toNat_lt; simp [IntKind.wrap, IntKind.bits, IntKind.signed]; omega
  generalize hc1 : (crc L1).toNat = k1 at *
  have HC1 := Lib.hid hc1
  have hk1 : k1 < 18446744073709551616 := by rw [← hc1]; have := (crc L1).toNat_lt; omega
  have HK1 := Lib.hid hk1
  clear hc1 hk1 r3
  go_wp2_with fail
  with_reducible refine (low4 w3 k1 HK1.out).mono ?_
  rintro e w4 ⟨a4, c4, rfl, o4, b4⟩
  have z4 := b4.size
  have r4 := R8.of_owns o4 (by omega)
  have O4 := Lib.hid (own_below O3.out b4)
  have B4 := Lib.hid (B3.out.trans (b4.mono B3.out.size))
  clear O3 B3 b4 o4
  go_wp2_with (first
    | (at_builtin; refine L_append8 rfl _ _ _ rfl sl22 w.heap.size (.slice a3 5 c3) 5 _ rfl O4.out _ 4 _ _ rfl r4 (by omega) (by simp [maxLen]) (by omega) (fun a5 c5 w5 ho5 hg5 hat5 => ?_)
       have z5 := hg5.size
       have B5 := Lib.hid (below_app B4.out B4.out.size O4.out hg5)
       have O5 := Lib.hid ho5
       clear ho5 hg5 hat5)
    | (at_builtin; refine L_append8 rfl _ _ _ rfl sl22 w.heap.size (.slice a5 9 c5) 9 _ rfl O5.out _ m _ _ rfl (h.below B5.out) (by omega) (by simp [maxLen]; omega) (by omega) (fun a6 c6 w6 ho6 hg6 hat6 => ?_)
       have z6 := hg6.size
       have B6 := Lib.hid (below_app B5.out B5.out.size O5.out hg6)
       have O6 := Lib.hid ho6
       clear ho6 hg6 hat6))
  with_reducible refine (low8 w6 n (by omega)).mono ?_
  rintro e w7 ⟨a7, c7, rfl, o7, b7⟩
  have z7 := b7.size
  have O67 := Lib.hid (own_below O6.out b7)
  have B7 := Lib.hid (B6.out.trans (b7.mono B6.out.size))
  have O7 := Lib.hid o7
  have hlt6 := (O6.out.lt)
  have HL6 := Lib.hid (show ∀ k, (Value.slice a6 (9 + m) c6).ownBlock = some k → k < w6.heap.size from fun k hk => (hlt6 k hk).2)
  clear hlt6 o7 b7 O6 B6 r4 O5
  go_wp2_with (first
    | (at_builtin; refine L_append8 rfl _ _ _ rfl sl22 w6.heap.size (.slice a7 8 c7) 8 _ rfl O7.out _ m _ _ rfl (h.below B7.out) (by omega) (by simp [maxLen]; omega) (by omega) (fun a8 c8 w8 ho8 hg8 hat8 => ?_)
       have z8 := hg8.size
       have B8 := Lib.hid (below_app B7.out B7.out.size (owns_mono O7.out (show w.heap.size ≤ w6.heap.size by omega)) hg8)
       have O68 := Lib.hid (own_app O67.out O7.out HL6.out hg8)
       have O8 := Lib.hid ho8
       clear ho8 hg8 hat8))
  have r8 := R8.of_owns (l := be 8 n ++ p) (by simpa using O8.out) (by omega)
  with_reducible refine (refcrc_crc _ _ _ _ _ r8).mono ?_
  rintro e w' ⟨rfl, rfl⟩
  have hcv2 : IntKind.u64.wrap ((crc (be 8 n ++ p)).toNat : Int) = ((crc (be 8 n ++ p)).toNat : Int) := by have := (crc (be 8 n ++ p)).toNat_lt; simp [IntKind.wrap, IntKind.bits, IntKind.signed]; omega
  generalize hc2 : (crc (be 8 n ++ p)).toNat = k2 at *
  have HC2 := Lib.hid hc2
  have hk2 : k2 < 18446744073709551616 := by rw [← hc2]; have := (crc (be 8 n ++ p)).toNat_lt; omega
  have HK2 := Lib.hid hk2
  clear hc2 hk2 r8
  go_wp2_with fail
  with_reducible refine (low4 w8 k2 HK2.out).mono ?_
  rintro e w9 ⟨a9, c9, rfl, o9, b9⟩
  have z9 := b9.size
  have r9 := R8.of_owns o9 (by omega)
  have O69 := Lib.hid (own_below O68.out b9)
  have B9 := Lib.hid (B8.out.trans (b9.mono B8.out.size))
  clear O68 B8 b9 o9 O8 O67 O7
  go_wp2_with (first
    | (at_builtin; refine L_append8 rfl _ _ _ rfl sl22 w.heap.size (.slice a6 (9 + m) c6) (9 + m) _ rfl O69.out _ 4 _ _ rfl r9 (by omega) (by simp [maxLen]; omega) (by omega) (fun a10 c10 w10 ho10 hg10 hat10 => ?_)
       have B10 := Lib.hid (below_app B9.out B9.out.size O69.out hg10)
       have O10 := Lib.hid ho10
       clear ho10 hg10 hat10))
  go_ret2
  have hpk : packL n p = L1 ++ be 4 k1 ++ p ++ be 4 k2 := by rw [packL, hlen.out, HL1.out, HC1.out, HC2.out]
  refine ⟨_, _, _, rfl, ?_, ?_, B10.out⟩
  · rw [hpk, ← HL1.out]; simp [be_len, hlen.out]; omega
  · have := O10.out
    rw [hpk]; simpa using this
end Go.Proofs.YtdepdediggokgaaDoor
