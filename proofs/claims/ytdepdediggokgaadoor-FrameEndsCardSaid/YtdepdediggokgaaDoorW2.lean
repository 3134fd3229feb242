import Derived.Test.YtdepdediggokgaaDoorW1
import Derived.Test.YtdepdediggokgaaDoorX4
namespace Go.Proofs.YtdepdediggokgaaDoor
open Go.RowKit
set_option linter.unusedVariables false
def crc (l : List UInt8) : UInt32 := nt (thr 4294967295 l)
theorem thr_append (r : UInt32) (a b : List UInt8) : thr (thr r a) b = thr r (a ++ b) := by simp [thr]
theorem Wr.len {w : World} {B gw : Nat} {l : List UInt8} (h : Wr w B gw l) : gw < w.heap.size := (Array.getElem?_eq_some_iff.1 h.2.choose_spec.1).1
theorem Wr.below {w w' : World} {B gw : Nat} {l : List UInt8} (h : Wr w B gw l) (hb : Below w.heap.size w w') : Wr w' B gw l := by
  have hl := h.len
  obtain ⟨hg, v, hh, ho⟩ := h
  exact ⟨hg, v, (hb.block gw hl).trans hh, ho.kept (row := none) ⟨hb.os, hb.tape, hb.output, hb.size, fun k hk _ => hb.block k hk⟩ (by cases v.ownBlock <;> simp)⟩
theorem owns_mono {w : World} {B B' e size : Nat} {v : Value} {n : Nat} {xs : List Value} (h : w.ownsRow B e size v n xs) (hb : B' ≤ B) : w.ownsRow B' e size v n xs := by
  refine ⟨h.1, ?_⟩
  rcases h.2 with h | ⟨g, cap, cur, hv, hg, r⟩
  · exact .inl h
  · exact .inr ⟨g, cap, cur, hv, Nat.le_trans hb hg, r⟩
theorem HalfTab.below {w w' : World} {B : Nat} (h : HalfTab w) (hb : Below B w w') (h0 : 0 < B) : HalfTab w' := fun i hi => by
  rw [hb.cell (by show 0 < B; exact h0)]; exact h i hi

theorem R8.of_owns' {w : World} {base e : Nat} {a : Option Addr} {n c : Nat} {l : List UInt8} (h : w.ownsRow base e 1 (.slice a n c) n (l.map b8)) (hn : l.length ≤ 281474976710656) : R8 w a n c l :=
  R8.of_owns h (by have := h.1; simp at this; omega)
set_option maxHeartbeats 400000 in
theorem all_any (w : World) (B gw : Nat) (l : List UInt8) (h : Wr w B gw l) (hl : l.length ≤ 1000000000000) :
    Calls Tryd.prog 34 #[.pointer (some ⟨gw, 0, none⟩)] w fun e w' => ∃ a n c, e = .returned (.slice a n c) ∧ w'.ownsRow w.heap.size 5 1 (.slice a n c) n (l.map b8) ∧ Below w.heap.size w w' := by
  obtain ⟨hg, v, hh, ho⟩ := h
  obtain ⟨a, c, rfl, -⟩ := owns_shape ho
  have hc := cell_of_row w gw 0 _ _ _ hh
  have hr := R8.of_owns ho (by omega)
  simp only [List.getElem?_toArray, List.getElem?_cons_zero] at hc
  clear hh
  go_enter Tryd.func34, Tryd.ntmps34
  go_wp2_with (first
    | (at_builtin; refine L_append8 rfl _ _ _ rfl sl22 w.heap.size (.slice none 0 0) 0 [] rfl (World.ownsRow_nil _ _ _ _) _ _ _ l rfl hr (by omega) (by simp [maxLen]; omega) (Nat.le_refl _) (fun a3 c3 w3 ho3 hg3 _ => ?_)))
  go_ret
  simp only [Nat.zero_add, List.nil_append] at ho3 ⊢
  exact ⟨_, _, _, rfl, ho3, (Below.refl _ _).grown hg3 (Nat.le_refl _) (by intro k hk; cases hk)⟩

set_option maxHeartbeats 400000 in
theorem raw_any (w : World) (B gw gp : Nat) (l p : List UInt8) (a : Option Addr) (n c : Nat) (h : Wr w B gw l) (hl : l.length ≤ 1000000000000) (hp : w.cell? ⟨gp, 0, none⟩ = some (.slice a n c)) (hr : R8 w a n c p) (hn : n ≤ 1000000000000)
    (hB : B ≤ w.heap.size) :
    Calls Tryd.prog 35 #[.pointer (some ⟨gw, 0, none⟩), .slice (some ⟨gp, 0, none⟩) 1 1] w fun e w' => e = .returned (.tuple #[]) ∧ Wr w' B gw (l ++ p) ∧ Below B w w' := by
  go_enter Tryd.func35, Tryd.ntmps35
  go_wp2
  go_loopw [5, 8] (fun _ i wr => (i = .int .i64 0 ∧ wr = w) ∨ (i = .int .i64 1 ∧ Wr wr B gw (l ++ p) ∧ Below B w wr)) (fun _ i _ => (1 - intOf i).toNat)
  case atStart => exact .inl ⟨rfl, rfl⟩
  case round =>
    rcases hrel with ⟨rfl, rfl⟩ | ⟨rfl, hw, hb⟩
    · obtain ⟨hg, v, hh, ho⟩ := h
      have hc := cell_of_row wr gw 0 _ _ _ hh
      have hf := frozen_of_row wr gw 0 _ _ hh
      have hlt2 := block_lt_of_cell hc
      simp only [List.getElem?_toArray, List.getElem?_cons_zero] at hc
      have hne := own_ne ho hh (by decide)
      have Hh := Lib.hid hh; clear hh
      go_wp2_with (first
        | (at_builtin
           refine L_append8 rfl _ _ _ rfl sl22 B v _ _ (by rfl) ho _ _ _ p (by rfl) hr (by omega) (by simp [maxLen]; omega) hB (fun a2 c2 w2 ho2 hg2 _ => ?_)
           have hc2 := (hg2.cell_far ⟨gw, 0, none⟩ (by simpa using hlt2) hne).trans hc
           have hf2 := (hg2.frozen_far ⟨gw, 0, none⟩ (by simpa using hlt2) hne).trans hf))
      have hh2 : w2.heap[gw]? = some (.cells #[v] 81 (0, 0)) := (hg2.block gw hlt2 hne).trans Hh.out
      have hne2 := own_ne ho2 hh2 (by decide)
      have hh3 := heap_setCell_same w2 gw 0 _ _ (.slice a2 (l.length + n) c2) hh2
      have hgs : w2.grownBy (w2.setCell ⟨gw, 0, none⟩ (.slice a2 (l.length + n) c2)) (some gw) := ⟨rfl, rfl, rfl, by simp, fun k _ hk => heap_setCell_other w2 ⟨gw, 0, none⟩ k _ (fun e => hk (by simp [e]))⟩
      have ho3 := ho2.kept hgs (.inr (fun e => hne2 e.symm))
      have hbl3 : Below B wr (w2.setCell ⟨gw, 0, none⟩ (.slice a2 (l.length + n) c2)) := ((Below.refl _ _).grown hg2 hB (fun k hk => (ho.lt k hk).1)).setCell hg _
      have hlen := hr.1
      go_roundw
      case rel =>
        refine .inr ⟨rfl, ⟨hg, _, hh3, ?_⟩, hbl3⟩
        rw [List.length_append, hlen, List.map_append]
        exact ho3
      case measure => simp [intOf]
    · have Hw := Lib.hid hw; clear hw
      go_wp2
      go_end0
      exact ⟨rfl, Hw.out, hb⟩

theorem put64_nat (w : World) (B gw : Nat) (l : List UInt8) (n : Nat) (hn : n < 18446744073709551616) (h : Wr w B gw l) (hb : l.length ≤ 1000000000000) (hB : B ≤ w.heap.size) :
    Calls Tryd.prog 50 #[.pointer (some ⟨gw, 0, none⟩), .int .u64 (n : Int)] w fun e w' => e = .returned (.tuple #[]) ∧ Wr w' B gw (l ++ be 8 n) ∧ Below B w w' := by
  have := put64_any w B gw l (UInt64.ofNat n) h hb hB
  rwa [show (UInt64.ofNat n).toNat = n by simp; omega] at this
theorem put32_nat (w : World) (B gw : Nat) (l : List UInt8) (n : Nat) (hn : n < 4294967296) (h : Wr w B gw l) (hb : l.length ≤ 1000000000000) (hB : B ≤ w.heap.size) :
    Calls Tryd.prog 33 #[.pointer (some ⟨gw, 0, none⟩), .int .u32 (n : Int)] w fun e w' => e = .returned (.tuple #[]) ∧ Wr w' B gw (l ++ be 4 n) ∧ Below B w w' := by
  have := put32_any w B gw l (UInt32.ofNat n) h hb hB
  rwa [show (UInt32.ofNat n).toNat = n by simp; omega] at this
theorem put8_209 (w : World) (B gw : Nat) (l : List UInt8) (h : Wr w B gw l) (hb : l.length ≤ 1000000000000) (hB : B ≤ w.heap.size) :
    Calls Tryd.prog 32 #[.pointer (some ⟨gw, 0, none⟩), .int .u8 209] w fun e w' => e = .returned (.tuple #[]) ∧ Wr w' B gw (l ++ [209]) ∧ Below B w w' :=
  put8_any w B gw l 209 h hb hB

set_option maxHeartbeats 400000 in
theorem eight_any (w : World) (n : Nat) (hn : n < 9223372036854775808) :
    Calls Tryd.prog 45 #[.int .i64 (n : Int)] w fun e w' => ∃ a m c, e = .returned (.slice a m c) ∧ R8 w' a m c (be 8 n) ∧ Below w.heap.size w w' := by
  have hcv : IntKind.u64.wrap (n : Int) = (n : Int) := by simp [IntKind.wrap, IntKind.bits, IntKind.signed]; omega
  go_enter Tryd.func45, Tryd.ntmps45
  go_wp2_with (first
    | (go_at_call 31; refine (new_any _).mono ?_; rintro e w1 ⟨gw, rfl, hw1, hb1⟩)
    | (go_at_call 50; refine (put64_nat _ _ _ _ n (by omega) hw1 (by simp) hb1.size).mono ?_; rintro e w2 ⟨rfl, hw2, hb2⟩)
    | (go_at_call 34; refine (all_any _ _ _ _ hw2 (by simp [be_len])).mono ?_; rintro e w3 ⟨a, m, c, rfl, ho3, hb3⟩))
  rw [List.nil_append] at ho3
  go_ret
  exact ⟨_, _, _, rfl, R8.of_owns' ho3 (by rw [be_len]; omega), (hb1.trans hb2).trans (hb3.mono (by have := hb1.size; have := hb2.size; omega))⟩

set_option maxHeartbeats 400000 in
theorem outer_any (w : World) (n : Nat) (hn : n < 9223372036854775808) (a : Option Addr) (m c : Nat) (p : List UInt8) (h : R8 w a m c p) (ht : HalfTab w) (h0 : 0 < w.heap.size) :
    Calls Tryd.prog 36 #[.int .i64 (n : Int), .slice a m c] w fun e w' => e = .returned (.int .u32 ((crc (be 8 n ++ p)).toNat : Int)) ∧ Below w.heap.size w w' := by
  go_enter Tryd.func36, Tryd.ntmps36
  go_wp2_with (go_at_call 45; refine (eight_any _ n hn).mono ?_; rintro e w1 ⟨a1, m1, c1, rfl, hr1, hb1⟩)
  have ht1 := ht.below hb1 h0
  have hr := h.below hb1
  refine (through_any _ 4294967295 _ _ _ _ hr1 ht1).mono ?_
  rintro e w' ⟨rfl, rfl⟩
  go_wp2_with fail
  refine (through_any _ _ _ _ _ _ hr ht1).mono ?_
  rintro e w' ⟨rfl, rfl⟩
  rw [thr_append]
  go_wp2
  go_ret
  exact ⟨rfl, hb1⟩
def packL (n : Nat) (p : List UInt8) : List UInt8 :=
  [209] ++ be 4 p.length ++ be 4 (crc ([209] ++ be 4 p.length)).toNat ++ p ++ be 4 (crc (be 8 n ++ p)).toNat

set_option maxHeartbeats 200000 in
theorem pack_ok (w : World) (n : Nat) (hn : n < 1099511627776) (a : Option Addr) (m c : Nat) (p : List UInt8) (h : R8 w a m c p) (hm : m ≤ 65536) (ht : HalfTab w) (h0 : 0 < w.heap.size) :
    Calls Tryd.prog 16 #[.int .i64 (n : Int), .slice a m c] w fun e w' => ∃ a' m' c', e = .returned (.tuple #[.slice a' m' c', .int .i64 0]) ∧ m' = (packL n p).length ∧
      w'.ownsRow w.heap.size 5 1 (.slice a' m' c') m' ((packL n p).map b8) ∧ Below w.heap.size w w' := by
  obtain ⟨B, hB⟩ : ∃ B, B = w.heap.size := ⟨_, rfl⟩
  have HB := Lib.hid hB
  have hB1 : B ≤ w.heap.size := by omega
  have hB2 : w.heap.size ≤ B := by omega
  have hlen := Lib.hid h.1
  have hcv : IntKind.u32.wrap (m : Int) = (m : Int) := by simp [IntKind.wrap, IntKind.bits, IntKind.signed]; omega
  have hlt : (n : Int) < 1099511627776 := by omega
  have hge : decide ((n : Int) ≥ 1099511627776) = false := by simp; omega
  have hng : decide ((n : Int) < 0) = false := by simp
  have hgt : decide ((m : Int) > 65536) = false := by simp; omega
  clear hB
  go_enter Tryd.func16, Tryd.ntmps16
  go_wp2_with (go_at_call 31; refine (new_any _).mono ?_; rintro e w1 ⟨gw, rfl, hw1, hb1⟩)
  rw [← HB.out] at hw1 hb1
  have z1 := hb1.size
  with_reducible refine (put8_209 _ _ _ _ hw1 (by simp) (by omega)).mono ?_
  rintro e w2 ⟨rfl, hw2, hb2⟩
  have z2 := hb2.size
  go_wp2_with fail
  with_reducible refine (put32_nat _ _ _ _ m (by omega) hw2 (by simp) (by omega)).mono ?_
  rintro e w3 ⟨rfl, hw3, hb3⟩
  have z3 := hb3.size
  have b3 := (hb1.trans hb2).trans hb3
  have l3 : ([] ++ [209] ++ be 4 m).length = 5 := by simp [be_len]
  generalize hL3 : [] ++ [209] ++ be 4 m = L3 at *
  have HL3 := Lib.hid hL3; have l3' := Lib.hid l3; clear hL3 l3
  go_wp2_with fail
  with_reducible refine (all_any _ _ _ _ hw3 (by rw [l3'.out]; omega)).mono ?_
  rintro e w4 ⟨a4, m4, c4, rfl, ho4, hb4⟩
  have z4 := hb4.size
  have b4 := b3.trans (hb4.mono (by omega))
  go_wp2_with fail
  with_reducible refine (crc_any _ _ _ _ _ (R8.of_owns' ho4 (by rw [l3'.out]; omega)) (ht.below b4 (by omega))).mono ?_
  rintro e w' ⟨rfl, rfl⟩
  have hw4 := hw3.below hb4
  rw [show nt (thr 4294967295 L3) = crc L3 from rfl]
  go_wp2_with fail
  with_reducible refine (put32_any _ _ _ _ (crc L3) hw4 (by rw [l3'.out]; omega) (by omega)).mono ?_
  rintro e w5 ⟨rfl, hw5, hb5⟩
  have z5 := hb5.size
  have b5 := b4.trans hb5
  have hg4 := hw5.len
  have hr5 := h.belowB hB2 b5
  have l5 : (L3 ++ be 4 (crc L3).toNat).length = 9 := by simp [be_len, l3'.out]
  generalize hL5 : L3 ++ be 4 (crc L3).toNat = L5 at *
  have HL5 := Lib.hid hL5; have l5' := Lib.hid l5; clear hL5 l5
  go_wp2_with fail
  have b6 : Below w5.heap.size w5 (w5.alloc (.cells #[.slice a m c] 22)) := (Below.refl _ _).alloc (Nat.le_refl _) _
  with_reducible refine (raw_any _ B gw w5.heap.size L5 p _ _ _ (hw5.below b6) (by rw [l5'.out]; omega) (by rw [World.cell?_alloc_at (hn := rfl)]; simp) (hr5.below b6) (by omega) (by simp; omega)).mono ?_
  rintro e w7 ⟨rfl, hw7, hb7⟩
  have z7 := hb7.size
  simp only [World.size_alloc] at z7
  have b7 := (b5.trans (b6.mono (by omega))).trans hb7
  have l7 : (L5 ++ p).length ≤ 70000 := by simp [l5'.out, hlen.out]; omega
  generalize hL7 : L5 ++ p = L7 at *
  have HL7 := Lib.hid hL7; have l7' := Lib.hid l7; clear hL7 l7
  go_wp2_with fail
  with_reducible refine (outer_any _ n (by omega) _ _ _ _ (h.belowB hB2 b7) (ht.below b7 (by omega)) (by omega)).mono ?_
  rintro e w8 ⟨rfl, hb8⟩
  have z8 := hb8.size
  have hw8 := hw7.below hb8
  have b8' := b7.trans (hb8.mono (by omega))
  go_wp2_with fail
  with_reducible refine (put32_any _ _ _ _ _ hw8 (by have := l7'.out; omega) (by omega)).mono ?_
  rintro e w9 ⟨rfl, hw9, hb9⟩
  have z9 := hb9.size
  have b9 := b8'.trans hb9
  have l9 : (L7 ++ be 4 (crc (be 8 n ++ p)).toNat) = packL n p := by
    rw [← HL7.out, ← HL5.out, ← HL3.out, packL, hlen.out]; simp
  have l9' : (packL n p).length ≤ 100000 := by rw [← l9]; simp [be_len]; have := l7'.out; omega
  rw [l9] at hw9
  have l9 := Lib.hid l9'
  go_wp2_with fail
  with_reducible refine (all_any _ _ _ _ hw9 (by have := l9.out; omega)).mono ?_
  rintro e w10 ⟨a10, m10, c10, rfl, ho10, hb10⟩
  have l10 := Lib.hid ho10.1
  go_wp2
  go_ret2
  rw [← HB.out]
  exact ⟨_, _, _, rfl, by have := l10.out; simp at this; omega, owns_mono ho10 (by omega), b9.trans (hb10.mono (by omega))⟩

theorem pack_arg (w : World) (n : Int) (hn : n < 0 ∨ 1099511627776 ≤ n) (a : Option Addr) (m c : Nat) :
    Calls Tryd.prog 16 #[.int .i64 n, .slice a m c] w fun e w' => e = .returned (.tuple #[.slice none 0 0, .int .i64 1]) ∧ w = w' := by
  rcases hn with h | h
  · go_enter Tryd.func16, Tryd.ntmps16
    go_wp2
    go_ret2
    exact ⟨rfl, rfl⟩
  · have h0 : ¬ n < 0 := by omega
    go_enter Tryd.func16, Tryd.ntmps16
    go_wp2
    go_ret2
    exact ⟨rfl, rfl⟩
theorem pack_long (w : World) (n : Int) (h0 : 0 ≤ n) (h1 : n < 1099511627776) (a : Option Addr) (m c : Nat) (hm : 65536 < m) (hm2 : m ≤ 281474976710656) :
    Calls Tryd.prog 16 #[.int .i64 n, .slice a m c] w fun e w' => e = .returned (.tuple #[.slice none 0 0, .int .i64 6]) ∧ w = w' := by
  have h0 : ¬ n < 0 := by omega
  have h1 : ¬ 1099511627776 ≤ n := by omega
  go_enter Tryd.func16, Tryd.ntmps16
  go_wp2
  go_ret2
  exact ⟨rfl, rfl⟩
end Go.Proofs.YtdepdediggokgaaDoor
