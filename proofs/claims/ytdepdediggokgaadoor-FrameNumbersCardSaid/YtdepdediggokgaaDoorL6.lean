import Derived.Test.YtdepdediggokgaaDoorW9
import Derived.Test.YtdepdediggokgaaDoorP1
import Derived.Deep.DeepCutAuto
namespace Go.Proofs.YtdepdediggokgaaDoor
open Go.RowKit
set_option linter.unusedVariables false
theorem ne_crc {x y : UInt32} (h : x ≠ y) : ((x.toNat : Int) == (y.toNat : Int)) = false := by
  have : x.toNat ≠ y.toNat := fun e => h (UInt32.toNat_inj.1 e)
  simp; omega
set_option maxRecDepth 100000 in
set_option maxHeartbeats 2000000 in
theorem framenumbers_walk (w : World) (a : Int) (a0 : -9223372036854775808 ≤ a) (a1 : a ≤ 9223372036854775807) (b : Int) (b0 : -9223372036854775808 ≤ b) (b1 : b ≤ 9223372036854775807)
    (sa : Option Addr) (m c : Nat) (l : List UInt8) (h : R8 w sa m c l) (hs : m ≤ 140737488351232) (ht0 : HalfTab w ∧ 0 < w.heap.size) :
    Calls Tryd.prog 6 #[.int .i64 a, .int .i64 b, .slice sa m c] w fun e w' => e = .returned (.bool true) ∧ Below w.heap.size w w' := by
  obtain ⟨ht, h0⟩ := ht0
  have hcap := h.2.1
  obtain ⟨p, hp⟩ : ∃ p, p = l.take 65536 := ⟨_, rfl⟩
  obtain ⟨n, hn⟩ : ∃ n, n = min m 65536 := ⟨_, rfl⟩
  have hpn : p.length = n := by rw [hp, hn, List.length_take, h.1]; exact Nat.min_comm _ _
  have hr0 : R8 w sa n c p := by
    by_cases e : m ≤ 65536
    · rw [hn, hp, Nat.min_eq_left e, List.take_of_length_le (by rw [h.1]; exact e)]; exact h
    · rw [hn, hp, Nat.min_eq_right (by omega)]; exact h.take _ (by omega)
  have hn6 : n ≤ 65536 := by omega
  have HN6 := Lib.hid hn6
  have HPN := Lib.hid hpn
  have HN := Lib.hid hn
  clear hp hn hn6 hpn
  go_enter Tryd.func6, Tryd.ntmps6
  go_wp2_with fail
  with_reducible refine (first_any _ ht h0).mono ?_
  rintro e w1 ⟨rfl, hb1⟩
  have z1 := hb1.size
  have ht1 := ht.below hb1 h0
  have hr1 := hr0.below hb1
  have B1 := Lib.hid hb1
  clear hb1 ht
  go_upto_if 17 with (fail)
  go_cut [2] (fun s wx => s = .slice sa n c ∧ wx = w1)
  case first =>
    by_cases e : m ≤ 65536
    · have e1 : decide ((65536 : Int) < (m : Int)) = false := by simp; omega
      have e2 : m = n := by have := HN.out; omega
      clear e
      rw [e1]
      have E2 := Lib.hid e2; clear e2
      go_wp2
      go_meet
      exact ⟨by rw [← E2.out], rfl⟩
    · have e1 : decide ((65536 : Int) < (m : Int)) = true := by simp; omega
      have e2 : 65536 = n := by have := HN.out; omega
      have hcc := Lib.hid (show (65536 : Int) ≤ (c : Int) by omega)
      have hsl : ∀ wx, (Instr.slice 22 (.slice sa m c) none (some (.int .i64 65536)) none).run Tryd.prog wx = .ok (.slice sa n c) wx := by
        intro wx
        obtain ⟨h1, h2⟩ := sl22.elem wx
        rw [run_slice_h wx 22 sa m c h1 .i64 65536 (by omega) hcc.out, h2, ← e2]
        have hid : ∀ x : Option Addr, x.map (fun y => y.add (0 * 1)) = x := by intro x; cases x <;> simp [Addr.add]
        simp only [Result.andThen, sliced, hid, ite_self]
        rfl
      clear e e2
      rw [e1]
      go_wp2
      go_meet
      exact ⟨rfl, rfl⟩
  case rest =>
    obtain ⟨rfl, rfl⟩ := hcut
    clear h hs hcap
    go_wp2_with fail
    with_reducible refine (within_any _ a 1099511627775 (by omega) (by omega) a0 a1).mono ?_
    rintro e w' ⟨A, hA0, hA1, rfl, rfl⟩
    go_wp2_with fail
    with_reducible refine (within_any _ b 1099511627775 (by omega) (by omega) b0 b1).mono ?_
    rintro e w' ⟨C, hC0, hC1, rfl, rfl⟩
    obtain ⟨A, rfl⟩ := Int.eq_ofNat_of_zero_le hA0
    obtain ⟨C, rfl⟩ := Int.eq_ofNat_of_zero_le hC0
    have HA := Lib.hid (show A < 1099511627776 by omega)
    have HC := Lib.hid (show C < 1099511627776 by omega)
    clear hA0 hA1 hC0 hC1
    go_wp2_with fail
    with_reducible refine (pack_ok _ A HA.out _ _ _ _ hr1 HN6.out ht1 (by omega)).mono ?_
    rintro e w2 ⟨a2, m2, c2, rfl, hm2, ho2, hb2⟩
    have z2 := hb2.size
    have hpl := packL_len A p
    rw [HPN.out] at hpl
    have HM2 := Lib.hid (hm2.trans hpl)
    have r2 := R8.of_owns ho2 (by have := HM2.out; have := HN6.out; omega)
    clear hm2 hpl ho2
    have B2 := Lib.hid (B1.out.trans (hb2.mono z1))
    have ht2 := ht1.below hb2 (by omega)
    have hr2 := hr1.below hb2
    clear hb2
    have hw := whole_pack A C p [] (by rw [HPN.out]; exact HN6.out)
    rw [List.append_nil] at hw
    by_cases hcr : crc (be 8 A ++ p) = crc (be 8 C ++ p)
    · rw [if_pos hcr, HPN.out] at hw
      have HW := Lib.hid hw
      have HCR := Lib.hid hcr
      clear hw hcr
      go_wp2_with fail
      with_reducible refine (unpack_ok _ C HC.out _ _ _ _ r2 ht2 (by omega) n HW.out).mono ?_
      rintro e w3 ⟨a3, c3, rfl, ho3, hb3⟩
      have hrec := rec_pack A p []
      rw [List.append_nil, HPN.out] at hrec
      rw [hrec] at ho3
      have r3 := R8.of_owns ho3 (by have := HN6.out; omega)
      have z3 := hb3.size
      have B3 := Lib.hid (B2.out.trans (hb3.mono (by omega)))
      have hr3 := hr2.below hb3
      have ht3 := ht2.below hb3 (by omega)
      clear hb3
      go_wp2_with fail
      with_reducible refine (leight_any _ A (by have := HA.out; omega)).mono ?_
      rintro e w4 ⟨g4, rfl, ho4, hb4⟩
      have z4 := hb4.size
      have B4 := Lib.hid (B3.out.trans (hb4.mono (by omega)))
      have hr4 := hr3.below hb4
      have ht4 := ht3.below hb4 (by omega)
      go_wp2_with (first
        | (at_builtin; refine L_append8 rfl _ _ _ rfl sl22 w3.heap.size (.slice (some ⟨g4, 0, none⟩) 8 8) 8 _ rfl ho4 _ _ _ p rfl hr4 (by have := HN6.out; omega) (by have := HN6.out; simp [maxLen]; omega) (by omega) (fun a5 c5 w5 ho5 hg5 _ => ?_)))
      have hb5 := (Below.refl w3.heap.size w4).grown hg5 (by omega) (fun k hk => (ho4.lt k hk).1)
      have z5 := hb5.size
      rw [← List.map_append] at ho5
      have r5 := R8.of_owns ho5 (by have := HN6.out; omega)
      have B5 := Lib.hid (B4.out.trans (hb5.mono (by omega)))
      have ht5 : HalfTab w5 := ht3.below (hb4.trans hb5) (by omega)
      have hr5 := hr3.below (hb4.trans hb5)
      have h34 := Lib.hid (hb4.trans hb5)
      clear hb4 hb5 hg5 ho5 ho4 ht4 hr4
      with_reducible refine (crc_any _ _ _ _ _ r5 ht5).mono ?_
      rintro e w' ⟨rfl, rfl⟩
      rw [show nt (thr 4294967295 (be 8 A ++ p)) = crc (be 8 A ++ p) from rfl]
      go_wp2_with fail
      with_reducible refine (leight_any _ C (by have := HC.out; omega)).mono ?_
      rintro e w6 ⟨g6, rfl, ho6, hb6⟩
      have z6 := hb6.size
      have B6 := Lib.hid (B5.out.trans (hb6.mono (by omega)))
      have hr6 := hr5.below hb6
      go_wp2_with (first
        | (at_builtin; refine L_append8 rfl _ _ _ rfl sl22 w5.heap.size (.slice (some ⟨g6, 0, none⟩) 8 8) 8 _ rfl ho6 _ _ _ p rfl hr6 (by have := HN6.out; omega) (by have := HN6.out; simp [maxLen]; omega) (by omega) (fun a7 c7 w7 ho7 hg7 _ => ?_)))
      have hb7 := (Below.refl w5.heap.size w6).grown hg7 (by omega) (fun k hk => (ho6.lt k hk).1)
      have z7 := hb7.size
      rw [← List.map_append] at ho7
      have r7 := R8.of_owns ho7 (by have := HN6.out; omega)
      have B7 := Lib.hid (B6.out.trans (hb7.mono (by omega)))
      have ht7 : HalfTab w7 := ht5.below (hb6.trans hb7) (by omega)
      have h57 := Lib.hid (hb6.trans hb7)
      clear hb6 hb7 hg7 ho7 ho6 hr6
      with_reducible refine (crc_any _ _ _ _ _ r7 ht7).mono ?_
      rintro e w' ⟨rfl, rfl⟩
      rw [show nt (thr 4294967295 (be 8 C ++ p)) = crc (be 8 C ++ p) from rfl]
      rw [← HCR.out]
      have r3' := ((r3.below (h34.out)).below h57.out).str
      have rp' := (hr5.below h57.out).str
      clear r3 r5 r7 ht5 ht7 hr5 ht3 hr3 r2 hr2 ht2 hr1 ht1 hr0 h57 h34
      go_wp2
      go_ret
      exact ⟨by simp; have := HM2.out; omega, B7.out⟩
    · rw [if_neg hcr] at hw
      have HW := Lib.hid hw
      have HCR := Lib.hid hcr
      clear hw hcr
      go_wp2_with fail
      with_reducible refine (unpack_no _ C HC.out _ _ _ _ r2 ht2 (by omega) 0 41 (by omega) HW.out).mono ?_
      rintro e w3 ⟨rfl, hb3⟩
      rw [show ((41 : Nat) : Int) = 41 from rfl]
      have z3 := hb3.size
      have B3 := Lib.hid (B2.out.trans (hb3.mono (by omega)))
      have hr3 := hr2.below hb3
      have ht3 := ht2.below hb3 (by omega)
      clear hb3
      go_wp2_with fail
      with_reducible refine (leight_any _ A (by have := HA.out; omega)).mono ?_
      rintro e w4 ⟨g4, rfl, ho4, hb4⟩
      have z4 := hb4.size
      have B4 := Lib.hid (B3.out.trans (hb4.mono (by omega)))
      have hr4 := hr3.below hb4
      have ht4 := ht3.below hb4 (by omega)
      go_wp2_with (first
        | (at_builtin; refine L_append8 rfl _ _ _ rfl sl22 w3.heap.size (.slice (some ⟨g4, 0, none⟩) 8 8) 8 _ rfl ho4 _ _ _ p rfl hr4 (by have := HN6.out; omega) (by have := HN6.out; simp [maxLen]; omega) (by omega) (fun a5 c5 w5 ho5 hg5 _ => ?_)))
      have hb5 := (Below.refl w3.heap.size w4).grown hg5 (by omega) (fun k hk => (ho4.lt k hk).1)
      have z5 := hb5.size
      rw [← List.map_append] at ho5
      have r5 := R8.of_owns ho5 (by have := HN6.out; omega)
      have B5 := Lib.hid (B4.out.trans (hb5.mono (by omega)))
      have ht5 : HalfTab w5 := ht3.below (hb4.trans hb5) (by omega)
      have hr5 := hr3.below (hb4.trans hb5)
      clear hb4 hb5 hg5 ho5 ho4 ht4 hr4
      with_reducible refine (crc_any _ _ _ _ _ r5 ht5).mono ?_
      rintro e w' ⟨rfl, rfl⟩
      rw [show nt (thr 4294967295 (be 8 A ++ p)) = crc (be 8 A ++ p) from rfl]
      go_wp2_with fail
      with_reducible refine (leight_any _ C (by have := HC.out; omega)).mono ?_
      rintro e w6 ⟨g6, rfl, ho6, hb6⟩
      have z6 := hb6.size
      have B6 := Lib.hid (B5.out.trans (hb6.mono (by omega)))
      have hr6 := hr5.below hb6
      go_wp2_with (first
        | (at_builtin; refine L_append8 rfl _ _ _ rfl sl22 w5.heap.size (.slice (some ⟨g6, 0, none⟩) 8 8) 8 _ rfl ho6 _ _ _ p rfl hr6 (by have := HN6.out; omega) (by have := HN6.out; simp [maxLen]; omega) (by omega) (fun a7 c7 w7 ho7 hg7 _ => ?_)))
      have hb7 := (Below.refl w5.heap.size w6).grown hg7 (by omega) (fun k hk => (ho6.lt k hk).1)
      have z7 := hb7.size
      rw [← List.map_append] at ho7
      have r7 := R8.of_owns ho7 (by have := HN6.out; omega)
      have B7 := Lib.hid (B6.out.trans (hb7.mono (by omega)))
      have ht7 : HalfTab w7 := ht5.below (hb6.trans hb7) (by omega)
      have h57 := Lib.hid (hb6.trans hb7)
      clear hb6 hb7 hg7 ho7 ho6 hr6
      with_reducible refine (crc_any _ _ _ _ _ r7 ht7).mono ?_
      rintro e w' ⟨rfl, rfl⟩
      rw [show nt (thr 4294967295 (be 8 C ++ p)) = crc (be 8 C ++ p) from rfl]
      have hne := ne_crc HCR.out
      clear r5 r7 ht5 ht7 hr5 ht3 hr3 r2 hr2 ht2 hr1 ht1 hr0 h57
      go_wp2
      go_ret
      exact ⟨by first | rfl | simp, B7.out⟩
end Go.Proofs.YtdepdediggokgaaDoor
