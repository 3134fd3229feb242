import Derived.Test.YtdepdediggokgaaDoorW7
namespace Go.Proofs.YtdepdediggokgaaDoor
open Go.RowKit
set_option linter.unusedVariables false
/-- Within(n, 0, hi): some number from 0 to hi. -/
theorem within_any (w : World) (n : Int) (hi : Int) (hh : 0 ≤ hi) (hb : hi ≤ 4611686018427387904) (h0 : -9223372036854775808 ≤ n) (h1 : n ≤ 9223372036854775807) :
    Calls Tryd.prog 23 #[.int .i64 n, .int .i64 0, .int .i64 hi] w fun e w' => ∃ r : Int, 0 ≤ r ∧ r ≤ hi ∧ e = .returned (.int .i64 r) ∧ w = w' := by
  have ht1 : - (hi + 1) < n.tmod (hi + 1) := by
    have := Int.lt_tmod_of_pos n (show 0 < hi + 1 by omega); omega
  have ht2 : n.tmod (hi + 1) < hi + 1 := Int.tmod_lt_of_pos n (by omega)
  have hne : ((hi + 1) == 0) = false := by simp; omega
  generalize hT : n.tmod (hi + 1) = t at *
  have HT := Lib.hid hT
  go_enter Tryd.func23, Tryd.ntmps23
  by_cases ht : t < 0
  · go_wp2
    go_ret
    exact ⟨_, by omega, by omega, rfl, rfl⟩
  · go_wp2
    go_ret
    exact ⟨_, by omega, by omega, rfl, rfl⟩
set_option maxHeartbeats 400000 in
/-- The law's own eight. -/
theorem leight_any (w : World) (n : Nat) (hn : n < 9223372036854775808) :
    Calls Tryd.prog 24 #[.int .i64 (n : Int)] w fun e w' => ∃ g, e = .returned (.slice (some ⟨g, 0, none⟩) 8 8) ∧ w'.ownsRow w.heap.size 5 1 (.slice (some ⟨g, 0, none⟩) 8 8) 8 ((be 8 n).map b8) ∧ Below w.heap.size w w' := by
  have hcv : IntKind.u64.wrap (n : Int) = (n : Int) := by simp [IntKind.wrap, IntKind.bits, IntKind.signed]; omega
  have hbl := be_len 8 n
  obtain ⟨B, hB⟩ : ∃ B, B = w.heap.size := ⟨_, rfl⟩
  have HB := Lib.hid hB
  have hBle : B ≤ w.heap.size := by omega
  clear hB
  go_enter Tryd.func24, Tryd.ntmps24
  go_wp2_with (first
    | (at_make; refine L_make rfl _ _ _ rfl sl22 B .i64 .i64 _ 8 rfl rfl (by omega) (by omega) (by simp [maxLen]) (by omega) (fun w1 ho1 hg1 => ?_)
       rw [← HB.out] at ho1 ⊢))
  have hb1 := (Below.refl B w).grown hg1 (by omega) (by intro k hk; cases hk)
  rw [made8] at ho1
  clear hg1
  go_loopw [4] (fun i wr => ∃ k : Nat, k ≤ 8 ∧ i = .int .i64 k ∧ Below B w wr ∧ wr.ownsRow B 5 1 (.slice (some ⟨B, 0, none⟩) 8 8) 8 (((be 8 n).take k ++ List.replicate (8 - k) 0).map b8)) (fun i _ => 8 - (intOf i).toNat)
  case atStart => exact ⟨0, by omega, rfl, hb1, by simpa using ho1⟩
  case round =>
    obtain ⟨k, hk, rfl, hb, ho⟩ := hrel
    by_cases hlt : k < 8
    · have hbt := be_take 8 n k hlt
      obtain ⟨q, hq⟩ : ∃ q : Nat, q = 7 - k := ⟨_, rfl⟩
      rw [show 8 - 1 - k = q by omega] at hbt
      have hq1 : (56 : Int) - 8 * (k : Int) = 8 * (q : Int) := by omega
      have hw0 : IntKind.i64.wrap (8 * (k : Int)) = 8 * (k : Int) := by simp [IntKind.wrap, IntKind.bits, IntKind.signed]; omega
      have hw2 : IntKind.u64.wrap (8 * (q : Int)) = 8 * (q : Int) := by simp [IntKind.wrap, IntKind.bits, IntKind.signed]; omega
      have hp0 : (0 : Int) ≤ 8 * (q : Int) := by omega
      have hp1 : 8 * (q : Int) ≤ 64 := by omega
      have hp2 : (8 * (q : Int)).toNat = 8 * q := by omega
      have hwb := wrap_byte n (8 * q)
      generalize hz : UInt8.ofNat (n / 2 ^ (8 * q)) = z at *
      have hc := ho.cellAt k (by omega)
      have hf := ho.frozenAt k
      have hlk : ((be 8 n).take k ++ List.replicate (8 - k) (0 : UInt8)).length = 8 := by simp [be_len]; omega
      rw [List.getElem?_map, List.getElem?_eq_getElem (by omega)] at hc
      simp only [Option.map_some] at hc
      generalize ((be 8 n).take k ++ List.replicate (8 - k) (0 : UInt8))[k]'_ = y at hc
      have hset : ((be 8 n).take k ++ List.replicate (8 - k) (0 : UInt8)).set k z = (be 8 n).take (k + 1) ++ List.replicate (8 - (k + 1)) 0 := by
        rw [hbt, List.set_append_right _ _ (by simp [be_len]; omega), show k - ((be 8 n).take k).length = 0 by simp [be_len]; omega, show 8 - k = (8 - (k + 1)) + 1 by omega, List.replicate_succ, List.set_cons_zero]
        simp
      have ho' := (ho.stored k (.int .u8 (z.toNat : Int))).1
      rw [set_b8, hset] at ho'
      have hb' := hb.setCell (p := ⟨B, k, none⟩) (by simp) (.int .u8 (z.toNat : Int))
      have HQ := Lib.hid hq
      clear hbt hz hset hlk ho hb hq ho1 hb1
      go_wp2
      go_roundw
      case rel => exact ⟨k+1, by omega, by go_num, hb', ho'⟩
      case measure => simp [intOf]; omega
    · obtain rfl : k = 8 := by omega
      have hfull : (be 8 n).take 8 = be 8 n := List.take_of_length_le (by omega)
      rw [hfull] at ho
      rw [HB.out] at *
      go_wp2
      go_ret
      exact ⟨_, rfl, by simpa using ho, hb⟩
theorem slice_to (wx : World) (a : Option Addr) (len cap h : Nat) (hc : h ≤ cap) : (Instr.slice 22 (.slice a len cap) none (some (.int .i64 (h : Int))) none).run Tryd.prog wx = .ok (.slice a h cap) wx := by
  obtain ⟨h1, h2⟩ := sl22.elem wx
  rw [run_slice_h wx 22 a len cap h1 .i64 h (by omega) (by omega), h2]
  have hid : ∀ x : Option Addr, x.map (fun y => y.add (0 * 1)) = x := by intro x; cases x <;> simp [Addr.add]
  simp only [Result.andThen, sliced, hid, ite_self]
  rfl
end Go.Proofs.YtdepdediggokgaaDoor
