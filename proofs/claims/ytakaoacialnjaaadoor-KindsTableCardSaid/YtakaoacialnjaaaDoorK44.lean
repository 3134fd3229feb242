import Derived.Test.YtakaoacialnjaaaDoorK43
namespace Go.Proofs.YtakaoacialnjaaaDoor
open Go Go.RowKit
set_option linter.unusedVariables false
set_option linter.unusedSimpArgs false
set_option maxRecDepth 100000 in
set_option maxHeartbeats 4000000 in
theorem over_any (w : World) (op : Int) (a : Option Addr) (n c : Nat) (l : List (Int × Bool)) (hr : RS 2 Kd w a n c l) (hn : n ≤ 3) :
    Calls Tryd.prog 10 #[.int .i64 op, .slice a n c] w fun e w' => OverOut e w w' op l ∧ Below w.heap.size w w' := by
  have hlen := hr.1
  have HR := Lib.hid hr
  clear hr
  go_enter Tryd.func10, Tryd.ntmps10
  go_wp2_with fail
  go_loopw [6, 7, 8, 9] (fun u v x i wr => ∃ k : Nat, k ≤ n ∧ i = .int .i64 k ∧ (∃ ua uc, u = .slice ua k uc) ∧ (∃ va vc, v = .slice va (partsNm l k).length vc) ∧ (∃ xa xc, x = .slice xa k xc) ∧
    wr.ownsRow w.heap.size 49 7 u k ((partsNd l k).flatMap Nd.cs) ∧ wr.ownsRow w.heap.size 34 3 v (partsNm l k).length ((partsNm l k).flatMap Nm.cs) ∧ wr.ownsRow w.heap.size 3 1 x k ((List.range k).flatMap (fun i : Nat => Iv (i : Int))) ∧ Below w.heap.size w wr) (fun _ _ _ i _ => n - (intOf i).toNat)
  case atStart => exact ⟨0, by omega, rfl, ⟨none, 0, rfl⟩, ⟨none, 0, rfl⟩, ⟨none, 0, rfl⟩, World.ownsRow_nil _ _ _ _, World.ownsRow_nil _ _ _ _, World.ownsRow_nil _ _ _ _, Below.refl _ _⟩
  case round =>
    obtain ⟨k, hk, rfl, ⟨ua, uc, rfl⟩, ⟨va, vc, rfl⟩, ⟨xa, xc, rfl⟩, hu, hv, hx, hb⟩ := hrel
    have HU := Lib.hid hu
    have HV := Lib.hid hv
    have HX := Lib.hid hx
    have HB := Lib.hid hb
    have HZ := Lib.hid hb.size
    have HVL := Lib.hid (partsNm_le l k)
    clear hu hv hx hb
    by_cases hlt : k < n
    · obtain ⟨lb, lo, ⟨xb, xo⟩, rfl, hxk, hcl0⟩ := HR.out.at hlt
      have HC0 := Lib.hid (hcl0 0 _ rfl)
      have HC1 := Lib.hid (hcl0 1 _ rfl)
      have x0 := (HB.out.cell (p := ⟨lb, lo + k * 2 + 0, none⟩) (block_lt_of_cell (hcl0 0 _ rfl))).trans (hcl0 0 _ rfl)
      have x1 := (HB.out.cell (p := ⟨lb, lo + k * 2 + 1, none⟩) (block_lt_of_cell (hcl0 1 _ rfl))).trans (hcl0 1 _ rfl)
      simp only [Nat.add_zero] at x0
      have hltI : (k : Int) < (n : Int) := by omega
      clear hcl0
      have hcv := conv_part wr k (by omega)
      have bw5 : Below wr.heap.size wr (wr.alloc (.cells #[.int .u8 (97 + (k : Int))] 5)) := (Below.refl _ _).alloc (Nat.le_refl _) _
      have lx := block_lt_of_cell x0
      have x0 := (bw5.cell (p := ⟨lb, lo + k * 2, none⟩) lx).trans x0
      have x1 := (bw5.cell (p := ⟨lb, lo + k * 2 + 1, none⟩) lx).trans x1
      have HU5 := Lib.hid (own_below HU.out bw5)
      have HV5 := Lib.hid (own_below HV.out bw5)
      have HX5 := Lib.hid (own_below HX.out bw5)
      have HB5 := Lib.hid (HB.out.alloc HZ.out (.cells #[.int .u8 (97 + (k : Int))] 5))
      have HXK := Lib.hid hxk
      clear hxk bw5 lx
      cases e0 : (xb == 0)
      · have HE := Lib.hid (show xb ≠ 0 by simpa using e0)
        go_wp2_with (at_builtin; first
         | (refine L_appendN rfl _ _ _ rfl sl24 w.heap.size (.slice ua k uc) k _ rfl (own_below HU5.out ((Below.refl _ _).alloc (Nat.le_refl _) (.cells (nmNd k).v 49))) _ 1 1 (Nd.cs (nmNd k)) rfl rfl (new_nd' (wr.alloc (.cells #[.int .u8 (97 + (k : Int))] 5)) (nmNd k) (World.size_alloc _ _)) (by simp [Nd.cs, Nm.cs, Iv, Value.oneCell']) (by omega) (by simp [maxLen]; omega) (by have := HZ.out; simp; omega) (fun a6 c6 w6 ho6 hg6 hat6 => ?_);
               have HV6 := Lib.hid (own_grown (own_below HV5.out ((Below.refl _ _).alloc (Nat.le_refl _) _)) (own_below HU5.out ((Below.refl _ _).alloc (Nat.le_refl _) _)) (by decide) hg6);
               have HX6 := Lib.hid (own_grown (own_below HX5.out ((Below.refl _ _).alloc (Nat.le_refl _) _)) (own_below HU5.out ((Below.refl _ _).alloc (Nat.le_refl _) _)) (by decide) hg6);
               have HB6 := Lib.hid ((HB5.out.alloc (by have := HZ.out; simp; omega) _).grown hg6 (by have := HZ.out; simp; omega) (fun q hq => by have := (HU5.out.lt q hq).1; omega));
               have HZ6 := Lib.hid HB6.out.size;
               have HU6 := Lib.hid ho6;
               clear ho6 hg6 hat6;
               have y0 := cell0 HB6.out HC0.out;
               have y1 := (HB6.out.cell (p := ⟨lb, lo + k * 2 + 1, none⟩) (block_lt_of_cell HC1.out)).trans HC1.out;
               clear x0 x1 hcv)
         | (refine L_appendN rfl _ _ _ rfl sl25 w.heap.size (.slice va (partsNm l k).length vc) (partsNm l k).length _ rfl (own_below HV6.out ((Below.refl _ _).alloc (Nat.le_refl _) (.cells #[.string (partName k), .int .i64 xb, .bool xo] 34))) _ 1 1 (Nm.cs ⟨partName k, xb, xo⟩) rfl rfl (new_nm w6 ⟨partName k, xb, xo⟩) (by simp [Nd.cs, Nm.cs, Iv, Value.oneCell']) (by have := HVL.out; omega) (by have := HVL.out; simp [maxLen]; omega) (by have := HZ6.out; simp; omega) (fun a7 c7 w7 ho7 hg7 hat7 => ?_);
               have HU7 := Lib.hid (own_grown (own_below HU6.out ((Below.refl _ _).alloc (Nat.le_refl _) _)) (own_below HV6.out ((Below.refl _ _).alloc (Nat.le_refl _) _)) (by decide) hg7);
               have HX7 := Lib.hid (own_grown (own_below HX6.out ((Below.refl _ _).alloc (Nat.le_refl _) _)) (own_below HV6.out ((Below.refl _ _).alloc (Nat.le_refl _) _)) (by decide) hg7);
               have HB7 := Lib.hid ((HB6.out.alloc (by have := HZ6.out; simp; omega) _).grown hg7 (by have := HZ6.out; simp; omega) (fun q hq => by have := (HV6.out.lt q hq).1; omega));
               have HZ7 := Lib.hid HB7.out.size;
               have HV7 := Lib.hid ho7;
               clear ho7 hg7 hat7)
         | (refine L_appendN rfl _ _ _ rfl sl42 w.heap.size (.slice xa k xc) k _ rfl (own_below HX7.out ((Below.refl _ _).alloc (Nat.le_refl _) (.cells #[.int .i64 (k : Int)] 3))) _ 1 1 (Iv (k : Int)) rfl rfl (new_iv w7 (k : Int)) (by simp [Nd.cs, Nm.cs, Iv, Value.oneCell']) (by omega) (by simp [maxLen]; omega) (by have := HZ7.out; simp; omega) (fun a8 c8 w8 ho8 hg8 hat8 => ?_);
               have HU8 := Lib.hid (own_grown (own_below HU7.out ((Below.refl _ _).alloc (Nat.le_refl _) _)) (own_below HX7.out ((Below.refl _ _).alloc (Nat.le_refl _) _)) (by decide) hg8);
               have HV8 := Lib.hid (own_grown (own_below HV7.out ((Below.refl _ _).alloc (Nat.le_refl _) _)) (own_below HX7.out ((Below.refl _ _).alloc (Nat.le_refl _) _)) (by decide) hg8);
               have HB8 := Lib.hid ((HB7.out.alloc (by have := HZ7.out; simp; omega) _).grown hg8 (by have := HZ7.out; simp; omega) (fun q hq => by have := (HX7.out.lt q hq).1; omega));
               have HZ8 := Lib.hid HB8.out.size;
               have HX8 := Lib.hid ho8;
               clear ho8 hg8 hat8))
        go_roundw
        case rel => exact ⟨k + 1, by omega, by go_num, ⟨_, _, rfl⟩, ⟨_, _, by rw [partsNm_succ1 HXK.out HE.out, List.length_append]; rfl⟩, ⟨_, _, rfl⟩, by rw [partsNd_succ1 HXK.out HE.out]; exact HU8.out, by rw [partsNm_succ1 HXK.out HE.out]; exact by rw [List.length_append, List.flatMap_append]; simpa using HV8.out, by rw [ints_succ]; exact HX8.out, HB8.out⟩
        case measure => simp [intOf]; omega

      · have HE := Lib.hid (show xb = 0 by simpa using e0)
        go_wp2_with (at_builtin; first
         | (refine L_appendN rfl _ _ _ rfl sl24 w.heap.size (.slice ua k uc) k _ rfl (own_below HU5.out ((Below.refl _ _).alloc (Nat.le_refl _) (.cells noNd.v 49))) _ 1 1 (Nd.cs noNd) rfl rfl (new_nd' (wr.alloc (.cells #[.int .u8 (97 + (k : Int))] 5)) noNd (World.size_alloc _ _)) (by simp [Nd.cs, Nm.cs, Iv, Value.oneCell']) (by omega) (by simp [maxLen]; omega) (by have := HZ.out; simp; omega) (fun a6 c6 w6 ho6 hg6 hat6 => ?_);
               have HV6 := Lib.hid (own_grown (own_below HV5.out ((Below.refl _ _).alloc (Nat.le_refl _) _)) (own_below HU5.out ((Below.refl _ _).alloc (Nat.le_refl _) _)) (by decide) hg6);
               have HX6 := Lib.hid (own_grown (own_below HX5.out ((Below.refl _ _).alloc (Nat.le_refl _) _)) (own_below HU5.out ((Below.refl _ _).alloc (Nat.le_refl _) _)) (by decide) hg6);
               have HB6 := Lib.hid ((HB5.out.alloc (by have := HZ.out; simp; omega) _).grown hg6 (by have := HZ.out; simp; omega) (fun q hq => by have := (HU5.out.lt q hq).1; omega));
               have HZ6 := Lib.hid HB6.out.size;
               have HU6 := Lib.hid ho6;
               clear ho6 hg6 hat6)
         | (refine L_appendN rfl _ _ _ rfl sl42 w.heap.size (.slice xa k xc) k _ rfl (own_below HX6.out ((Below.refl _ _).alloc (Nat.le_refl _) (.cells #[.int .i64 (k : Int)] 3))) _ 1 1 (Iv (k : Int)) rfl rfl (new_iv w6 (k : Int)) (by simp [Nd.cs, Nm.cs, Iv, Value.oneCell']) (by omega) (by simp [maxLen]; omega) (by have := HZ6.out; simp; omega) (fun a8 c8 w8 ho8 hg8 hat8 => ?_);
               have HU8 := Lib.hid (own_grown (own_below HU6.out ((Below.refl _ _).alloc (Nat.le_refl _) _)) (own_below HX6.out ((Below.refl _ _).alloc (Nat.le_refl _) _)) (by decide) hg8);
               have HV8 := Lib.hid (own_grown (own_below HV6.out ((Below.refl _ _).alloc (Nat.le_refl _) _)) (own_below HX6.out ((Below.refl _ _).alloc (Nat.le_refl _) _)) (by decide) hg8);
               have HB8 := Lib.hid ((HB6.out.alloc (by have := HZ6.out; simp; omega) _).grown hg8 (by have := HZ6.out; simp; omega) (fun q hq => by have := (HX6.out.lt q hq).1; omega));
               have HZ8 := Lib.hid HB8.out.size;
               have HX8 := Lib.hid ho8;
               clear ho8 hg8 hat8))
        go_roundw
        case rel => exact ⟨k + 1, by omega, by go_num, ⟨_, _, rfl⟩, ⟨_, _, by rw [partsNm_succ0 HXK.out HE.out]⟩, ⟨_, _, rfl⟩, by rw [partsNd_succ0 HXK.out HE.out]; exact HU8.out, by rw [partsNm_succ0 HXK.out HE.out]; exact HV8.out, by rw [ints_succ]; exact HX8.out, HB8.out⟩
        case measure => simp [intOf]; omega

    · have hltI : ¬ (k : Int) < (n : Int) := by omega
      obtain rfl : k = n := by omega
      go_wp2_with (at_builtin; go_loud (refine L_appendN rfl _ _ _ rfl sl24 w.heap.size (.slice ua k uc) k _ rfl (own_below HU.out ((Below.refl _ _).alloc (Nat.le_refl _) (.cells (opNd op xa k xc).v 49))) _ 1 1 (Nd.cs (opNd op xa k xc)) rfl rfl (new_nd wr (opNd op xa k xc)) (by simp [Nd.cs, Value.oneCell']) (by omega) (by simp [maxLen]; omega) (by have := HZ.out; simp; omega) (fun a6 c6 w6 ho6 hg6 hat6 => ?_)))
      have HV6 := Lib.hid (own_grown (own_below HV.out ((Below.refl _ _).alloc (Nat.le_refl _) _)) (own_below HU.out ((Below.refl _ _).alloc (Nat.le_refl _) _)) (by decide) hg6)
      have HX6 := Lib.hid (own_grown (own_below HX.out ((Below.refl _ _).alloc (Nat.le_refl _) _)) (own_below HU.out ((Below.refl _ _).alloc (Nat.le_refl _) _)) (by decide) hg6)
      have HB6 := Lib.hid ((HB.out.alloc (by have := HZ.out; simp; omega) _).grown hg6 (by have := HZ.out; simp; omega) (fun q hq => by have := (HU.out.lt q hq).1; omega))
      have HU6 := Lib.hid ho6
      clear ho6 hg6 hat6
      go_wp2
      go_ret2
      exact ⟨over_end hlen HVL.out hn HU6.out HV6.out HX6.out, HB6.out⟩
end Go.Proofs.YtakaoacialnjaaaDoor
