import Derived.Test.YtdepdediggokgaaDoorW9
import Derived.Test.YtdepdediggokgaaDoorP2
import Derived.Deep.DeepCutAuto
namespace Go.Proofs.YtdepdediggokgaaDoor
open Go.RowKit
set_option linter.unusedVariables false
theorem whole_codes (n : Int) (l : List UInt8) : (wholeI n l).2 = 0 ∨ (wholeI n l).2 = 1 ∨ (wholeI n l).2 = 40 ∨ (wholeI n l).2 = 41 := by
  unfold wholeI wholeF
  repeat' split
  all_goals simp
theorem unpackI_no (w : World) (n : Int) (a : Option Addr) (m c : Nat) (l : List UInt8) (h : R8 w a m c l) (ht : HalfTab w) (h0 : 0 < w.heap.size) (q e : Nat) (he : e ≠ 0) (hr : wholeI n l = (q, e)) :
    Calls Tryd.prog 22 #[.int .i64 n, .slice a m c] w fun r w' => r = .returned (.tuple #[.slice none 0 0, .int .i64 0, .int .i64 (e : Int)]) ∧ Below w.heap.size w w' := by
  unfold wholeI at hr
  by_cases hn : n < 0 ∨ 1099511627776 ≤ n
  · rw [if_pos hn] at hr
    obtain ⟨rfl, rfl⟩ := Prod.mk.inj hr
    exact (unpack_arg w n hn a m c).mono fun _ _ ⟨he, hw⟩ => ⟨he, hw ▸ Below.refl _ _⟩
  · rw [if_neg hn] at hr
    have := unpack_no w n.toNat (by omega) a m c l h ht h0 q e he hr
    rwa [show ((n.toNat : Nat) : Int) = n by omega] at this
theorem slice_to (wx : World) (a : Option Addr) (len cap h : Nat) (hc : h ≤ cap) : (Instr.slice 22 (.slice a len cap) none (some (.int .i64 (h : Int))) none).run Tryd.prog wx = .ok (.slice a h cap) wx := by
  obtain ⟨h1, h2⟩ := sl22.elem wx
  rw [run_slice_h wx 22 a len cap h1 .i64 h (by omega) (by omega), h2]
  have hid : ∀ x : Option Addr, x.map (fun y => y.add (0 * 1)) = x := by intro x; cases x <;> simp [Addr.add]
  simp only [Result.andThen, sliced, hid, ite_self]
  rfl
set_option maxRecDepth 100000 in
set_option maxHeartbeats 2000000 in
theorem framecertain_walk (w : World) (n : Int) (n0 : -9223372036854775808 ≤ n) (n1 : n ≤ 9223372036854775807)
    (sa : Option Addr) (m c : Nat) (l : List UInt8) (h : R8 w sa m c l) (hs : m ≤ 1048576) (ta : Option Addr) (m2 c2 : Nat) (t : List UInt8) (h2 : R8 w ta m2 c2 t) (hs2 : m2 ≤ 1048576) (ht0 : HalfTab w ∧ 0 < w.heap.size) :
    Calls Tryd.prog 5 #[.int .i64 n, .slice sa m c, .slice ta m2 c2] w fun e w' => e = .returned (.bool true) ∧ Below w.heap.size w w' := by
  obtain ⟨ht, h0⟩ := ht0
  have HS := Lib.hid hs
  have HS2 := Lib.hid hs2
  have hm9 : m ≤ 281474976710656 := by omega
  clear hs hs2
  obtain ⟨q, e, hqe⟩ : ∃ q e, wholeI n l = (q, e) := ⟨_, _, rfl⟩
  have HQ := Lib.hid hqe
  have hcode := whole_codes n l
  rw [hqe] at hcode
  simp only at hcode
  clear hqe
  go_enter Tryd.func5, Tryd.ntmps5
  go_wp2_with fail
  with_reducible refine (first_any _ ht h0).mono ?_
  rintro r w1 ⟨rfl, hb1⟩
  have z1 := hb1.size
  have ht1 := ht.below hb1 h0
  have hr1 := h.below hb1
  have hr1t := h2.below hb1
  have B1 := Lib.hid hb1
  clear hb1 ht h h2
  go_wp2_with fail
  by_cases he0 : e = 0
  · subst he0
    obtain ⟨-, -, -, hn0, hn1⟩ := wholeI_le _ _ _ HQ.out
    have hF : wholeF n.toNat l = (q, 0) := by have := HQ.out; unfold wholeI at this; rwa [if_neg (by omega)] at this
    have P := unpack_ok w1 n.toNat (by omega) _ _ _ _ hr1 ht1 (by omega) q hF
    rw [show ((n.toNat : Nat) : Int) = n by omega] at P
    clear hn0 hn1 hF hcode
    with_reducible refine P.mono ?_
    clear P
    rintro r w2 ⟨a2, c2, rfl, -, hb2⟩
    have B2 := Lib.hid (B1.out.trans (hb2.mono z1))
    clear hb2
    go_wp2
    go_ret
    exact ⟨rfl, B2.out⟩
  with_reducible refine (unpackI_no w1 n _ _ _ _ hr1 ht1 (by omega) q e he0 HQ.out).mono ?_
  rintro r w2 ⟨rfl, hb2⟩
  have z2 := hb2.size
  have B2 := Lib.hid (B1.out.trans (hb2.mono z1))
  have ht2 := ht1.below hb2 (by omega)
  have hr2 := hr1.below hb2
  have hr2t := hr1t.below hb2
  clear hb2 hr1 hr1t ht1
  rcases hcode with rfl | rfl | rfl | rfl
  · exact absurd rfl he0
  · clear he0
    rw [show ((1 : Nat) : Int) = 1 from rfl]
    go_wp2
    go_ret
    exact ⟨rfl, B2.out⟩
  · clear he0
    rw [show ((40 : Nat) : Int) = 40 from rfl]
    have hn : ¬ (n < 0 ∨ 1099511627776 ≤ n) := by
      intro e
      have := HQ.out
      unfold wholeI at this
      rw [if_pos e] at this; cases this
    have hF : wholeF n.toNat l = (q, 40) := by have := HQ.out; unfold wholeI at this; rwa [if_neg hn] at this
    have HN := Lib.hid hn
    have HF := Lib.hid hF
    obtain ⟨hle, hlt, htk⟩ := torn_pack _ _ _ hF
    have HLE := Lib.hid hle
    have HLT := Lib.hid hlt
    have HTK := Lib.hid htk
    have hlen := Lib.hid hr2.1
    clear hn hF hle hlt htk
    go_wp2
    go_loop [13, 14] (fun v i => ∃ k : Nat, k ≤ 4 ∧ i = .int .i64 ((k + 1 : Nat) : Int) ∧ v = .int .i64 ((lenK l k : Nat) : Int)) (fun _ i => 5 - (intOf i).toNat)
    case atStart => exact ⟨0, by omega, rfl, rfl⟩
    case round =>
      obtain ⟨k, hk, rfl, rfl⟩ := hrel
      have hkl := lenK_lt l k
      by_cases hlt : k < 4
      · have hk2 : lenK l k ≤ 281474976710656 := by
          have : 256 ^ k ≤ 256 ^ 3 := Nat.pow_le_pow_right (by omega) (by omega)
          omega
        have hst : lenK l (k + 1) = lenK l k * 256 + (l.getD (k + 1) 0).toNat := rfl
        have Hst := Lib.hid hst; clear hst hkl
        by_cases hln : k + 1 < m
        · obtain ⟨b, off, x, rfl, hl, hc⟩ := hr2.at hln
          have hx : x.toNat < 256 := x.toNat_lt
          have hg : l.getD (k + 1) 0 = x := by simp [List.getD, hl]
          have Hg := Lib.hid hg
          clear hr2 hr2t hl hg
          generalize lenK l k = v at *
          go_wp2
          go_round
          case rel => exact ⟨k+1, by omega, by go_num, by rw [Hst.out, Hg.out]; go_num⟩
          case measure => simp [intOf]; omega
        · have hg : l.getD (k + 1) 0 = 0 := by have := hlen.out; simp [List.getD, show l.length ≤ k + 1 by omega]
          have Hg := Lib.hid hg
          clear hr2 hr2t hg
          generalize lenK l k = v at *
          go_wp2
          go_round
          case rel => exact ⟨k+1, by omega, by go_num, by rw [Hst.out, Hg.out]; simp; omega⟩
          case measure => simp [intOf]; omega
      · obtain rfl : k = 4 := by omega
        have hN : lenK l 4 = lenL l := rfl
        rw [hN] at *
        have HN4 := Lib.hid (padR_len l)
        have hNle : decide ((65536 : Int) < ((lenL l : Nat) : Int)) = false := by have := HLE.out; simp; omega
        have hN48 : lenL l ≤ 281474976710656 := by have := HLE.out; omega
        obtain ⟨N, hNN⟩ : ∃ N, N = lenL l := ⟨_, rfl⟩
        rw [← hNN] at hNle hN48 ⊢
        have HNN := Lib.hid hNN
        clear hNN hkl hN
        go_upto_if 67 with (first
          | (at_make; refine L_make rfl _ _ _ rfl sl22 w2.heap.size .i64 .i64 _ N rfl rfl rfl (by omega) (by simp [maxLen]; omega) (Nat.le_refl _) (fun w3 ho3 hg3 => ?_)))
        have hb3 := (Below.refl w2.heap.size w2).grown hg3 (Nat.le_refl _) (by intro k hk; cases hk)
        have hr3 := hr2.below hb3
        rw [made8] at ho3
        obtain ⟨g3, hg3'⟩ : ∃ g, g = w2.heap.size := ⟨_, rfl⟩
        rw [← hg3'] at ho3 ⊢
        have HG3 := Lib.hid hg3'
        clear hg3 hg3'
        go_cut [15] (fun s wx => s = .slice (some ⟨g3, 0, none⟩) N N ∧ wx.ownsRow g3 5 1 (.slice (some ⟨g3, 0, none⟩) N N) N ((padR l).map b8) ∧ Below w2.heap.size w2 wx)
        case first =>
          by_cases h9 : m ≤ 9
          · have hp : padR l = List.replicate N 0 := by
              have : l.drop 9 = [] := List.drop_eq_nil_of_le (by rw [hlen.out]; exact h9)
              rw [padR, this, HNN.out]; simp
            rw [← hp] at ho3
            have Ho := Lib.hid ho3
            clear ho3 hp
            go_wp2
            go_meet
            exact ⟨rfl, Ho.out, hb3⟩
          · have hs9 := fun wx => slice_from (P := Tryd.prog) sl22 wx sa m c 9 9 rfl (by omega)
            have d9 := hr3.dropA 9 (by omega)
            go_wp2_with (refine L_copy8m rfl _ _ _ rfl sl22 g3 g3 N N _ rfl ho3 _ _ _ _ rfl d9 (fun w4 ho4 hg4 => ?_))
            have hp : ((l.drop 9).take N).map b8 ++ ((List.replicate N (0 : UInt8)).map b8).drop (min (m - 9) N) = (padR l).map b8 := by
              rw [padR, ← HNN.out, List.map_append, ← List.map_drop, List.drop_replicate, List.length_drop, hlen.out]
              congr 3; omega
            rw [hp] at ho4
            have hb4 := hb3.grown hg4 hb3.size (by intro k hk; cases hk; have := HG3.out; omega)
            go_meet
            exact ⟨rfl, ho4, hb4⟩
        case rest =>
          obtain ⟨rfl, ho4, hb4⟩ := hcut
          have z4 := hb4.size
          have r4 := R8.of_owns ho4 hN48
          have hr4 := hr2.below hb4
          have ht4 := ht2.below hb4 (by omega)
          have B4 := Lib.hid (B2.out.trans (hb4.mono (by omega)))
          clear hb3 hb4 hr3 hr2 hr2t ht2 ho4 ho3
          have P := pack_ok wc n.toNat (by have := HN.out; omega) _ _ _ _ r4 (by have := HLE.out; rw [HNN.out]; exact this) ht4 (by omega)
          rw [show ((n.toNat : Nat) : Int) = n by have := HN.out; omega] at P
          have HP := Lib.hid P
          clear P
          go_wp2_with fail
          with_reducible refine HP.out.mono ?_
          rintro r w5 ⟨a5, m5, c5, rfl, hm5, ho5, hb5⟩
          have HM5 := Lib.hid hm5
          clear hm5
          have hmlt : m < m5 := by have := HM5.out; have := HLT.out; have := hlen.out; omega
          have r5 := R8.of_owns ho5 (by have := HM5.out; have := packL_len n.toNat (padR l); have := padR_len l; have := HLE.out; omega)
          have r5m := r5.take m (by have := HM5.out; have := HLT.out; have := hlen.out; omega)
          rw [show (packL n.toNat (padR l)).take m = l by rw [← hlen.out]; exact HTK.out] at r5m
          have st5 := fun k => (r5m.drewN k).str
          have st6 := fun k => ((hr4.below hb5).drewN k).str
          have hsl := fun wx => slice_to wx a5 m5 c5 m (by have := r5.2.1; have := HM5.out; have := HLT.out; have := hlen.out; omega)
          have hz5 := HP
          have B5 := Lib.hid (B4.out.trans (hb5.mono (by omega)))
          clear hb5 ho5 r5 r5m hr4 r4 ht4 hz5
          go_wp2
          go_quiet (fail)
          go_wp2
          go_ret
          exact ⟨rfl, below_drewN B5.out _⟩
  · clear he0
    rw [show ((41 : Nat) : Int) = 41 from rfl]
    have hsum : ∃ q', wholeI n (l ++ t) = (q', 41) := by
      have := HQ.out
      unfold wholeI at this ⊢
      by_cases e : n < 0 ∨ 1099511627776 ≤ n
      · rw [if_pos e] at this; cases this
      · rw [if_neg e] at this ⊢; exact whole_sum _ _ _ _ this
    obtain ⟨q', hq'⟩ := hsum
    have HQ' := Lib.hid hq'
    clear hq'
    go_wp2_with (first
      | (at_builtin; refine L_append8 rfl _ _ _ rfl sl22 w2.heap.size (.slice none 0 0) 0 [] rfl (World.ownsRow_nil _ _ _ _) _ _ _ l rfl hr2 (by have := HS.out; omega) (by have := HS.out; simp [maxLen]; omega) (Nat.le_refl _) (fun a3 c3 w3 ho3 hg3 _ => ?_)
         have hb3 := (Below.refl w2.heap.size w2).grown hg3 (Nat.le_refl _) (by intro k hk; cases hk)
         have hr3t := hr2t.below hb3
         simp only [Nat.zero_add, List.nil_append] at ho3
         clear hg3)
      | (at_builtin; refine L_append8 rfl _ _ _ rfl sl22 w2.heap.size (.slice a3 m c3) m _ rfl ho3 _ _ _ t rfl hr3t (by have := HS.out; have := HS2.out; omega) (by have := HS.out; have := HS2.out; simp [maxLen]; omega) hb3.size (fun a4 c4 w4 ho4 hg4 _ => ?_)))
    have hb4 := hb3.trans ((Below.refl w2.heap.size w3).grown hg4 hb3.size (fun k hk => (ho3.lt k hk).1))
    have z4 := hb4.size
    rw [← List.map_append] at ho4
    have r4 := R8.of_owns ho4 (by have := HS.out; have := HS2.out; omega)
    have ht4 := ht2.below hb4 (by omega)
    have B4 := Lib.hid (B2.out.trans (hb4.mono (by omega)))
    clear hb3 hb4 hr3t hg4 ho3 ho4 hr2 hr2t ht2
    with_reducible refine (unpackI_no w4 n _ _ _ _ r4 ht4 (by omega) q' 41 (by omega) HQ'.out).mono ?_
    rintro r w5 ⟨rfl, hb5⟩
    rw [show ((41 : Nat) : Int) = 41 from rfl]
    have B5 := Lib.hid (B4.out.trans (hb5.mono (by omega)))
    clear hb5 r4 ht4
    go_wp2
    go_ret
    exact ⟨rfl, B5.out⟩
end Go.Proofs.YtdepdediggokgaaDoor
