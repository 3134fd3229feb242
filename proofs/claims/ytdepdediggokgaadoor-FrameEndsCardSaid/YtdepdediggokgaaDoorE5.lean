import Derived.Test.YtdepdediggokgaaDoorE4
import Derived.RangeFuncNested
import Derived.RangeFuncBound
import Derived.RangeFuncCalls
import Derived.RangeFuncLeaves
import Derived.Shelf.Abstract
import Derived.Shelf.RegionOpen
import Derived.OwnWalkIn
import Derived.TacticsInMore
import Derived.LoopNIn
import Derived.LoopIn
namespace Go.Proofs.YtdepdediggokgaaDoor
open Go.RowKit Go.Shelf
set_option linter.unusedVariables false
attribute [local go_sem] Oper.semAt_some
abbrev encR (N : Int) (a : Option Addr) (os : List (Nat × Nat)) (i : Nat) : Array Value := #[.int .i64 (N + i), recV a (os.getD i (0, 0))]
set_option maxRecDepth 100000 in
set_option maxHeartbeats 2000000 in
theorem rows1_stops (n : Nat) (hn : 1 ≤ n) (wR w : World) (hw : Below wR.heap.size wR w) (Bn Bb : Nat) (N : Int) (hN : -9223372036854775808 ≤ N ∧ N ≤ 9223372036854775807) (a : Option Addr) (m c : Nat) (l : List UInt8)
    (cN : wR.cell? ⟨Bn, 0, none⟩ = some (.int .i64 N)) (cB : wR.cell? ⟨Bb, 0, none⟩ = some (.slice a m c)) (hr : R8 wR a m c l) (ht : HalfTab wR) (h0 : 0 < wR.heap.size) (os : List (Nat × Nat)) (hos : recOF (l.length + 1) N l 0 = os) :
    SeqStopsK Fence.wide n Tryd.prog 49 #[.pointer (some ⟨Bn, 0, none⟩), .pointer (some ⟨Bb, 0, none⟩)] (encR N a os) (Below wR.heap.size) (fun xs => xs = List.range os.length) (fun pre => pre <+: List.range os.length) (os.length + 1) w := fun ll J Jx W hW hJ hJx hY h00 => by
  have hm := hr.2.2.1
  have hmc := hr.2.1
  have hlen := Lib.hid hr.1
  have bW : Below wR.heap.size wR W := hw.trans (hW.mono hw.size)
  have cN1 := (bW.cell (p := ⟨Bn, 0, none⟩) (block_lt_of_cell cN)).trans cN
  have cB1 := (bW.cell (p := ⟨Bb, 0, none⟩) (block_lt_of_cell cB)).trans cB
  have HR := Lib.hid hr
  have HT := Lib.hid ht
  have CN := Lib.hid cN
  have CB := Lib.hid cB
  have HN := Lib.hid hN
  have HOS := Lib.hid hos
  have BW := Lib.hid bW
  have HY := Lib.hid hY
  have HJ := Lib.hid hJ
  clear hr ht cN cB hN hos bW hY hJ
  refine callsIn_of_wp Tryd.func49 rfl trivial ?_ rfl
  simp only [Tryd.ntmps49, List.size_toArray, List.length_cons, List.length_nil, Nat.reduceAdd, Nat.reduceSub, Array.replicate_succ, Array.replicate_zero, List.push_toArray, List.append_toArray, List.nil_append, List.cons_append]
  gi_wp2
  gi_loopw [4, 5] (fun x y wr => ∃ k at_ : Nat, at_ ≤ m ∧ k ≤ at_ ∧ (k = 0 ∨ (0 ≤ N ∧ N + k ≤ 1099511627776)) ∧ x = .int .i64 (N + k) ∧ y = .int .i64 at_ ∧ (∃ os', OfRel (l.length + 1) N l k at_ os') ∧ J (List.range k) wr ∧ Below wR.heap.size wR wr) (fun _ y _ => m - (intOf y).toNat)
  case atStart => exact ⟨0, 0, by omega, by omega, .inl rfl, by simp, rfl, ⟨_, OfRel.start _ _⟩, h00, BW.out⟩
  case round =>
    obtain ⟨k, at_, hat, hk, hkn, rfl, rfl, ⟨os', hO⟩, hJr, hb⟩ := hrel
    have HO := Lib.hid hO
    have HK := Lib.hid hkn
    have HJR := Lib.hid hJr
    have HB := Lib.hid hb
    have cb := (hb.cell (p := ⟨Bb, 0, none⟩) (block_lt_of_cell CB.out)).trans CB.out
    clear hO hkn hJr hb cN1 cB1
    obtain ⟨x, hx⟩ : ∃ x : Int, x = N + k := ⟨_, rfl⟩
    have HX := Lib.hid hx
    rw [← hx]
    clear hx
    by_cases hlt : at_ < m
    · have hsl := fun wx => slice_from (P := Tryd.prog) sl22 wx a m c at_ at_ rfl (by omega)
      obtain ⟨q, e, hqe⟩ : ∃ q e, wholeI x (l.drop at_) = (q, e) := ⟨_, _, rfl⟩
      have HQ := Lib.hid hqe
      clear hqe
      have hd := Lib.hid ((HR.out.dropA at_ (by omega)).below HB.out)
      have hlt' : (at_ : Int) < (m : Int) := by omega
      have z := HB.out.size
      gi_wp2
      refine ⟨trivial, (callsIn_wide.2 (wholeI_any wr x _ _ _ _ hd.out (HT.out.below HB.out h0) (by omega) q e HQ.out)).mono ?_⟩
      rintro r w2 ⟨rfl, hb2⟩
      have HB2 := Lib.hid (HB.out.trans (hb2.mono z))
      have HJ2 := Lib.hid (HJ.out _ _ _ none HJR.out (gwk hb2) (fun r h => by cases h))
      have cb2 := (HB2.out.cell (p := ⟨Bb, 0, none⟩) (block_lt_of_cell CB.out)).trans CB.out
      have z2 := HB2.out.size
      clear hb2 cb hsl
      by_cases he : e = 0
      · subst he
        obtain ⟨-, hq1, hq2, hx0, hx1⟩ := wholeI_le _ _ _ HQ.out
        simp only [List.length_drop] at hq2
        have hq3 : at_ + (q + 13) ≤ m := by have := hlen.out; omega
        obtain ⟨hnx, hget⟩ := HO.out.next (by have := hlen.out; omega) (by rw [← HX.out]; exact HQ.out)
        rw [HOS.out] at hget
        have hkl : k < os.length := (List.getElem?_eq_some_iff.1 hget).1
        have HNX := Lib.hid hnx
        have Hkn := Lib.hid (show 0 ≤ N ∧ N + ((k + 1 : Nat) : Int) ≤ 1099511627776 by
          have := HX.out
          have := HK.out
          omega)
        obtain ⟨fn, tmps, assign, body, hy, hR⟩ := HY.out (List.range k) k w2 HJ2.out (by simp; omega)
        have henc : encR N a os k = #[.int .i64 x, .slice (dropA a (at_ + 9) (at_ + 9 + q)) q q] := by
          simp only [encR, recV, List.getD, hget, Option.getD_some, HX.out]
        rw [henc] at hy
        have hsr := fun wx => slice_rec wx a m c (at_ + 9) q ((at_ : Int) + 9) ((at_ : Int) + 9 + (q : Int)) ((at_ : Int) + 9 + (q : Int)) (by omega) (by omega) (by omega) (by omega)
        have HRR := Lib.hid hR
        clear hnx hget hR henc hq1 hq2 hx0 hx1
        have hq4 : q ≤ 281474976710656 := by omega
        gi_wp2
        refine HRR.out.mono ?_
        rintro r w3 (⟨rfl, hJ3, hk3⟩ | ⟨rfl, hJx3⟩)
        · have HJ3 := Lib.hid (show J (List.range (k + 1)) w3 by rw [List.range_succ]; exact hJ3)
          have HB3 := Lib.hid (HB2.out.trans hk3)
          have hxw : IntKind.i64.wrap (x + 1) = x + 1 := by have := HX.out; have := Hkn.out; simp [IntKind.wrap, IntKind.bits, IntKind.signed]; omega
          clear hJ3 hk3 hy hsr
          gi_wp2
          go_roundw
          case rel => exact ⟨k + 1, at_ + (q + 13), hq3, by omega, .inr Hkn.out, by rw [show N + ((k + 1 : Nat) : Int) = x + 1 by have := HX.out; omega], by go_num, ⟨_, HNX.out⟩, HJ3.out, HB3.out⟩
          case measure => simp [intOf]; omega
        · have HJX := Lib.hid (show Jx (List.range (k + 1)) w3 by rw [List.range_succ]; exact hJx3)
          clear hJx3 hy hsr
          gi_wp2
          refine bodyPost_ret (results_none rfl _ _ _) rfl ?_
          exact ⟨⟨_, rfl⟩, .inr ⟨List.range (k + 1), by
            obtain ⟨d, hd⟩ : ∃ d, os.length = (k + 1) + d := ⟨os.length - (k + 1), by omega⟩
            rw [hd]
            exact ⟨_, (@List.range_add (k + 1) d).symm⟩, HJX.out⟩⟩
      · have hne : ((e : Int) == 0) = false := by simpa using he
        have hne' : ((e : Int) != 0) = true := by simpa using he
        have hno := HO.out.refused (by have := hlen.out; omega) he (by rw [← HX.out]; exact HQ.out)
        have hkl : os.length = k := by rw [← HOS.out, hno]; exact HO.out.1
        have HKL := Lib.hid hkl
        clear hno hkl
        gi_wp2
        refine ⟨fun _ h => (by cases h), ?_⟩
        gi_wp2
        refine bodyPost_ret (results_none rfl _ _ _) rfl ?_
        exact ⟨⟨_, rfl⟩, .inl ⟨_, rfl, by rw [HKL.out]; exact HJ2.out⟩⟩
    · have hno := HO.out.stop (by have := hlen.out; omega)
      have hkl : os.length = k := by rw [← HOS.out, hno]; exact HO.out.1
      have HKL := Lib.hid hkl
      clear hno hkl
      gi_wp2
      go_end0
      exact ⟨⟨_, rfl⟩, .inl ⟨_, rfl, by rw [HKL.out]; exact HJR.out⟩⟩
end Go.Proofs.YtdepdediggokgaaDoor
