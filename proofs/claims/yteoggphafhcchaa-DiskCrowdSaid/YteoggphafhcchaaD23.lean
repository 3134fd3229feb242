import Derived.Test.YteoggphafhcchaaD22
import Derived.RangeFuncBox
import Derived.RangeFuncLeaves
import Derived.Shelf.Abstract
import Derived.WalkKit
import Derived.OwnWalkIn
import Derived.TacticsInMore
import Derived.LoopNIn
import Derived.LoopIn
namespace Go.Proofs.Yteoggphafhcchaa
open Go Go.RowKit Go.Shelf
set_option maxRecDepth 100000
set_option maxHeartbeats 1000000
set_option linter.unusedVariables false
set_option linter.unusedSimpArgs false
open Go.Maps Go.WideMaps Go.ChangeMaps
attribute [local go_sem] Oper.semAt_some
/-- What a round keeps for the iterator: every block of cells but the count's. -/
def Kpc (cb : Nat) (W W' : World) : Prop := ∀ (k : Nat) (cs : Array Value) (t : TypeId) (fz : Nat × Nat), k ≠ cb → W.heap[k]? = some (.cells cs t fz) → W'.heap[k]? = some (.cells cs t fz)
theorem Kpc.trans {cb : Nat} {A B C : World} (h : Kpc cb A B) (k : Kpc cb B C) : Kpc cb A C := fun i cs t fz hi hb => k i cs t fz hi (h i cs t fz hi hb)
theorem info3 : (Try.prog.info? 3).map (fun i => (i.zero, i.size, i.bytes)) = some (some (.int .i64 0), 1, 8) := by kernel_rfl
theorem iter_in (n : Nat) (hn : 1 ≤ n) (l bd gd cb m : Nat) (d : Dk) (D : DataW Unit) (J Jx : List ByteArray → World → Prop) (W : World) (hJ : AbidesFrom W.heap.size J)
    (hY : ∀ pre x W1, J pre W1 → pre.length < size D → YieldAt Fence.wide (n - 1) Try.prog l #[.string x, .int .i64 0] W1 fun e W' =>
      (e = .returned (.bool true) ∧ J (pre ++ [x]) W' ∧ Kpc cb W1 W') ∨ (e = .returned (.bool false) ∧ Jx (pre ++ [x]) W'))
    (hbd : W.heap[bd]? = some (boxD gd)) (hg : W.heap[gd]? = some d.box) (hpw : d.power = true) (hm : W.ownsMap Try.prog 9 ptrR d.nb m D) (hok : ∀ s (g : Nat), at? D s = .lit (.int .i64 g) → FileE W g)
    (hnil : ∀ s : ByteArray, at? D s = .nil ↔ has D (kL s) = false) (h0 : 0 < size D) (h1 : size D ≤ 5000) (hcb : cb < W.heap.size) (hJ0 : J [] W) :
    CallsIn Fence.wide n Try.prog 30 #[.func (.yield l) #[] #[], .pointer (some ⟨bd, 0, none⟩)] W fun e W' => (∃ v, e = .returned v) ∧ ((∃ ys : List ByteArray, ys.length = size D ∧ J ys W') ∨ ∃ pre, Jx pre W') := by
  have c0 := cell0 hbd
  obtain ⟨-, -, -, -, -, c5, c6, -⟩ := Dk.cells hg
  rw [hpw] at c5
  have HM := Lib.hid hm
  have HBD := Lib.hid hbd
  have HG := Lib.hid hg
  have hf31 : Fence.wide.fn 31 := trivial
  have hf16 : Fence.wide.fn 16 := trivial
  clear hbd hg hm
  refine callsIn_of_wp Try.func30 rfl trivial ?_ rfl
  simp only [Try.ntmps30, List.size_toArray, List.length_cons, List.length_nil, Nat.reduceAdd, Nat.reduceSub, Array.replicate_succ, Array.replicate_zero, List.push_toArray, List.append_toArray, List.nil_append, List.cons_append]
  gi_wp2_with (first
    | (gi_at_call 31; refine (callsIn_wide.2 ((callsIn_wide (n := 5)).1 (Try.maps_Keys_31 _ _))).mono ?_; rintro e w3 ⟨rfl, rfl⟩)
    | (gi_at_call 16; refine (callsIn_wide.2 ((callsIn_wide (n := 5)).1 (Try.slices_Sorted_keys_16_31 d.nb m D ptrR W HM.out (by unfold maxLen; omega) (by omega)))).mono ?_; rintro e w4 ⟨v, ss, rfl, hS, hrow, hnl, hb4⟩
       obtain ⟨hN, hnd, hmem, hle⟩ := str_facts HM.out
       obtain ⟨L, hL⟩ : ∃ L, L = ss.mergeSort (fun x y => decide (x ≤ y)) := ⟨_, rfl⟩
       have hLp : L.Perm (strKeys D) := by rw [hL]; exact (List.mergeSort_perm ss _).trans hS
       rw [← hL] at hrow
       have hss : ss.length = size D := by rw [hS.length_eq, hN]
       obtain ⟨rb, cap, cs, rfl, hrb, hcs, hLN, hat⟩ := row_block hrow (by omega)
       obtain ⟨ii, hii, hiz, his, hib⟩ := info_parts info3
       have hbl4 : Below W.heap.size W w4 := ((Below.refl _ W).alloc (Nat.le_refl _) _).trans (hb4.mono (by simp))
       obtain ⟨w5, hmk, hrow5, hg5⟩ := run_make_full (P := Try.prog) w4 W.heap.size 79 3 ii _ 1 Try.underlying79 hii hiz his .i64 .i64 (size D) (by rw [hib]; omega) (by unfold maxLen; omega) hbl4.size
       rw [hss]))
  have hbl5 : Below W.heap.size W w5 := hbl4.trans ⟨hg5.os, hg5.tape, hg5.output, hg5.size, fun k hk => hg5.block k (by have := hbl4.size; omega) (by simp)⟩
  have hcs5 : w5.heap[rb]? = some (.cells cs 9 (0, 0)) := (hg5.block rb (Array.getElem?_eq_some_iff.1 hcs).1 (by simp)).trans hcs
  obtain ⟨sb, hsb⟩ : ∃ sb, sb = w4.heap.size := ⟨_, rfl⟩
  have hz5 : ∃ c5, w5.heap[sb]? = some (.cells c5 3 (0, 0)) ∧ ∀ k, k < size D → c5[k]? = some (.int .i64 0) := by
    rcases hrow5.2 with ⟨e, -⟩ | ⟨g, cap', cur, e, hb, hg, h1, h2, h3, h4⟩
    · cases e
    · simp only [Value.slice.injEq, Option.some.injEq, Addr.mk.injEq] at e
      obtain ⟨⟨rfl, -⟩, -⟩ := e
      refine ⟨cur, by rw [hsb]; exact hg, fun k hk => ?_⟩
      have e1 : (cur.toList.take (size D * 1))[k]? = some (.int .i64 0) := by
        rw [h4]; simp [madeCells, hk]; rw [show (Value.int IntKind.i64 0).cells = #[Value.int .i64 0] from rfl]; simp [Nat.mod_one]
      rw [List.getElem?_take] at e1
      split at e1
      · simpa using e1
      · cases e1
  rw [← hsb]
  obtain ⟨c5', hz5, hc5⟩ := hz5
  have hm5 := HM.out.kept (gwk hbl5) (by simp)
  have hbd5 := (hbl5.block bd (Array.getElem?_eq_some_iff.1 HBD.out).1).trans HBD.out
  have hg5' := (hbl5.block gd (Array.getElem?_eq_some_iff.1 HG.out).1).trans HG.out
  have hok5 : ∀ s (g : Nat), at? D s = .lit (.int .i64 g) → FileE w5 g := fun s g h => by
    obtain ⟨num, hf⟩ := hok s g h
    exact ⟨num, (hbl5.block g (Array.getElem?_eq_some_iff.1 hf).1).trans hf⟩
  have hJ5 : J [] w5 := hJ _ _ _ none hJ0 (gwk hbl5) (fun r e => by cases e)
  have HL := Lib.hid (show (∀ x ∈ L, x.length ≤ maxLen) ∧ ∀ x, x ∈ L ↔ has D (.string x) = true from ⟨fun x hx => hle x (hLp.mem_iff.1 hx), fun x => hLp.mem_iff.trans (hmem x)⟩)
  have HAT := Lib.hid hat
  have HC5 := Lib.hid hc5
  have HZ5 := Lib.hid hz5
  have HM5 := Lib.hid hm5
  have HCS := Lib.hid hcs5
  have HJ5 := Lib.hid hJ5
  have HOK := Lib.hid hok5
  have HNL := Lib.hid hnil
  have HHY := Lib.hid hY
  have hLn : L.length = size D := by omega
  have e0 := cell0 hbd5
  obtain ⟨-, -, -, -, -, -, e6, -⟩ := Dk.cells hg5'
  have hrbc : rb ≠ cb := by have h9 := hrb; rw [World.size_alloc] at h9; omega
  have hsbc : sb ≠ cb := by have := hbl4.size; omega
  clear hmk hrow5 hg5 hS hrow hnl hb4 hN hnd hmem hle hL hLp hss hcs hat hz5 hc5 hm5 hcs5 hJ5 hok5 hok hnil hY hJ0 c0 c5 c6 hbd5 hg5' hii hiz his hib hsb
  gi_loopw [25] (fun i wr => ∃ k : Nat, k ≤ size D ∧ i = .int .i64 k ∧ wr = w5) (fun i _ => size D - (intOf i).toNat)
  case atStart => exact ⟨0, Nat.zero_le _, rfl, rfl⟩
  case round =>
    obtain ⟨k, hk, rfl, e9⟩ := hrel
    rw [e9]
    by_cases hkl : k < size D
    · obtain ⟨l0, hl0⟩ : ∃ l0, L[k]? = some l0 := ⟨L[k]'(by omega), List.getElem?_eq_getElem _⟩
      have hlm : l0 ∈ L := List.mem_of_getElem? hl0
      have hls : (bs l0).size ≤ maxLen := HL.out.1 l0 hlm
      have hcell : w5.cell? ⟨rb, k, none⟩ = some (.string (bs l0)) := by rw [cell_of_row _ _ _ _ _ _ HCS.out]; exact HAT.out k l0 hl0
      have hlp := look_ptr HM5.out hls
      have hgx : ∃ g : Nat, at? D (bs l0) = .lit (.int .i64 g) := by
        rcases hlp.2 with h | h
        · have h1 := (HNL.out _).1 h
          rw [show has D (kL (bs l0)) = true from (HL.out.2 l0).1 hlm] at h1; cases h1
        · exact h
      obtain ⟨g, hgat⟩ := hgx
      have hlk := hlp.1
      rw [hgat] at hlk
      have hlk2 : (Instr.lookup 37 (.map (some d.nb)) (.string (bs l0)) false).run Try.prog w5 = .ok (.pointer (some ⟨g, 0, none⟩)) w5 := hlk
      have hn1 : w5.cell? ⟨g, 1, none⟩ = some (.slice none 0 0) := (HOK.out _ g hgat).now
      have hsc : w5.setCell ⟨sb, k, none⟩ (.int .i64 0) = w5 := setCell_self HZ5.out (HC5.out k hkl)
      have hs0 : w5.cell? ⟨sb, k, none⟩ = some (.int .i64 0) := by rw [cell_of_row _ _ _ _ _ _ HZ5.out]; exact HC5.out k hkl
      have hsf : w5.frozen? ⟨sb, k, none⟩ = false := frozen_of_row w5 sb k _ _ HZ5.out
      clear hlp hlk hgat hlm
      gi_wp2
      exact ⟨⟨k + 1, by omega, by push_cast; rfl, trivial⟩, by simp [intOf]; omega⟩
    · obtain rfl : k = size D := by omega
      gi_wp2
      gi_loopw [46] (fun i wx => ∃ k : Nat, k ≤ size D ∧ i = .int .i64 k ∧ J ((L.take k).map bs) wx ∧ Kpc cb w5 wx) (fun i _ => size D - (intOf i).toNat)
      case atStart => exact ⟨0, Nat.zero_le _, rfl, by simpa using HJ5.out, fun _ _ _ _ _ h => h⟩
      case round =>
        obtain ⟨k, hk, rfl, hJs, hkp⟩ := hrel
        by_cases hkl : k < size D
        · obtain ⟨l0, hl0⟩ : ∃ l0, L[k]? = some l0 := ⟨L[k]'(by omega), List.getElem?_eq_getElem _⟩
          have hrow := hkp rb _ _ _ hrbc HCS.out
          have hsz := hkp sb _ _ _ hsbc HZ5.out
          have hcell : wr.cell? ⟨rb, k, none⟩ = some (.string (bs l0)) := by rw [cell_of_row _ _ _ _ _ _ hrow]; exact HAT.out k l0 hl0
          have hs0 : wr.cell? ⟨sb, k, none⟩ = some (.int .i64 0) := by rw [cell_of_row _ _ _ _ _ _ hsz]; exact HC5.out k hkl
          obtain ⟨fn, tmps, assign, body, hy, hR⟩ := HHY.out _ (bs l0) wr hJs (by simp; omega)
          have HK := Lib.hid hkp
          have HN := Lib.hid (show (L.take (k + 1)).map bs = (L.take k).map bs ++ [bs l0] by rw [List.take_add_one, hl0]; simp)
          clear hrow hsz hkp
          gi_wp2
          refine hR.mono ?_
          rintro e W3 (⟨rfl, hJ3, hk3⟩ | ⟨rfl, hJx3⟩)
          · gi_wp2
            go_roundw
            case rel => exact ⟨k + 1, by omega, by push_cast; rfl, by rw [HN.out]; exact hJ3, HK.out.trans hk3⟩
            case measure => simp [intOf]; omega
          · gi_wp2
            refine bodyPost_ret (results_none rfl _ _ _) rfl ?_
            exact ⟨⟨_, rfl⟩, .inr ⟨_, hJx3⟩⟩
        · obtain rfl : k = size D := by omega
          gi_wp2
          go_end0
          refine ⟨⟨_, rfl⟩, .inl ⟨_, ?_, hJs⟩⟩
          simp; omega
end Go.Proofs.Yteoggphafhcchaa
