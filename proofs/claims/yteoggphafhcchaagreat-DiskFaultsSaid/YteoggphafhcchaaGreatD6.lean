import Derived.Test.YteoggphafhcchaaGreatM5
import Derived.Maps.OwnOps
namespace Go.Proofs.YteoggphafhcchaaGreat
open Go Go.RowKit
set_option maxRecDepth 100000
set_option maxHeartbeats 4000000
set_option linter.unusedVariables false
set_option linter.unusedSimpArgs false
open Go.Maps Go.WideMaps
/-- A change of names, as the program holds it. -/
abbrev chA (f t : ByteArray) (m : Value) : Value := .agg #[.string f, .string t, m]
abbrev boxC (f t : ByteArray) (m : Value) : Obj := .cells #[.string f, .string t, m] 79
theorem box3 {w : World} {g : Nat} {x0 x1 x2 : Value} {t : TypeId} (h : w.heap[g]? = some (.cells #[x0, x1, x2] t (0, 0))) :
    w.cell? ⟨g, 0, none⟩ = some x0 ∧ w.cell? ⟨g, 1, none⟩ = some x1 ∧ w.cell? ⟨g, 2, none⟩ = some x2 := by
  refine ⟨?_, ?_, ?_⟩ <;> (rw [cell_of_row _ _ _ _ _ _ h]; rfl)
theorem do_make (w : World) (nb n : Nat) (D : DataW Unit) (hm : w.ownsMap Tryz.prog 9 ptrR nb n D) (hn : n < 1000000) (f t : ByteArray) (ht : t.size ≤ maxLen) (ht0 : (t.toList == []) = false) (g : Nat) :
    Calls Tryz.prog 30 #[chA f t (.pointer (some ⟨g, 0, none⟩)), .map (some nb)] w fun e w' => e = .returned (.tuple #[]) ∧ w'.ownsMap Tryz.prog 9 ptrR nb (n + 1) (D.put (kL t) (.lit (.int .i64 g))) ∧ w.grownBy w' (some nb) := by
  obtain ⟨w1, hw1⟩ : ∃ w1, w1 = w.alloc (boxC f t (.pointer (some ⟨g, 0, none⟩))) := ⟨_, rfl⟩
  have g1 : w1.heap[w.heap.size]? = some (boxC f t (.pointer (some ⟨g, 0, none⟩))) := by rw [hw1]; exact heap_alloc_new w _
  have hgr : w.grownBy w1 none := by rw [hw1]; exact World.grownBy_alloc w _ none
  have HM := Lib.hid (show w1.ownsMap Tryz.prog 9 ptrR nb n D from hm.kept hgr (by simp))
  have HGR := Lib.hid (show w.grownBy w1 (some nb) by rw [hw1]; exact World.grownBy_alloc w _ _)
  obtain ⟨c0, c1, c2⟩ := box3 g1
  clear hm g1 hgr
  go_enter Tryz.func30, Tryz.ntmps30
  go_upto_region 1 with (fail)
  rw [← hw1]
  clear hw1
  go_wp2_with (at_mapUpdate; refine wpList_mapUpdate_own _ rfl _ _ _ 43 rfl 9 76 law9 Tryz.underlying43 ptrR nb n D rfl HM.out (by unfold maxLen; omega) _ _ (kL t) rfl rfl (key9 ht) (.lit (.int .i64 g)) [] rfl ?_; intro w2 hown2 hgrow2)
  go_end0
  exact ⟨rfl, hown2, HGR.out.trans hgrow2⟩
theorem del_ptr {D : DataW Unit} (g : Nat) : ptrR (.pointer (some ⟨g, 0, none⟩)) = some (.lit (.int .i64 (g : Int)), []) := rfl
theorem do_move (w : World) (nb n : Nat) (D : DataW Unit) (hm : w.ownsMap Tryz.prog 9 ptrR nb n D) (hn : n < 1000000) (f t : ByteArray) (hf : f.size ≤ maxLen) (ht : t.size ≤ maxLen) (ht0 : (t.toList == []) = false) (g : Nat) (hg : at? D f = .lit (.int .i64 g)) :
    Calls Tryz.prog 30 #[chA f t (.pointer none), .map (some nb)] w fun e w' => e = .returned (.tuple #[]) ∧ w'.ownsMap Tryz.prog 9 ptrR nb (n + 1) ((D.del (kL f)).put (kL t) (.lit (.int .i64 g))) ∧ w.grownBy w' (some nb) := by
  obtain ⟨w1, hw1⟩ : ∃ w1, w1 = w.alloc (boxC f t (.pointer none)) := ⟨_, rfl⟩
  have g1 : w1.heap[w.heap.size]? = some (boxC f t (.pointer none)) := by rw [hw1]; exact heap_alloc_new w _
  have hgr : w.grownBy w1 none := by rw [hw1]; exact World.grownBy_alloc w _ none
  have hm1 : w1.ownsMap Tryz.prog 9 ptrR nb n D := hm.kept hgr (by simp)
  have HM := Lib.hid hm1
  have HGR := Lib.hid (show w.grownBy w1 (some nb) by rw [hw1]; exact World.grownBy_alloc w _ _)
  obtain ⟨c0, c1, c2⟩ := box3 g1
  have hlk := (look_ptr hm1 hf).1
  rw [hg] at hlk
  have hlk' : (Instr.lookup 43 (.map (some nb)) (.string f) false).run Tryz.prog w1 = .ok (.pointer (some ⟨g, 0, none⟩)) w1 := hlk
  have hne : nb ≠ w.heap.size := fun e => by have := hm.lt; omega
  have G1 := Lib.hid g1
  clear hm g1 hgr hlk hm1 hg
  go_enter Tryz.func30, Tryz.ntmps30
  go_upto_region 1 with (fail)
  rw [← hw1]
  clear hw1
  go_wp2_with (first
    | (at_delete; refine wpList_delete_own _ rfl _ _ 43 9 rfl 76 law9 Tryz.underlying43 ptrR nb n D rfl HM.out _ (kL f) rfl (key9 hf) ?_; intro w2 hown2 hturn2; have HM2 := Lib.hid hown2; have HGR2 := Lib.hid (HGR.out.trans hturn2.grown); obtain ⟨e0, e1, e2⟩ := box3 ((hturn2.grown.block w.heap.size (Array.getElem?_eq_some_iff.1 G1.out).1 (fun e => hne (Option.some.inj e).symm)).trans G1.out); clear hown2 hturn2 c0 c1 c2 hlk')
    | (at_mapUpdate; refine wpList_mapUpdate_own _ rfl _ _ _ 43 rfl 9 76 law9 Tryz.underlying43 ptrR nb n _ rfl HM2.out (by unfold maxLen; omega) _ _ (kL t) rfl rfl (key9 ht) (.lit (.int .i64 g)) [] rfl ?_; intro w3 hown3 hgrow3))
  go_end0
  exact ⟨rfl, hown3, HGR2.out.trans hgrow3⟩
theorem do_drop (w : World) (nb n : Nat) (D : DataW Unit) (hm : w.ownsMap Tryz.prog 9 ptrR nb n D) (f : ByteArray) (hf : f.size ≤ maxLen) :
    Calls Tryz.prog 30 #[chA f ByteArray.empty (.pointer none), .map (some nb)] w fun e w' => e = .returned (.tuple #[]) ∧ w'.ownsMap Tryz.prog 9 ptrR nb n (D.del (kL f)) ∧ w.grownBy w' (some nb) := by
  obtain ⟨w1, hw1⟩ : ∃ w1, w1 = w.alloc (boxC f ByteArray.empty (.pointer none)) := ⟨_, rfl⟩
  have g1 : w1.heap[w.heap.size]? = some (boxC f ByteArray.empty (.pointer none)) := by rw [hw1]; exact heap_alloc_new w _
  have hgr : w.grownBy w1 none := by rw [hw1]; exact World.grownBy_alloc w _ none
  have hm1 : w1.ownsMap Tryz.prog 9 ptrR nb n D := hm.kept hgr (by simp)
  have HM := Lib.hid hm1
  have HGR := Lib.hid (show w.grownBy w1 (some nb) by rw [hw1]; exact World.grownBy_alloc w _ _)
  obtain ⟨c0, c1, c2⟩ := box3 g1
  have hlk := (look_ptr hm1 hf).1
  obtain ⟨pv, hpv⟩ : ∃ pv, pv = ptrOf (at? D f) := ⟨_, rfl⟩
  rw [← hpv] at hlk
  have hne : nb ≠ w.heap.size := fun e => by have := hm.lt; omega
  have G1 := Lib.hid g1
  clear hm g1 hgr hm1 hpv
  go_enter Tryz.func30, Tryz.ntmps30
  go_upto_region 1 with (fail)
  rw [← hw1]
  clear hw1
  go_wp2_with (at_delete; refine wpList_delete_own _ rfl _ _ 43 9 rfl 76 law9 Tryz.underlying43 ptrR nb n D rfl HM.out _ (kL f) rfl (key9 hf) ?_; intro w2 hown2 hturn2; have HM2 := Lib.hid hown2; have HGR2 := Lib.hid (HGR.out.trans hturn2.grown); obtain ⟨e0, e1, e2⟩ := box3 ((hturn2.grown.block w.heap.size (Array.getElem?_eq_some_iff.1 G1.out).1 (fun e => hne (Option.some.inj e).symm)).trans G1.out); clear hown2 hturn2 c0 c1 c2 hlk)
  go_end0
  exact ⟨rfl, HM2.out, HGR2.out⟩
end Go.Proofs.YteoggphafhcchaaGreat
