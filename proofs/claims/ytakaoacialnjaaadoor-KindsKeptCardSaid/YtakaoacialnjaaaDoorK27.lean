import Derived.Test.YtakaoacialnjaaaDoorK26
import Derived.BigRegion
namespace Go.Proofs.YtakaoacialnjaaaDoor
open Go Go.RowKit
set_option linter.unusedVariables false
def l0 (l : List (Int × Bool)) (i : Nat) : Int × Bool := l.getD i (0, false)
def setR (l : List (Int × Bool)) : (Int × Bool) × Bool := if l.all (fun k => k.1 == 3) then ((5, false), true) else ((0, false), false)
/-- The reference's kind of an operator over its kids' kinds. -/
def oneR (op : Int) (l : List (Int × Bool)) : (Int × Bool) × Bool :=
  if op = 1 ∨ op = 30 then ((1, false), true) else if op = 2 ∨ op = 25 ∨ op = 26 ∨ op = 24 then ((2, false), true) else if op = 3 then ((3, false), true) else if op = 29 then ((4, false), true)
  else if op = 4 then ((0, true), true)
  else if op = 6 then setR l
  else if op = 7 then ((1, false), (l0 l 0).1 == 1) else if op = 8 then ((2, false), (l0 l 0).1 == 2) else if op = 27 then ((1, false), (l0 l 0).1 == 3 || (l0 l 0).1 == 5)
  else if op = 23 then (((bothK (l0 l 1) (l0 l 2)).1, (l0 l 1).2 || (l0 l 2).2), (bothK (l0 l 1) (l0 l 2)).2 && (l0 l 0).1 == 2)
  else if op = 33 then (((bothK (l0 l 0) (l0 l 1)).1, (l0 l 1).2), (bothK (l0 l 0) (l0 l 1)).2)
  else if op = 11 ∨ op = 12 then ((2, false), (bothK (l0 l 0) (l0 l 1)).2 && !(((l0 l 0).1 == 0 && !(l0 l 1).2) || ((l0 l 1).1 == 0 && !(l0 l 0).2)))
  else ((binK op (l0 l 0).1 (l0 l 1).1, false), decide (0 < binK op (l0 l 0).1 (l0 l 1).1))
set_option maxRecDepth 100000 in
set_option maxHeartbeats 2000000 in
theorem oc1 (w : World) (a : Option Addr) (n c : Nat) : Calls Tryd.prog 40 #[.int .i64 1, .slice a n c] w fun e w' => KindOut e ((1, false), true) ∧ Below w.heap.size w w' := by
  go_enter Tryd.func40, Tryd.ntmps40
  go_wp2
  exact bodyPost_ret (v := .tuple #[.agg #[.int .i64 1, .bool false], .bool true]) (by simp [results, Tryd.results40, go_sem]) rfl ⟨rfl, (Below.refl _ _).alloc (Nat.le_refl _) _⟩
set_option maxRecDepth 100000 in
set_option maxHeartbeats 2000000 in
theorem oc30 (w : World) (a : Option Addr) (n c : Nat) : Calls Tryd.prog 40 #[.int .i64 30, .slice a n c] w fun e w' => KindOut e ((1, false), true) ∧ Below w.heap.size w w' := by
  go_enter Tryd.func40, Tryd.ntmps40
  go_wp2
  exact bodyPost_ret (v := .tuple #[.agg #[.int .i64 1, .bool false], .bool true]) (by simp [results, Tryd.results40, go_sem]) rfl ⟨rfl, (Below.refl _ _).alloc (Nat.le_refl _) _⟩
set_option maxRecDepth 100000 in
set_option maxHeartbeats 2000000 in
theorem oc2 (w : World) (a : Option Addr) (n c : Nat) : Calls Tryd.prog 40 #[.int .i64 2, .slice a n c] w fun e w' => KindOut e ((2, false), true) ∧ Below w.heap.size w w' := by
  go_enter Tryd.func40, Tryd.ntmps40
  go_wp2
  exact bodyPost_ret (v := .tuple #[.agg #[.int .i64 2, .bool false], .bool true]) (by simp [results, Tryd.results40, go_sem]) rfl ⟨rfl, (Below.refl _ _).alloc (Nat.le_refl _) _⟩
set_option maxRecDepth 100000 in
set_option maxHeartbeats 2000000 in
theorem oc25 (w : World) (a : Option Addr) (n c : Nat) : Calls Tryd.prog 40 #[.int .i64 25, .slice a n c] w fun e w' => KindOut e ((2, false), true) ∧ Below w.heap.size w w' := by
  go_enter Tryd.func40, Tryd.ntmps40
  go_wp2
  exact bodyPost_ret (v := .tuple #[.agg #[.int .i64 2, .bool false], .bool true]) (by simp [results, Tryd.results40, go_sem]) rfl ⟨rfl, (Below.refl _ _).alloc (Nat.le_refl _) _⟩
set_option maxRecDepth 100000 in
set_option maxHeartbeats 2000000 in
theorem oc26 (w : World) (a : Option Addr) (n c : Nat) : Calls Tryd.prog 40 #[.int .i64 26, .slice a n c] w fun e w' => KindOut e ((2, false), true) ∧ Below w.heap.size w w' := by
  go_enter Tryd.func40, Tryd.ntmps40
  go_wp2
  exact bodyPost_ret (v := .tuple #[.agg #[.int .i64 2, .bool false], .bool true]) (by simp [results, Tryd.results40, go_sem]) rfl ⟨rfl, (Below.refl _ _).alloc (Nat.le_refl _) _⟩
set_option maxRecDepth 100000 in
set_option maxHeartbeats 2000000 in
theorem oc24 (w : World) (a : Option Addr) (n c : Nat) : Calls Tryd.prog 40 #[.int .i64 24, .slice a n c] w fun e w' => KindOut e ((2, false), true) ∧ Below w.heap.size w w' := by
  go_enter Tryd.func40, Tryd.ntmps40
  go_wp2
  exact bodyPost_ret (v := .tuple #[.agg #[.int .i64 2, .bool false], .bool true]) (by simp [results, Tryd.results40, go_sem]) rfl ⟨rfl, (Below.refl _ _).alloc (Nat.le_refl _) _⟩
set_option maxRecDepth 100000 in
set_option maxHeartbeats 2000000 in
theorem oc3 (w : World) (a : Option Addr) (n c : Nat) : Calls Tryd.prog 40 #[.int .i64 3, .slice a n c] w fun e w' => KindOut e ((3, false), true) ∧ Below w.heap.size w w' := by
  go_enter Tryd.func40, Tryd.ntmps40
  go_wp2
  exact bodyPost_ret (v := .tuple #[.agg #[.int .i64 3, .bool false], .bool true]) (by simp [results, Tryd.results40, go_sem]) rfl ⟨rfl, (Below.refl _ _).alloc (Nat.le_refl _) _⟩
set_option maxRecDepth 100000 in
set_option maxHeartbeats 2000000 in
theorem oc29 (w : World) (a : Option Addr) (n c : Nat) : Calls Tryd.prog 40 #[.int .i64 29, .slice a n c] w fun e w' => KindOut e ((4, false), true) ∧ Below w.heap.size w w' := by
  go_enter Tryd.func40, Tryd.ntmps40
  go_wp2
  exact bodyPost_ret (v := .tuple #[.agg #[.int .i64 4, .bool false], .bool true]) (by simp [results, Tryd.results40, go_sem]) rfl ⟨rfl, (Below.refl _ _).alloc (Nat.le_refl _) _⟩
set_option maxRecDepth 100000 in
set_option maxHeartbeats 2000000 in
theorem oc4 (w : World) (a : Option Addr) (n c : Nat) : Calls Tryd.prog 40 #[.int .i64 4, .slice a n c] w fun e w' => KindOut e ((0, true), true) ∧ Below w.heap.size w w' := by
  go_enter Tryd.func40, Tryd.ntmps40
  go_wp2
  exact bodyPost_ret (v := .tuple #[.agg #[.int .i64 0, .bool true], .bool true]) (by simp [results, Tryd.results40, go_sem]) rfl ⟨rfl, (Below.refl _ _).alloc (Nat.le_refl _) _⟩
set_option maxRecDepth 100000 in
set_option maxHeartbeats 2000000 in
theorem oset (w : World) (a : Option Addr) (n c : Nat) (l : List (Int × Bool)) (h : RS 2 Kd w a n c l) : Calls Tryd.prog 40 #[.int .i64 6, .slice a n c] w fun e w' => KindOut e (setR l) ∧ Below w.heap.size w w' := by
  have hlen := h.1
  have hn := h.2.2.1
  have b1 : Below w.heap.size w (w.alloc (.cells #[.int .i64 0, .bool false] 72)) := (Below.refl _ _).alloc (Nat.le_refl _) _
  have g1 := heap_alloc_new w (.cells #[.int .i64 0, .bool false] 72)
  have HR := Lib.hid (h.below b1)
  have hs : w.heap.size < (w.alloc (.cells #[.int .i64 0, .bool false] 72)).heap.size := by simp
  have HB := Lib.hid b1
  clear h b1
  go_enter Tryd.func40, Tryd.ntmps40
  go_wp2
  generalize w.alloc (.cells #[.int .i64 0, .bool false] 72) = w3 at *
  have c1 := cell_of_row w3 _ 0 _ _ _ g1
  have c1' := cell_of_row w3 _ 1 _ _ _ g1
  have f1 := frozen_of_row w3 _ 0 _ _ g1
  have f1' := frozen_of_row w3 _ 1 _ _ g1
  simp only [List.getElem?_toArray, List.getElem?_cons_zero, List.getElem?_cons_succ] at c1 c1'
  go_loop [6] (fun i => ∃ k : Nat, k ≤ n ∧ i = .int .i64 k ∧ (l.take k).all (fun k => k.1 == 3) = true) (fun i => n - (intOf i).toNat)
  case atStart => exact ⟨0, by omega, rfl, rfl⟩
  case round =>
    obtain ⟨k, hk, rfl, ha⟩ := hrel
    have HA := Lib.hid ha
    clear ha
    by_cases hlt : k < n
    · obtain ⟨b, off, x, rfl, hx, hcl⟩ := HR.out.at hlt
      have x0 := hcl 0 _ rfl
      simp only [Nat.add_zero] at x0
      have hltI : (k : Int) < (n : Int) := by omega
      have HX := Lib.hid hx
      clear hcl hx
      cases hx3 : (x.1 == 3)
      · have hn3 : (x.1 != 3) = true := by simp [bne, hx3]
        have H := Lib.hid (show l.all (fun k => k.1 == 3) = false by
          rw [List.all_eq_false]; exact ⟨x, List.mem_of_getElem? HX.out, by simp [hx3]⟩)
        go_wp2
        exact bodyPost_ret (v := .tuple #[.agg #[.int .i64 0, .bool false], .bool false]) (by simp [results, Tryd.results40, go_sem, c1, c1']) rfl ⟨by rw [setR, H.out]; rfl, below_set2 HB.out _ (Nat.le_refl _) _ _⟩
      · have hn3 : (x.1 != 3) = false := by simp [bne, hx3]
        have H := Lib.hid (show (l.take (k + 1)).all (fun k => k.1 == 3) = true by rw [List.take_add_one, HX.out, List.all_append, HA.out]; simp [hx3])
        go_wp2
        go_round
        case rel => exact ⟨k + 1, by omega, by go_num, H.out⟩
        case measure => simp [intOf]; omega
    · have hltI : ¬ (k : Int) < (n : Int) := by omega
      have H := Lib.hid (show l.all (fun k => k.1 == 3) = true by have := HA.out; rwa [List.take_of_length_le (by omega)] at this)
      go_wp2
      exact bodyPost_ret (v := .tuple #[.agg #[.int .i64 5, .bool false], .bool true]) (by simp [results, Tryd.results40, go_sem, c1, c1']) rfl ⟨by rw [setR, H.out]; rfl, below_set2 HB.out _ (Nat.le_refl _) _ _⟩
set_option maxRecDepth 100000 in
set_option maxHeartbeats 2000000 in
theorem op7 (w : World) (a : Option Addr) (n c : Nat) (xb : Int) (xo : Bool) (l : List (Int × Bool)) (h : RS 2 Kd w a n c l) (h0 : l[0]? = some (xb, xo)) : Calls Tryd.prog 40 #[.int .i64 7, .slice a n c] w fun e w' => KindOut e ((1, false), xb == 1) ∧ Below w.heap.size w w' := by
  have hlen := h.1
  have hn : 0 < n := by have := (List.getElem?_eq_some_iff.1 h0).1; omega
  obtain ⟨b, off, rfl, hcl⟩ := h.addr hn
  have x0 := hcl 0 _ h0 0 _ rfl
  have hbl := block_lt_of_cell x0
  simp only [Nat.add_zero, Nat.zero_mul] at x0 hbl
  have hnI : (0 : Int) < (n : Int) := by omega
  clear hcl h h0
  go_enter Tryd.func40, Tryd.ntmps40
  go_wp2
  go_region
  all_goals go_wp2
  all_goals exact bodyPost_ret (v := .tuple #[.agg #[.int .i64 1, .bool false], .bool (xb == 1)]) (by simp [results, Tryd.results40, go_sem]) rfl ⟨rfl, ((Below.refl _ _).alloc (Nat.le_refl _) _).drew⟩
set_option maxRecDepth 100000 in
set_option maxHeartbeats 2000000 in
theorem op8 (w : World) (a : Option Addr) (n c : Nat) (xb : Int) (xo : Bool) (l : List (Int × Bool)) (h : RS 2 Kd w a n c l) (h0 : l[0]? = some (xb, xo)) : Calls Tryd.prog 40 #[.int .i64 8, .slice a n c] w fun e w' => KindOut e ((2, false), xb == 2) ∧ Below w.heap.size w w' := by
  have hlen := h.1
  have hn : 0 < n := by have := (List.getElem?_eq_some_iff.1 h0).1; omega
  obtain ⟨b, off, rfl, hcl⟩ := h.addr hn
  have x0 := hcl 0 _ h0 0 _ rfl
  have hbl := block_lt_of_cell x0
  simp only [Nat.add_zero, Nat.zero_mul] at x0 hbl
  have hnI : (0 : Int) < (n : Int) := by omega
  clear hcl h h0
  go_enter Tryd.func40, Tryd.ntmps40
  go_wp2
  go_region
  all_goals go_wp2
  all_goals exact bodyPost_ret (v := .tuple #[.agg #[.int .i64 2, .bool false], .bool (xb == 2)]) (by simp [results, Tryd.results40, go_sem]) rfl ⟨rfl, ((Below.refl _ _).alloc (Nat.le_refl _) _).drew⟩
set_option maxRecDepth 100000 in
set_option maxHeartbeats 2000000 in
theorem op27 (w : World) (a : Option Addr) (n c : Nat) (xb : Int) (xo : Bool) (l : List (Int × Bool)) (h : RS 2 Kd w a n c l) (h0 : l[0]? = some (xb, xo)) : Calls Tryd.prog 40 #[.int .i64 27, .slice a n c] w fun e w' => KindOut e ((1, false), xb == 3 || xb == 5) ∧ Below w.heap.size w w' := by
  have hlen := h.1
  have hn : 0 < n := by have := (List.getElem?_eq_some_iff.1 h0).1; omega
  obtain ⟨b, off, rfl, hcl⟩ := h.addr hn
  have x0 := hcl 0 _ h0 0 _ rfl
  have hbl := block_lt_of_cell x0
  simp only [Nat.add_zero, Nat.zero_mul] at x0 hbl
  have hnI : (0 : Int) < (n : Int) := by omega
  clear hcl h h0
  cases e3 : (xb == 3)
  · go_enter Tryd.func40, Tryd.ntmps40
    go_wp2
    go_region
    all_goals go_wp2
    all_goals exact bodyPost_ret (v := .tuple #[.agg #[.int .i64 1, .bool false], .bool (xb == 5)]) (by simp [results, Tryd.results40, go_sem]) rfl ⟨by first | rfl | (rw [e3]; rfl), ((Below.refl _ _).alloc (Nat.le_refl _) _).drew⟩
  · go_enter Tryd.func40, Tryd.ntmps40
    go_wp2
    go_region
    all_goals go_wp2
    all_goals exact bodyPost_ret (v := .tuple #[.agg #[.int .i64 1, .bool false], .bool true]) (by simp [results, Tryd.results40, go_sem]) rfl ⟨by first | rfl | (rw [e3]; rfl), ((Below.refl _ _).alloc (Nat.le_refl _) _).drew⟩
end Go.Proofs.YtakaoacialnjaaaDoor
