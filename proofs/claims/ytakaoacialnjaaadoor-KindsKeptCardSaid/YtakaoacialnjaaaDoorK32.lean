import Derived.Test.YtakaoacialnjaaaDoorK28
namespace Go.Proofs.YtakaoacialnjaaaDoor
open Go Go.RowKit
set_option linter.unusedVariables false
set_option maxRecDepth 100000 in
set_option maxHeartbeats 4000000 in
theorem obin (w : World) (op : Int) (hop : op = 9 ∨ op = 10 ∨ op = 13 ∨ op = 14 ∨ op = 15 ∨ op = 16 ∨ op = 17 ∨ op = 18 ∨ op = 19 ∨ op = 20 ∨ op = 21 ∨ op = 22 ∨ op = 28 ∨ op = 31 ∨ op = 32) (a : Option Addr) (n c : Nat) (xb yb : Int) (xo yo : Bool) (l : List (Int × Bool)) (h : RS 2 Kd w a n c l) (h0 : l[0]? = some (xb, xo)) (h1 : l[1]? = some (yb, yo)) :
    Calls Tryd.prog 40 #[.int .i64 op, .slice a n c] w fun e w' => KindOut e ((binK op xb yb, false), decide (0 < binK op xb yb)) ∧ Below w.heap.size w w' := by
  have hlen := h.1
  have hn : 1 < n := by have := (List.getElem?_eq_some_iff.1 h1).1; omega
  obtain ⟨b, off, rfl, hcl⟩ := h.addr (by omega)
  have x0 := hcl 0 _ h0 0 _ rfl
  have x1 := hcl 0 _ h0 1 _ rfl
  have y0 := hcl 1 _ h1 0 _ rfl
  have y1 := hcl 1 _ h1 1 _ rfl
  simp only [Nat.add_zero, Nat.zero_mul, Nat.one_mul] at x0 x1 y0 y1
  have hn0 : (0 : Int) < (n : Int) := by omega
  have hnN : 0 < n := by omega
  have hn1 : (1 : Int) < (n : Int) := by omega
  have bw : Below w.heap.size w (w.alloc (.cells #[.int .i64 0, .bool false] 72)) := (Below.refl _ _).alloc (Nat.le_refl _) _
  have g1 := heap_alloc_new w (.cells #[.int .i64 0, .bool false] 72)
  have hs : w.heap.size < (w.alloc (.cells #[.int .i64 0, .bool false] 72)).heap.size := by simp
  replace x0 := keepg bw x0
  replace x1 := keepg bw x1
  replace y0 := keepg bw y0
  replace y1 := keepg bw y1
  have HB := Lib.hid bw
  clear hcl h h0 h1 bw
  have e1 : (op == 1) = false := by simp; omega
  have e30 : (op == 30) = false := by simp; omega
  have e2 : (op == 2) = false := by simp; omega
  have e25 : (op == 25) = false := by simp; omega
  have e26 : (op == 26) = false := by simp; omega
  have e24 : (op == 24) = false := by simp; omega
  have e3 : (op == 3) = false := by simp; omega
  have e29 : (op == 29) = false := by simp; omega
  have e4 : (op == 4) = false := by simp; omega
  have e6 : (op == 6) = false := by simp; omega
  have e7 : (op == 7) = false := by simp; omega
  have e8 : (op == 8) = false := by simp; omega
  have e27 : (op == 27) = false := by simp; omega
  have e23 : (op == 23) = false := by simp; omega
  have e33 : (op == 33) = false := by simp; omega
  have e11 : (op == 11) = false := by simp; omega
  have e12 : (op == 12) = false := by simp; omega
  have HOP := Lib.hid hop
  clear hop
  go_enter Tryd.func40, Tryd.ntmps40
  go_wp2_with fail
  generalize w.alloc (.cells #[.int .i64 0, .bool false] 72) = w3 at *
  have c1 := cell_of_row w3 _ 0 _ _ _ g1
  have c1' := cell_of_row w3 _ 1 _ _ _ g1
  have f1 := frozen_of_row w3 _ 0 _ _ g1
  have f1' := frozen_of_row w3 _ 1 _ _ g1
  simp only [List.getElem?_toArray, List.getElem?_cons_zero, List.getElem?_cons_succ] at c1 c1'
  clear g1 x1 y1
  go_quiet ((go_at_call 56; exact Calls.quiet_of_same ((binary_any _ op xb yb HOP.out).mono fun _ _ ⟨p, q⟩ => ⟨p, q.symm⟩)))
  go_wp2
  exact bodyPost_ret (v := .tuple #[.agg #[.int .i64 (binK op xb yb), .bool false], .bool (decide (0 < binK op xb yb))]) (by simp [results, Tryd.results40, go_sem, c1, c1']) rfl ⟨rfl, below_set2 (below_drewN HB.out _) _ (Nat.le_refl _) _ _⟩
end Go.Proofs.YtakaoacialnjaaaDoor
