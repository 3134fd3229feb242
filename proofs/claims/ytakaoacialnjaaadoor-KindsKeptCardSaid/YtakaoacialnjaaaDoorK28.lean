import Derived.Test.YtakaoacialnjaaaDoorK27
import Derived.BigRegion
namespace Go.Proofs.YtakaoacialnjaaaDoor
open Go Go.RowKit
set_option linter.unusedVariables false
theorem keepg {w w' : World} (hb : Below w.heap.size w w') {b o : Nat} {v : Value} (h : w.cell? ⟨b, o, none⟩ = some v) : w'.cell? ⟨b, o, none⟩ = some v := (hb.cell (p := ⟨b, o, none⟩) (block_lt_of_cell h)).trans h
/-- Default: both parts give the base, the second one says whether it may be nothing. -/
def defR (x y : Int × Bool) : (Int × Bool) × Bool := (((bothK x y).1, y.2), (bothK x y).2)
set_option maxRecDepth 100000 in
set_option maxHeartbeats 4000000 in
theorem odef (w : World) (a : Option Addr) (n c : Nat) (xb yb : Int) (xo yo : Bool) (l : List (Int × Bool)) (h : RS 2 Kd w a n c l) (h0 : l[0]? = some (xb, xo)) (h1 : l[1]? = some (yb, yo)) :
    Calls Tryd.prog 40 #[.int .i64 33, .slice a n c] w fun e w' => KindOut e (defR (xb, xo) (yb, yo)) ∧ Below w.heap.size w w' := by
  have hlen := h.1
  have hn : 1 < n := by have := (List.getElem?_eq_some_iff.1 h1).1; omega
  obtain ⟨b, off, rfl, hcl⟩ := h.addr (by omega)
  have x0 := hcl 0 _ h0 0 _ rfl
  have x1 := hcl 0 _ h0 1 _ rfl
  have y0 := hcl 1 _ h1 0 _ rfl
  have y1 := hcl 1 _ h1 1 _ rfl
  simp only [Nat.add_zero, Nat.zero_mul, Nat.one_mul] at x0 x1 y0 y1
  have hn0 : (0 : Int) < (n : Int) := by omega
  have hnN : 0 < n := by omega
  have hn1 : (1 : Int) < (n : Int) := by omega
  have bw : Below w.heap.size w (w.alloc (.cells #[.int .i64 0, .bool false] 72)) := (Below.refl _ _).alloc (Nat.le_refl _) _
  have g1 := heap_alloc_new w (.cells #[.int .i64 0, .bool false] 72)
  have hs : w.heap.size < (w.alloc (.cells #[.int .i64 0, .bool false] 72)).heap.size := by simp
  replace x0 := keepg bw x0
  replace x1 := keepg bw x1
  replace y0 := keepg bw y0
  replace y1 := keepg bw y1
  have HB := Lib.hid bw
  clear hcl h h0 h1 bw
  go_enter Tryd.func40, Tryd.ntmps40
  go_wp2_with fail
  generalize w.alloc (.cells #[.int .i64 0, .bool false] 72) = w3 at *
  go_region_held3 (fun w' => w'.cell? ⟨b, off, none⟩ = some (.int .i64 xb) ∧ w'.cell? ⟨b, off + 1, none⟩ = some (.bool xo) ∧ w'.cell? ⟨b, off + 2, none⟩ = some (.int .i64 yb) ∧ w'.cell? ⟨b, off + 2 + 1, none⟩ = some (.bool yo))
    (first | exact ⟨x0, x1, y0, y1⟩ | exact ⟨keepg hb x0, keepg hb x1, keepg hb y0, keepg hb y1⟩)
    (first | (go_at_call 54; refine (both_any w3.drew xb yb xo yo).mono ?_; rintro e w4 ⟨he, hb⟩; unfold BothOut at he; subst he))
  have hb' : Below w3.heap.size w3 w4 := (Below.refl _ _).drew.trans hb
  have y1' := keepg hb' y1
  have g1' := (hb'.block w.heap.size hs).trans g1
  have c1 := cell_of_row w4 _ 0 _ _ _ g1'
  have c1' := cell_of_row w4 _ 1 _ _ _ g1'
  have f1 := frozen_of_row w4 _ 0 _ _ g1'
  have f1' := frozen_of_row w4 _ 1 _ _ g1'
  simp only [List.getElem?_toArray, List.getElem?_cons_zero, List.getElem?_cons_succ] at c1 c1'
  have HB4 := Lib.hid (HB.out.trans (hb'.mono HB.out.size))
  clear x0 x1 y0 y1 g1 g1' hb hb'
  go_wp2
  exact bodyPost_ret (v := .tuple #[.agg #[.int .i64 (bothK (xb, xo) (yb, yo)).1, .bool yo], .bool (bothK (xb, xo) (yb, yo)).2]) (by simp [results, Tryd.results40, go_sem, c1, c1']) rfl ⟨rfl, below_set2 HB4.out _ (Nat.le_refl _) _ _⟩
end Go.Proofs.YtakaoacialnjaaaDoor
