import Derived.Test.YtakaoacialnjaaaDoorK28
import Derived.BigRegion
namespace Go.Proofs.YtakaoacialnjaaaDoor
open Go Go.RowKit
set_option linter.unusedVariables false
def ifR (x y z : Int × Bool) : (Int × Bool) × Bool := (((bothK y z).1, y.2 || z.2), (bothK y z).2 && x.1 == 2)
set_option maxRecDepth 100000 in
set_option maxHeartbeats 4000000 in
theorem oif (w : World) (a : Option Addr) (n c : Nat) (xb yb zb : Int) (xo yo zo : Bool) (l : List (Int × Bool)) (h : RS 2 Kd w a n c l) (h0 : l[0]? = some (xb, xo)) (h1 : l[1]? = some (yb, yo)) (h2 : l[2]? = some (zb, zo)) :
    Calls Tryd.prog 40 #[.int .i64 23, .slice a n c] w fun e w' => KindOut e (ifR (xb, xo) (yb, yo) (zb, zo)) ∧ Below w.heap.size w w' := by
  have hlen := h.1
  have hn : 2 < n := by have := (List.getElem?_eq_some_iff.1 h2).1; omega
  obtain ⟨b, off, rfl, hcl⟩ := h.addr (by omega)
  have x0 := hcl 0 _ h0 0 _ rfl
  have x1 := hcl 0 _ h0 1 _ rfl
  have y0 := hcl 1 _ h1 0 _ rfl
  have y1 := hcl 1 _ h1 1 _ rfl
  have z0 := hcl 2 _ h2 0 _ rfl
  have z1 := hcl 2 _ h2 1 _ rfl
  simp only [Nat.add_zero, Nat.zero_mul, Nat.one_mul, Nat.reduceMul] at x0 x1 y0 y1 z0 z1
  have hn0 : (0 : Int) < (n : Int) := by omega
  have hnN : 0 < n := by omega
  have hn1 : (1 : Int) < (n : Int) := by omega
  have hn2 : (2 : Int) < (n : Int) := by omega
  have bw : Below w.heap.size w (w.alloc (.cells #[.int .i64 0, .bool false] 72)) := (Below.refl _ _).alloc (Nat.le_refl _) _
  have g1 := heap_alloc_new w (.cells #[.int .i64 0, .bool false] 72)
  have hs : w.heap.size < (w.alloc (.cells #[.int .i64 0, .bool false] 72)).heap.size := by simp
  replace x0 := keepg bw x0
  replace x1 := keepg bw x1
  replace y0 := keepg bw y0
  replace y1 := keepg bw y1
  replace z0 := keepg bw z0
  replace z1 := keepg bw z1
  have HB := Lib.hid bw
  have HBN := Lib.hid (show b ≠ w.heap.size by have := block_lt_of_cell (hcl 0 _ h0 0 _ rfl); simp only at this; omega)
  clear hcl h h0 h1 h2 bw
  go_enter Tryd.func40, Tryd.ntmps40
  go_wp2_with fail
  generalize w.alloc (.cells #[.int .i64 0, .bool false] 72) = w3 at *
  go_region_held3 (fun w' => w'.cell? ⟨b, off + 2, none⟩ = some (.int .i64 yb) ∧ w'.cell? ⟨b, off + 2 + 1, none⟩ = some (.bool yo) ∧ w'.cell? ⟨b, off + 4, none⟩ = some (.int .i64 zb) ∧ w'.cell? ⟨b, off + 4 + 1, none⟩ = some (.bool zo))
    (first | exact ⟨y0, y1, z0, z1⟩ | exact ⟨keepg hb y0, keepg hb y1, keepg hb z0, keepg hb z1⟩)
    (first | (go_at_call 54; refine (both_any w3.drew yb zb yo zo).mono ?_; rintro e w4 ⟨he, hb⟩; unfold BothOut at he; subst he))
  have hb' : Below w3.heap.size w3 w4 := (Below.refl _ _).drew.trans hb
  replace x0 := keepg hb' x0
  replace y1 := keepg hb' y1
  replace z1 := keepg hb' z1
  have g1' := (hb'.block w.heap.size hs).trans g1
  have c1 := cell_of_row w4 _ 0 _ _ _ g1'
  have c1' := cell_of_row w4 _ 1 _ _ _ g1'
  have f1 := frozen_of_row w4 _ 0 _ _ g1'
  have f1' := frozen_of_row w4 _ 1 _ _ g1'
  simp only [List.getElem?_toArray, List.getElem?_cons_zero, List.getElem?_cons_succ] at c1 c1'
  have HB4 := Lib.hid (HB.out.trans (hb'.mono HB.out.size))
  generalize hq : bothK (yb, yo) (zb, zo) = q
  obtain ⟨qb, qk⟩ := q
  have H1 := Lib.hid (show ifR (xb, xo) (yb, yo) (zb, zo) = ((qb, yo || zo), qk && xb == 2) by simp only [ifR, hq])
  have hbw := block_lt_of_cell x0
  have hz : w.heap.size < w4.heap.size := Nat.lt_of_lt_of_le hs hb'.size
  have hzb : b ≠ w.heap.size := HBN.out
  clear g1 g1' hb hb' hq x1 y0 z0
  cases qk <;> cases yo
  all_goals
    go_wp2_with fail
    go_region
    all_goals go_wp2
    all_goals first
      | (refine bodyPost_ret (v := .tuple #[.agg #[.int .i64 qb, .bool zo], .bool false]) ?_ rfl ⟨?_, (below_set2 HB4.out _ (Nat.le_refl _) _ _).drew⟩
         · simp [results, Tryd.results40, go_sem, c1, c1']
         · rw [H1.out]; simp [KindOut])
      | (refine bodyPost_ret (v := .tuple #[.agg #[.int .i64 qb, .bool zo], .bool (xb == 2)]) ?_ rfl ⟨?_, (below_set2 HB4.out _ (Nat.le_refl _) _ _).drew⟩
         · simp [results, Tryd.results40, go_sem, c1, c1']
         · rw [H1.out]; simp [KindOut])
      | (refine bodyPost_ret (v := .tuple #[.agg #[.int .i64 qb, .bool true], .bool false]) ?_ rfl ⟨?_, (below_set2 HB4.out _ (Nat.le_refl _) _ _).drew⟩
         · simp [results, Tryd.results40, go_sem, c1, c1']
         · rw [H1.out]; simp [KindOut])
      | (refine bodyPost_ret (v := .tuple #[.agg #[.int .i64 qb, .bool true], .bool (xb == 2)]) ?_ rfl ⟨?_, (below_set2 HB4.out _ (Nat.le_refl _) _ _).drew⟩
         · simp [results, Tryd.results40, go_sem, c1, c1']
         · rw [H1.out]; simp [KindOut])
end Go.Proofs.YtakaoacialnjaaaDoor
