import Derived.Laws.Tables
import Derived.Great.FillDense
import Derived.Shelf.Abstract
import Derived.Test.YtoboabkaojfbaaaGreatDoorQ15
import Derived.Test.YtoboabkaojfbaaaGreatDoorQ24
import Derived.Test.YtoboabkaojfbaaaGreatDoorQ22
namespace Go.Proofs.YtoboabkaojfbaaaGreatDoor
open Go Go.RowKit
set_option maxRecDepth 100000
set_option maxHeartbeats 1000000
set_option linter.unusedVariables false
set_option linter.unusedSimpArgs false
/-! Structs of many cells: a field out of one, and one built of its parts, the cells as lists. -/
theorem ext_mid {α : Type} (A Z B : List α) (off n : Nat) (ha : A.length = off) (hz : Z.length = n) : ((A ++ (Z ++ B)).toArray).extract off (off + n) = Z.toArray := by
  subst ha; subst hz
  rw [List.extract_toArray]
  congr 1
  rw [List.extract_eq_take_drop, List.drop_left, Nat.add_sub_cancel_left, List.take_left]
theorem get_mid {α : Type} (A B : List α) (z : α) (off : Nat) (ha : A.length = off) : ((A ++ (z :: B)).toArray)[off]? = some z := by
  subst ha
  simp
/-- A field of many cells. -/
theorem run_field_agg {P : Program} {t u : TypeId} {fs : Array Field} {f : Field} {i n off : Nat} {X : Array Value} {A Z B : List Value} {w : World} (hu : P.underlying t = some (.struct fs)) (hf : fs[i]? = some f) (ht : f.type = u) (ho : f.offset = off)
    (ha : (isAgg u).run P w = .ok true w) (hs : (Go.sizeOf u).run P w = .ok n w) (hx : X = (A ++ (Z ++ B)).toArray) (h1 : A.length = off) (h2 : Z.length = n) : (Instr.field t (.agg X) i).run P w = .ok (.agg Z.toArray) w := by
  subst ht; subst ho; subst hx
  have e := ext_mid A Z B _ _ h1 h2
  unfold Instr.field part
  simp only [Sem.run_bind, run_underlying hu, Result.andThen_ok, hf, asAgg, Sem.run_pure, ha, hs, if_true, e]
/-- A field of one cell. -/
theorem run_field_cell {P : Program} {t u : TypeId} {fs : Array Field} {f : Field} {i off : Nat} {X : Array Value} {A B : List Value} {z : Value} {w : World} (hu : P.underlying t = some (.struct fs)) (hf : fs[i]? = some f) (ht : f.type = u) (ho : f.offset = off)
    (ha : (isAgg u).run P w = .ok false w) (hx : X = (A ++ (z :: B)).toArray) (h1 : A.length = off) : (Instr.field t (.agg X) i).run P w = .ok z w := by
  subst ht; subst ho; subst hx
  have e := get_mid A B z _ h1
  unfold Instr.field part
  simp only [Sem.run_bind, run_underlying hu, Result.andThen_ok, hf, asAgg, Sem.run_pure, ha, e]
  rfl
theorem exec_field {P : Program} {ρ : Operand → Value} {o : Oper} {t : TypeId} {x : Operand} {i : Nat} {v : Value} {w : World} (ho : o.op = .field t x i) (h : (Instr.field t (ρ x) i).run P w = .ok v w) : (execOp ρ o).run P w = .ok (.value v) w := by
  unfold execOp
  simp only [ho, Sem.run_bind, h, Result.andThen_ok, Sem.run_pure]
/-- A part of many cells goes into a row of cells. -/
theorem fill_part (place : Nat → Option (Nat × Nat)) (i off : Nat) (v : Value) (rest : List (Nat × Value)) (A Z B V : List Value) (hp : place i = some (off, V.length)) (hv : v.cells = V.toArray) (ha : A.length = off) (hz : Z.length = V.length) :
    Instr.fill place (A ++ (Z ++ B)).toArray ((i, v) :: rest) = Instr.fill place (A ++ (V ++ B)).toArray rest := by
  rw [Instr.fill, hp]
  have hs : v.cells.size = V.length := by rw [hv]; simp
  show (if _ then none else _) = _
  rw [if_neg (by simp [hs]; omega)]
  congr 1
  obtain ⟨g1, g2⟩ := Go.Great.foldl_set off V 0 (A ++ (Z ++ B)).toArray
  apply Array.ext_getElem?
  intro k
  rw [hv]
  have e0 : (V.toArray.zipIdx.foldl (fun cs (x : Value × Nat) => cs.setIfInBounds (off + x.2) x.1) (A ++ (Z ++ B)).toArray) = ((V.zipIdx 0).foldl (fun cs (x : Value × Nat) => cs.setIfInBounds (off + x.2) x.1) (A ++ (Z ++ B)).toArray) := by
    rw [← Array.foldl_toList, Array.toList_zipIdx]
  show (V.toArray.zipIdx.foldl (fun cs (x : Value × Nat) => cs.setIfInBounds (off + x.2) x.1) (A ++ (Z ++ B)).toArray)[k]? = _
  rw [e0, g2 k]
  simp only [Nat.add_zero, List.getElem?_toArray, List.size_toArray, List.length_append]
  subst ha
  have hsz : (A ++ (Z ++ B)).toArray.size = A.length + (V.length + B.length) := by simp [hz]
  by_cases h1 : k < A.length
  · rw [if_neg (by omega), List.getElem?_append_left h1, List.getElem?_append_left h1]
  · rw [List.getElem?_append_right (l₁ := A) (by omega), List.getElem?_append_right (l₁ := A) (by omega)]
    by_cases h2 : k < A.length + V.length
    · rw [if_pos (by rw [List.size_toArray, List.length_append, List.length_append] at hsz; omega), List.getElem?_append_left (l₁ := V) (by omega)]
    · rw [if_neg (by omega), List.getElem?_append_right (by omega), List.getElem?_append_right (by omega), hz]
theorem fill_end (place : Nat → Option (Nat × Nat)) (cells : Array Value) : Instr.fill place cells [] = some cells := rfl
theorem built_struct {P : Program} {t : TypeId} {it : TypeInfo} {fs : Array Field} {z : Value} {places : List (Nat × Nat)} (hit : P.info? t = some it) (hu : P.underlying t = some (.struct fs)) (hz : it.zero = some z) (hp : fs.toList.mapM (fun f => (P.info? f.type).map fun i => (f.offset, i.size)) = some places) (parts : List (Nat × Value)) :
    P.built t parts = Instr.fill (places.toArray[·]?) z.cells parts := by
  unfold Program.built
  rw [hit, hu]
  show (match it.zero, fs.toList.mapM (fun f => (P.info? f.type).map fun i => (f.offset, i.size)) with | some z, some places => Instr.fill (places.toArray[·]?) z.cells parts | _, _ => none) = _
  rw [hz, hp]
end Go.Proofs.YtoboabkaojfbaaaGreatDoor
namespace Go.Proofs.YtoboabkaojfbaaaGreatDoor
open Go Go.RowKit
set_option maxRecDepth 100000
set_option maxHeartbeats 1000000
set_option linter.unusedVariables false
set_option linter.unusedSimpArgs false
/-! Structs of digests and numbers held against each other; blocks of many cells by their parts. -/
theorem run_part_agg {P : Program} {t : TypeId} {n off : Nat} {A Z B : List Value} {w : World} (ha : (isAgg t).run P w = .ok true w) (hs : (Go.sizeOf t).run P w = .ok n w) (h1 : A.length = off) (h2 : Z.length = n) : (part t (A ++ (Z ++ B)).toArray off).run P w = .ok (.agg Z.toArray) w := by
  have e := ext_mid A Z B off n h1 h2
  unfold part
  simp only [Sem.run_bind, ha, Result.andThen_ok, hs, if_true, Sem.run_pure, e]
theorem run_part_cell {P : Program} {t : TypeId} {off : Nat} {A B : List Value} {z : Value} {w : World} (ha : (isAgg t).run P w = .ok false w) (h1 : A.length = off) : (part t (A ++ (z :: B)).toArray off).run P w = .ok z w := by
  have e := get_mid A B z off h1
  unfold part
  simp only [Sem.run_bind, ha, Result.andThen_ok, e]
  rfl
def eqT (d : Nat) (xs ys : Array Value) : List (String × TypeId × Nat) → Sem Bool
  | [] => pure true
  | f :: fs =>
    if f.1 ≠ "_" then do
      let a ← part f.2.1 xs f.2.2
      let b ← part f.2.1 ys f.2.2
      let r ← Op.equalIn d f.2.1 a b
      if (!r) = true then pure false else eqT d xs ys fs
    else eqT d xs ys fs
theorem eqT_of (d : Nat) (xs ys : Array Value) : ∀ fs : List Field, Op.eqFields d xs ys fs = eqT d xs ys (fs.map fun f => (f.name, f.type, f.offset))
  | [] => rfl
  | f :: fs => by
    rw [List.map_cons, Op.eqFields, eqT, eqT_of d xs ys fs]
theorem run_eq_of {P : Program} {t : TypeId} {xs ys : Array Value} {w : World} {fs : List (String × TypeId × Nat)} {b : Bool} (d : Nat) (ht : P.underlying t = some (.struct (P.fieldsOf t))) (hp : P.stoodInHeld t = false) (hf : (P.fieldsOf t).toList.map (fun f => (f.name, f.type, f.offset)) = fs) (h : (eqT d xs ys fs).run P w = .ok b w) :
    (Op.equalIn (d + 1) t (.agg xs) (.agg ys)).run P w = .ok b w := by
  rw [run_equalIn_struct w d t xs ys ht hp, eqT_of, hf, h]
theorem agg23 (w : World) : (isAgg 23).run Tryz.prog w = .ok true w := by kernel_rfl
theorem size23 (w : World) : (Go.sizeOf 23).run Tryz.prog w = .ok 32 w := by kernel_rfl
theorem agg3 (w : World) : (isAgg 3).run Tryz.prog w = .ok false w := by kernel_rfl
theorem eqIn_dg (x y : Dg) (w : World) (d : Nat) : (Op.equalIn (d + 2) 23 (.agg (dgE x).toArray) (.agg (dgE y).toArray)).run Tryz.prog w = .ok (x.1 == y.1) w :=
  run_equalIn_bytes w d 23 5 32 Tryz.underlying23 Tryz.underlying5 size5 x.1 y.1 x.2 y.2
theorem eqT_cons {P : Program} {d : Nat} {X Y : Array Value} {f : String × TypeId × Nat} {fs : List (String × TypeId × Nat)} {a b : Value} {r : Bool} {w : World} (hn : f.1 ≠ "_") (h1 : (part f.2.1 X f.2.2).run P w = .ok a w) (h2 : (part f.2.1 Y f.2.2).run P w = .ok b w) (h3 : (Op.equalIn d f.2.1 a b).run P w = .ok r w) :
    (eqT d X Y (f :: fs)).run P w = if r = true then (eqT d X Y fs).run P w else .ok false w := by
  rw [eqT, if_pos hn]
  simp only [Sem.run_bind, h1, h2, h3, Result.andThen_ok]
  cases r
  · rfl
  · rfl
theorem ite_of {α : Type} {p : Prop} [Decidable p] {r : Bool} (h : r = decide p) (x y : α) : (if r = true then x else y) = if p then x else y := by
  subst h
  by_cases e : p <;> simp [e]
theorem beq_dg (x y : Dg) : (x.1 == y.1) = decide (x = y) := by
  by_cases e : x = y
  · subst e; simp
  · rw [decide_eq_false e, Bool.eq_false_iff]; intro q; exact e (Subtype.ext (by simpa using q))
theorem eqT_dg {A A' B B' : List Value} {off d : Nat} {w : World} (nm : String) (hn : nm ≠ "_") (x y : Dg) (fs : List (String × TypeId × Nat)) (h1 : A.length = off) (h2 : A'.length = off) (X Y : Array Value) (hX : X = (A ++ (dgE x ++ B)).toArray) (hY : Y = (A' ++ (dgE y ++ B')).toArray) :
    (eqT (d + 2) X Y ((nm, 23, off) :: fs)).run Tryz.prog w = if x = y then (eqT (d + 2) X Y fs).run Tryz.prog w else .ok false w := by
  have p1 : (part 23 X off).run Tryz.prog w = .ok (.agg (dgE x).toArray) w := by rw [hX]; exact run_part_agg (agg23 w) (size23 w) h1 (dgE_len x)
  have p2 : (part 23 Y off).run Tryz.prog w = .ok (.agg (dgE y).toArray) w := by rw [hY]; exact run_part_agg (agg23 w) (size23 w) h2 (dgE_len y)
  exact (eqT_cons (f := (nm, 23, off)) hn p1 p2 (eqIn_dg x y w d)).trans (ite_of (beq_dg x y) _ _)
theorem eqT_int {A A' B B' : List Value} {off d : Nat} {w : World} (nm : String) (hn : nm ≠ "_") (x y : Int) (fs : List (String × TypeId × Nat)) (h1 : A.length = off) (h2 : A'.length = off) (X Y : Array Value) (hX : X = (A ++ (.int .i64 x :: B)).toArray) (hY : Y = (A' ++ (.int .i64 y :: B')).toArray) :
    (eqT (d + 1) X Y ((nm, 3, off) :: fs)).run Tryz.prog w = if x = y then (eqT (d + 1) X Y fs).run Tryz.prog w else .ok false w := by
  have p1 : (part 3 X off).run Tryz.prog w = .ok (.int .i64 x) w := by rw [hX]; exact run_part_cell (agg3 w) h1
  have p2 : (part 3 Y off).run Tryz.prog w = .ok (.int .i64 y) w := by rw [hY]; exact run_part_cell (agg3 w) h2
  exact (eqT_cons (f := (nm, 3, off)) hn p1 p2 (run_equalIn_int w d 3 .i64 .i64 x y Tryz.underlying3)).trans (ite_of (by rfl) _ _)
theorem eqT_nil (d : Nat) (X Y : Array Value) (w : World) : (eqT d X Y []).run Tryz.prog w = .ok true w := rfl
theorem eqIn_hd (a b : Hd) (w : World) (d : Nat) : (Op.equalIn (d + 3) 25 (.agg (hdA a)) (.agg (hdA b))).run Tryz.prog w = .ok (decide (a = b)) w := by
  refine run_eq_of (fs := [("Log", 23, 0), ("Size", 3, 32), ("Root", 23, 33), ("Index", 23, 65), ("Clock", 3, 97)]) (d + 2) (by kernel_rfl) (by kernel_rfl) (by kernel_rfl) ?_
  rw [eqT_dg (off := 0) (A := []) (A' := []) "Log" (by decide) a.log b.log _ rfl rfl (hdA a) (hdA b) rfl rfl,
    eqT_int (off := 32) (A := dgE a.log) (A' := dgE b.log) "Size" (by decide) a.size b.size _ (dgE_len _) (dgE_len _) (hdA a) (hdA b) rfl rfl,
    eqT_dg (off := 33) (B := dgE a.index ++ [.int .i64 a.clock]) (B' := dgE b.index ++ [.int .i64 b.clock]) (A := dgE a.log ++ [.int .i64 a.size]) (A' := dgE b.log ++ [.int .i64 b.size]) "Root" (by decide) a.root b.root _ (by simp [dgE_len]) (by simp [dgE_len]) (hdA a) (hdA b) (by simp [hdA, hdE, HB]) (by simp [hdA, hdE, HB]),
    eqT_dg (off := 65) (B := [.int .i64 a.clock]) (B' := [.int .i64 b.clock]) (A := dgE a.log ++ (.int .i64 a.size :: dgE a.root)) (A' := dgE b.log ++ (.int .i64 b.size :: dgE b.root)) "Index" (by decide) a.index b.index _ (by simp [dgE_len]) (by simp [dgE_len]) (hdA a) (hdA b) (by simp [hdA, hdE, HB]) (by simp [hdA, hdE, HB]),
    eqT_int (off := 97) (B := []) (B' := []) (A := dgE a.log ++ (.int .i64 a.size :: (dgE a.root ++ dgE a.index))) (A' := dgE b.log ++ (.int .i64 b.size :: (dgE b.root ++ dgE b.index))) "Clock" (by decide) a.clock b.clock _ (by simp [dgE_len]) (by simp [dgE_len]) (hdA a) (hdA b) (by simp [hdA, hdE, HB]) (by simp [hdA, hdE, HB]), eqT_nil]
  obtain ⟨l1, s1, r1, i1, c1⟩ := a
  obtain ⟨l2, s2, r2, i2, c2⟩ := b
  simp only [Hd.mk.injEq]
  by_cases h1 : l1 = l2 <;> by_cases h2 : s1 = s2 <;> by_cases h3 : r1 = r2 <;> by_cases h4 : i1 = i2 <;> by_cases h5 : c1 = c2 <;> simp [h1, h2, h3, h4, h5]
theorem eql_hd (a b : Hd) (w : World) : (binOp .eql 25 (.agg (hdA a)) (.agg (hdA b))).run Tryz.prog w = .ok (.bool (decide (a = b))) w := by
  rw [run_eql_struct, eqIn_hd a b w 9997]; rfl
theorem neq_hd (a b : Hd) (w : World) : (binOp .neq 25 (.agg (hdA a)) (.agg (hdA b))).run Tryz.prog w = .ok (.bool (!decide (a = b))) w := by
  rw [run_neq_struct, eqIn_hd a b w 9997]; rfl
theorem eqIn_sg (a b : Sg) (w : World) (d : Nat) : (Op.equalIn (d + 3) 63 (.agg (sgA a)) (.agg (sgA b))).run Tryz.prog w = .ok (decide (a = b)) w := by
  refine run_eq_of (fs := [("Key", 23, 0), ("Tag", 23, 32)]) (d + 2) (by kernel_rfl) (by kernel_rfl) (by kernel_rfl) ?_
  rw [eqT_dg (off := 0) (A := []) (A' := []) "Key" (by decide) a.key b.key _ rfl rfl (sgA a) (sgA b) rfl rfl,
    eqT_dg (off := 32) (B := []) (B' := []) (A := dgE a.key) (A' := dgE b.key) "Tag" (by decide) a.tag b.tag _ (dgE_len _) (dgE_len _) (sgA a) (sgA b) (by simp [sgA, sgE]) (by simp [sgA, sgE]), eqT_nil]
  obtain ⟨k1, t1⟩ := a
  obtain ⟨k2, t2⟩ := b
  simp only [Sg.mk.injEq]
  by_cases h1 : k1 = k2 <;> by_cases h2 : t1 = t2 <;> simp [h1, h2]
theorem eql_sg (a b : Sg) (w : World) : (binOp .eql 63 (.agg (sgA a)) (.agg (sgA b))).run Tryz.prog w = .ok (.bool (decide (a = b))) w := by
  rw [run_eql_struct, eqIn_sg a b w 9997]; rfl
theorem neq_sg (a b : Sg) (w : World) : (binOp .neq 63 (.agg (sgA a)) (.agg (sgA b))).run Tryz.prog w = .ok (.bool (!decide (a = b))) w := by
  rw [run_neq_struct, eqIn_sg a b w 9997]; rfl
/-- The digests' equality, as the walk meets it. -/
theorem eqd_dg (x y : Dg) (w : World) : (binOp .eql 23 (.agg (dgA x.1)) (.agg (dgA y.1))).run Tryz.prog w = .ok (.bool (decide (x = y))) w := by
  rw [eql_dg]
  congr 2
  by_cases e : x = y
  · subst e; simp
  · rw [decide_eq_false e, Bool.eq_false_iff]; intro q; exact e (Subtype.ext (by simpa using q))
theorem neqd_dg (x y : Dg) (w : World) : (binOp .neq 23 (.agg (dgA x.1)) (.agg (dgA y.1))).run Tryz.prog w = .ok (.bool (!decide (x = y))) w := by
  rw [neq_dg]
  congr 2
  by_cases e : x = y
  · subst e; simp
  · rw [decide_eq_false e]; congr 1; rw [Bool.eq_false_iff]; intro q; exact e (Subtype.ext (by simpa using q))
/-! Blocks by their parts. -/
section
variable {w : World} {g : Nat} {t : TypeId} {A B : List Value}
theorem mid_range {Z : List Value} {C : Array Value} (h : w.heap[g]? = some (.cells C t (0, 0))) (off : Nat) (hC : C = (A ++ (Z ++ B)).toArray) (ho : A.length = off) : w.rangeAt g off Z := fun j v hj => by
  have hl := (List.getElem?_eq_some_iff.1 hj).1
  rw [cell_of_row _ _ _ _ _ _ h, hC, List.getElem?_toArray, List.getElem?_append_right (by omega), ho, Nat.add_sub_cancel_left, List.getElem?_append_left hl, hj]
theorem mid_cell {z : Value} {C : Array Value} (h : w.heap[g]? = some (.cells C t (0, 0))) (off : Nat) (hC : C = (A ++ (z :: B)).toArray) (ho : A.length = off) : w.cell? ⟨g, off, none⟩ = some z := by
  rw [cell_of_row _ _ _ _ _ _ h, hC, get_mid A B z off ho]
theorem mid_set {Z V : List Value} {C : Array Value} (h : w.heap[g]? = some (.cells C t (0, 0))) (off : Nat) (hC : C = (A ++ (Z ++ B)).toArray) (ho : A.length = off) (hv : V.length = Z.length) : (w.setCells g off V).heap[g]? = some (.cells (A ++ (V ++ B)).toArray t (0, 0)) := by
  have := setCells_whole g V A (Z ++ B) w t (by rw [← hC]; exact h) (by rw [List.length_append]; omega)
  rw [ho] at this
  rw [this, List.drop_append, List.drop_of_length_le (by omega), hv, Nat.sub_self, List.drop_zero, List.nil_append, List.append_assoc]
theorem mid_set1 {z v : Value} {C : Array Value} (h : w.heap[g]? = some (.cells C t (0, 0))) (off : Nat) (hC : C = (A ++ (z :: B)).toArray) (ho : A.length = off) : (w.setCell ⟨g, off, none⟩ v).heap[g]? = some (.cells (A ++ (v :: B)).toArray t (0, 0)) := by
  rw [heap_setCell_same w g off _ _ v h, hC, List.setIfInBounds_toArray, List.set_append_right _ _ (by omega), ho, Nat.sub_self, List.set_cons_zero]
theorem mid_there {C : Array Value} (h : w.heap[g]? = some (.cells C t (0, 0))) (off n : Nat) (hn : off + n ≤ C.size) : w.there g off n := fun j hj => by
  rw [cell_of_row _ _ _ _ _ _ h, Array.getElem?_eq_getElem (by omega)]
  exact ⟨rfl, frozen_of_row w g _ _ _ h⟩
end
end Go.Proofs.YtoboabkaojfbaaaGreatDoor
