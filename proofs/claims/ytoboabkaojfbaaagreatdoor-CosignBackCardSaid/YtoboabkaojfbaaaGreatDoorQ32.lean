import Derived.Test.YtoboabkaojfbaaaGreatDoorQ30
import Derived.Test.YtoboabkaojfbaaaGreatDoorQ31
import Derived.Test.YtoboabkaojfbaaaGreatDoorQ22
namespace Go.Proofs.YtoboabkaojfbaaaGreatDoor
open Go Go.RowKit
set_option maxRecDepth 100000
set_option maxHeartbeats 8000000
set_option linter.unusedVariables false
set_option linter.unusedSimpArgs false
/-! cosign.formed: data, and its tail. -/
noncomputable def fo0 : Code := Tryz.f61.body.getD .skip
def FoRet (w0 : World) (f : Fc) (e : Ending) (w' : World) : Prop := e = .returned (.bool (formedP f)) ∧ Below w0.heap.size w0 w'
/-- What is told of memory: the tables. -/
def Tabs (w : World) : Prop := 4 ≤ w.heap.size ∧ RoundTab w ∧ TabAt 3 Lib.deBruijn64tab w
theorem Tabs.below {w w' : World} (h : Tabs w) (hb : Below w.heap.size w w') : Tabs w' := ⟨Nat.le_trans h.1 hb.size, rt_below h.2.1 hb (by have := h.1; omega), tab_below h.2.2 hb (by have := h.1; omega)⟩
theorem sl137 : Sl Tryz.prog 137 28 (.agg (ntA zHd nilS)) 99 136 := ⟨Tryz.underlying137, by kernel_rfl, by show (ntA zHd nilS).size = 99; exact ntA_size _ _, by decide⟩
def sl137z : Value := .agg (ntA zHd nilS)
/-- A slice literal of two notes. -/
theorem L_build2n {ops : Array Oper} {rest : List Oper} {o : Oper} {a : Act} {w : World} {Q : Exit → Act → World → Prop} (hg : o.guard = none) (d e : Operand) (ho : o.op = .buildSlice 137 2 #[(0, d), (1, e)]) (D E : Array Value) (hd : a.eval d = .agg D) (he : a.eval e = .agg E) (hs : D.size = 99) (hs2 : E.size = 99)
    (h : wpList Tryz.prog ops Q rest (a.put o.dst (.slice (some ⟨w.heap.size, 0, none⟩) 2 2)) (w.alloc (.cells (D.toList ++ E.toList).toArray 28))) : wpList Tryz.prog ops Q (o :: rest) a w := by
  obtain ⟨ie, hie, hz0, hz1, hz2⟩ := info_parts sl137.inf
  have h32 : ie.size = 99 := by have := hz0; have := hz1; first | assumption | omega
  have hf : Instr.fill (fun i => some (i * ie.size, ie.size)) ((Array.range (2 * ie.size)).map ((sl137z).cells[· % (sl137z).cells.size]!)) (#[(0, Value.agg D), (1, Value.agg E)] : Array (Nat × Value)).toList = some (D.toList ++ E.toList).toArray := by
    have := Great.fill_whole (s := ie.size) (by omega) [Value.agg D, Value.agg E] ((Array.range (2 * ie.size)).map ((sl137z).cells[· % (sl137z).cells.size]!)) (by intro v hv; simp only [List.mem_cons, List.not_mem_nil, or_false] at hv; rcases hv with rfl | rfl; (· show D.size = ie.size; omega); (· show E.size = ie.size; omega)) (by simp)
    simpa [Value.cells] using this
  refine wpList_buildSlice hg 137 28 2 #[(0, d), (1, e)] ho (D.toList ++ E.toList).toArray ie sl137z Tryz.underlying137 hie ?_ (by omega) (by omega) ?_ h
  · first | assumption | exact hz1
  · simp only [List.map_toArray, List.map_cons, List.map_nil, hd, he]
    exact hf
theorem exec_build23z {ρ : Operand → Value} {o : Oper} (ho : o.op = .build 23 #[]) (w : World) : (execOp ρ o).run Tryz.prog w = .ok (.value (.agg (dgA zDg.1))) w := by
  have hb : (Instr.build 23 #[]).run Tryz.prog w = .ok (.agg (dgA zDg.1)) w := run_build w 23 #[] _ (by kernel_rfl)
  unfold execOp
  simp only [ho, List.map_toArray, List.map_nil, Sem.run_bind, hb, Result.andThen_ok, Sem.run_pure]
/-- A value, wanted. -/
theorem L_valueW {ops : Array Oper} {rest : List Oper} {o : Oper} {a : Act} {w : World} {Q : Exit → Act → World → Prop} {v : Value} (hrun : (execOp a.eval o).run Tryz.prog w = .ok (.value v) w) (hw : Region.wanted o (yielded ops a.tmps) = true) (h : wpList Tryz.prog ops Q rest (a.put o.dst v) w) : wpList Tryz.prog ops Q (o :: rest) a w :=
  wpList_step fun K hK => by
    rw [if_pos hw]
    unfold Oper.wp
    rw [hrun, Oper.upon_value]
    exact hK _ _ h
/-- A load of an array of cells, wanted. -/
theorem L_load_arrW {ops : Array Oper} {rest : List Oper} {o : Oper} {a : Act} {w : World} {Q : Exit → Act → World → Prop} (ty : TypeId) (x : Operand) (ho : o.op = .load ty x)
    (b off : Nat) (hx : a.eval x = .pointer (some ⟨b, off, none⟩)) (D : Array Value) (d : TypeDesc) (hc : w.rangeAt b off D.toList)
    (hu : Tryz.prog.underlying ty = some d) (hd : d.isRow = true) (hi : (Tryz.prog.info? ty).map (·.size) = some D.size) (hw : Region.wanted o (yielded ops a.tmps) = true)
    (h : wpList Tryz.prog ops Q rest (a.put o.dst (.agg D)) w) : wpList Tryz.prog ops Q (o :: rest) a w := by
  have hr := run_loadAt_mid (P := Tryz.prog) w b off ty D.toList _ hc hu hd (by rw [hi, Array.length_toList])
  rw [Array.toArray_toList] at hr
  exact L_valueW (exec_load ho (by rw [hx]; exact hr)) hw h
/-- Two values held against each other, wanted. -/
theorem L_binW {ops : Array Oper} {rest : List Oper} {o : Oper} {a : Act} {w : World} {Q : Exit → Act → World → Prop} (bo : BinOp) (t u : TypeId) (x y : Operand) (ho : o.op = .binOp bo t x y u) (X Y : Value) (hx : a.eval x = X) (hy : a.eval y = Y) (v : Value)
    (hr : (binOp bo t X Y).run Tryz.prog w = .ok v w) (hg : (eqGuard bo t x y X Y).run Tryz.prog w = .ok () w) (hw : Region.wanted o (yielded ops a.tmps) = true) (h : wpList Tryz.prog ops Q rest (a.put o.dst v) w) : wpList Tryz.prog ops Q (o :: rest) a w :=
  L_valueW (exec_bin ho (by rw [hx, hy]; exact hr) (by rw [hx, hy]; exact hg)) hw h
section
variable {ops : Array Oper} {rest : List Oper} {o : Oper} {a a' : Act} {w : World} {Q : Exit → Act → World → Prop} {v : Value}
/-- A plain list's next operation, its value found; named; unwanted. -/
theorem plT (k : Nat) (hw : Region.wanted o (yielded ops a.tmps) = true := by rfl) (hv : (execOp a.eval o).run Tryz.prog w = .ok (.value v) w := by (go_simp; all_goals (first | done | with_reducible rfl))) (ha : a.put o.dst v = a' := by (simp only [Act.put, List.setIfInBounds_toArray, List.set_cons_zero, List.set_cons_succ, List.getElem_toArray, List.getElem_cons_succ, List.getElem_cons_zero]; all_goals (first | done | rfl)))
    (h : wpList Tryz.prog ops Q rest a' w) : wpList Tryz.prog ops Q (o :: rest) a w := by
  subst ha
  exact L_valueW hv hw h
theorem plL (k : Nat) (v : Value) (hv : (execOp a.eval o).run Tryz.prog w = .ok (.value v) w) (hw : Region.wanted o (yielded ops a.tmps) = true := by rfl) (ha : a.put o.dst v = a' := by (simp only [Act.put, List.setIfInBounds_toArray, List.set_cons_zero, List.set_cons_succ, List.getElem_toArray, List.getElem_cons_succ, List.getElem_cons_zero]; all_goals (first | done | rfl)))
    (h : wpList Tryz.prog ops Q rest a' w) : wpList Tryz.prog ops Q (o :: rest) a w := by
  subst ha
  exact L_valueW hv hw h
theorem plN (k : Nat) (hw : Region.wanted o (yielded ops a.tmps) = false := by rfl) (ha : a.put o.dst undef = a' := by (simp only [Act.put, List.setIfInBounds_toArray, List.set_cons_zero, List.set_cons_succ, List.getElem_toArray, List.getElem_cons_succ, List.getElem_cons_zero]; all_goals (first | done | rfl)))
    (h : wpList Tryz.prog ops Q rest a' w) : wpList Tryz.prog ops Q (o :: rest) a w := by
  subst ha
  refine wpList_step fun K hK => ?_
  rw [if_neg (by rw [hw]; decide)]
  exact hK _ _ h
end
theorem noteE_okN (n : Nt) : okN n = (decide (noteE n = 0) && decide (n.signs.length = 1)) := by
  obtain ⟨h, l⟩ := n
  unfold okN noteE
  by_cases h1 : l.length = 1
  · obtain ⟨s, rfl⟩ := List.length_eq_one_iff.1 h1
    cases hr : rightH h <;> simp [hr, twiceP]
  · simp [h1]
theorem okN_one {n : Nt} (h : okN n = true) : rightH n.head = true ∧ ∃ s, n.signs = [s] := by
  rw [okN, Bool.and_eq_true, decide_eq_true_eq] at h
  exact ⟨h.1, List.length_eq_one_iff.1 h.2⟩
theorem key0_one {n : Nt} {s : Sg} (h : n.signs = [s]) : key0 n = s.key := by unfold key0; rw [h]
/-- The rest, behind the notes, the keys, the logs, the order and the form. -/
def formT (f : Fc) : Bool := if f.form = 3 then decide (0 ≤ f.number) && (decide (f.number < f.a.head.size) && (!decide (f.leafA = f.leafB) && (decide (f.wayA.length = stepsP f.a.head.size f.number) && decide (f.wayB.length = stepsP f.b.head.size f.number))))
     else decide (f.number = 0) && (decide (f.leafA = zD) && (decide (f.leafB = zD) && decide (f.wayA.length + f.wayB.length = 0)))
theorem formed_k {f : Fc} (ha : okN f.a = true) (hb : okN f.b = true) (h : decide (key0 f.a = key0 f.b) = false) : formedP f = false := by unfold formedP; rw [ha, hb, h]; rfl
theorem formed_l {f : Fc} (h : decide (f.a.head.log = f.b.head.log) = false) : formedP f = false := by unfold formedP; rw [h]; simp
theorem formed_e {f : Fc} (h : decide (f.a.head = f.b.head) = true) : formedP f = false := by unfold formedP; rw [h]; simp
theorem formed_f {f : Fc} (h : afterP f.a.head f.b.head = true) : formedP f = false := by unfold formedP; rw [h]; simp
theorem formed_o {f : Fc} (h : decide (f.form = formOf f.a.head f.b.head) = false) : formedP f = false := by unfold formedP; rw [h]; simp
theorem formed_t {f : Fc} (ha : okN f.a = true) (hb : okN f.b = true) (hk : decide (key0 f.a = key0 f.b) = true) (hl : decide (f.a.head.log = f.b.head.log) = true) (he : decide (f.a.head = f.b.head) = false) (hf : afterP f.a.head f.b.head = false) (ho : decide (f.form = formOf f.a.head f.b.head) = true) : formedP f = formT f := by
  unfold formedP formT; rw [ha, hb, hk, hl, he, hf, ho]; rfl
theorem formed_na {f : Fc} (h : okN f.a = false) : formedP f = false := by unfold formedP; rw [h]; rfl
theorem formed_nb {f : Fc} (h : okN f.b = false) : formedP f = false := by unfold formedP; rw [h]; simp
end Go.Proofs.YtoboabkaojfbaaaGreatDoor
