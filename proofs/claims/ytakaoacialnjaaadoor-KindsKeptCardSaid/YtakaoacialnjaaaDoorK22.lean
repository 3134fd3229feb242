import Derived.Test.YtakaoacialnjaaaDoorK20
import Derived.Test.YtakaoacialnjaaaDoorCards
import Derived.Test.YtakaoacialnjaaaDoorTie
import Derived.ProofKit
import Derived.OpenShut
import Derived.Deep.DeepHandedRow
import Derived.Lib.LaidU8
import Derived.Lib.SmallJoins
import Derived.SizedLaws
import Derived.MakeChecks
namespace Go.Proofs.YtakaoacialnjaaaDoor
open Go.ChangeShapes Go.WideShapes Go.ChangeAt Go.RowKit
set_option linter.unusedVariables false
theorem own : ownKnob Tryd.prog.godebug = none := by kernel_rfl
theorem laidOut : laidOutB Tryd.prog = true := by kernel_rfl
theorem g0n : Tryd.prog.globalNamed "docket/kinds.nothing" = some 0 := by kernel_rfl
theorem g1n : Tryd.prog.globalNamed "docket/docketref9.reserved" = some 1 := by kernel_rfl
theorem g2n : Tryd.prog.globalNamed "docket/text.reserved" = some 2 := by kernel_rfl
theorem g0t : (Tryd.prog.globals[0]?).map (·.type) = some 30 := by kernel_rfl
theorem g1t : (Tryd.prog.globals[1]?).map (·.type) = some 122 := by kernel_rfl
theorem g2t : (Tryd.prog.globals[2]?).map (·.type) = some 122 := by kernel_rfl
theorem c9 : Tryd.prog.cellsOf 9 = 1 := by kernel_rfl
theorem c28 : Tryd.prog.cellsOf 28 = 1 := by kernel_rfl
theorem c4 : Tryd.prog.cellsOf 4 = 1 := by kernel_rfl
def resData : DataW Unit := .agg (resL.map fun l => .lit (.string l))
theorem res_same1 : (Rows.laid_docket_docketref9_reserved : DataW Unit) = resData := rfl
theorem res_same2 : (Rows.laid_docket_text_reserved : DataW Unit) = resData := rfl
theorem res_reads {W : World} {n : String} {g : Nat} (hg : Tryd.prog.globalNamed n = some g) (ht : (Tryd.prog.globals[g]?).map (·.type) = some 122) (h : Lib.VarReads Tryd.prog W n resData) : ResTab W g := by
  obtain ⟨g', t, cs, fuel, p, h1, h2, h3, h4⟩ := h
  obtain rfl : g = g' := Option.some.inj (hg.symm.trans h1)
  obtain rfl : (122 : TypeId) = t := Option.some.inj (ht.symm.trans h2)
  intro j hj
  obtain ⟨f', d, q, hd, he⟩ := Lib.array_elem u122 h4 j hj
  rw [c9] at he
  obtain ⟨s, hs, hx, _⟩ := DataW.trod_string Tryd.underlying9 he
  rw [World.var?_cell hg h3 j]
  have hc : cs[j]? = some (.string s) := by
    have := congrArg (·[0]?) hs
    simpa [List.getElem?_take, List.getElem?_drop] using this
  rw [hc]
  have hlen : resL.length = 35 := rfl
  rw [List.getElem?_map, List.getElem?_eq_getElem (by omega)] at hd
  simp only [Option.map_some, Option.some.injEq] at hd
  have hl := (Prod.mk.inj hx).1
  rw [← hd] at hl
  simp only [DataW.lit.injEq, Lit.string.injEq] at hl
  simp only [resS, List.getD_eq_getElem?_getD, List.getElem?_eq_getElem (show j < resL.length by omega), Option.getD_some]
  rw [hl]
theorem no_reads {W : World} (h : Lib.VarReads Tryd.prog W "docket/kinds.nothing" (.agg [.lit (.int .i64 0), .lit (.bool true)])) : NoTab W := by
  obtain ⟨g', t, cs, fuel, p, h1, h2, h3, h4⟩ := h
  obtain rfl : 0 = g' := Option.some.inj (g0n.symm.trans h1)
  obtain rfl : (30 : TypeId) = t := Option.some.inj (g0t.symm.trans h2)
  obtain ⟨y0, y1, n, hx, _, e0, e1⟩ := trod_struct2 Tryd.underlying30 h4
  obtain ⟨i0, hi, hy0, _⟩ := DataW.trod_int Tryd.underlying28 (show DataW.trod _ _ _ _ _ _ _ 28 _ = _ from e0)
  obtain ⟨b0, hb, hy1⟩ := DataW.trod_bool Tryd.underlying4 (show DataW.trod _ _ _ _ _ _ _ 4 _ = _ from e1)
  obtain ⟨hx1, -⟩ := Prod.mk.inj hx
  simp only [DataW.agg.injEq, List.cons.injEq, and_true] at hx1
  obtain ⟨ha, hc⟩ := hx1
  rw [hy0] at ha
  rw [hy1] at hc
  simp only [DataW.lit.injEq, Lit.int.injEq, Lit.bool.injEq, true_and] at ha hc
  subst ha hc
  have z0 := congrArg (·[0]?) hi
  have z1 := congrArg (·[0]?) hb
  refine ⟨?_, ?_⟩
  · rw [World.var?_cell g0n h3 0]
    simpa [List.getElem?_take, List.getElem?_drop, c28] using z0
  · rw [World.var?_cell g0n h3 1]
    simpa [List.getElem?_take, List.getElem?_drop, c4] using z1
theorem table2 {W : World} (h : laidMetH Tryd.prog [("docket/text.reserved", Rows.laid_docket_text_reserved), ("docket/kinds.nothing", Rows.laid_docket_kinds_nothing)] W) : NoTab W ∧ ResTab W 2 ∧ 2 < W.heap.size := by
  rw [MakeChecks.laidMetH_plain _ _ _ (by kernel_rfl)] at h
  have a := res_reads g2n g2t (Lib.laidMet.reads h (.head _))
  exact ⟨no_reads (Lib.laidMet.reads h (.tail _ (.head _))), a, block_lt_of_cell (a 0 (by decide))⟩
theorem table3 {W : World} (h : laidMetH Tryd.prog [("docket/docketref9.reserved", Rows.laid_docket_docketref9_reserved), ("docket/text.reserved", Rows.laid_docket_text_reserved), ("docket/kinds.nothing", Rows.laid_docket_kinds_nothing)] W) :
    (NoTab W ∧ ResTab W 2 ∧ 2 < W.heap.size) ∧ ResTab W 1 := by
  rw [MakeChecks.laidMetH_plain _ _ _ (by kernel_rfl)] at h
  have a := res_reads g2n g2t (Lib.laidMet.reads h (.tail _ (.head _)))
  exact ⟨⟨no_reads (Lib.laidMet.reads h (.tail _ (.tail _ (.head _)))), a, block_lt_of_cell (a 0 (by decide))⟩, res_reads g1n g1t (Lib.laidMet.reads h (.head _))⟩
def setO (v : Array Value) : Obj → Obj
  | .cells _ t frozen => .cells v t frozen
  | o => o
/-- A world for the witnesses: the settled one, the tables holding what their initialisers lay. -/
noncomputable def laidStart (os : Os) : World :=
  { World.holding Tryd.prog os ⟨#[], #[], []⟩ with heap := (((World.holding Tryd.prog os ⟨#[], #[], []⟩).heap.modify 0 (setO #[.int .i64 0, .bool true])).modify 1 (setO (resL.map fun l => Value.string ⟨l.toArray⟩).toArray)).modify 2 (setO (resL.map fun l => Value.string ⟨l.toArray⟩).toArray) }
end Go.Proofs.YtakaoacialnjaaaDoor
