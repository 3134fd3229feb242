import Derived.Test.YtcnckjlmldnblaaDoorB1
import Derived.Test.YtcnckjlmldnblaaDoorCards
import Derived.Test.YtcnckjlmldnblaaDoorTie
import Derived.ProofKit
import Derived.OpenShut
import Derived.Deep.DeepHandedRow
import Derived.Lib.LaidU8
import Derived.Lib.SmallJoins
import Derived.SizedLaws
import Derived.MakeChecks
namespace Go.Proofs.YtcnckjlmldnblaaDoor
open Go.ChangeShapes Go.WideShapes Go.ChangeAt Go.RowKit
set_option linter.unusedVariables false
theorem own : ownKnob Tryd.prog.godebug = none := by kernel_rfl
theorem laidOut : laidOutB Tryd.prog = true := by kernel_rfl
theorem g0n : Tryd.prog.globalNamed "docket/kinds.nothing" = some 0 := by kernel_rfl
theorem g2n : Tryd.prog.globalNamed "docket/text.reserved" = some 1 := by kernel_rfl
theorem g0t : (Tryd.prog.globals[0]?).map (·.type) = some 74 := by kernel_rfl
theorem g2t : (Tryd.prog.globals[1]?).map (·.type) = some 133 := by kernel_rfl
def resData : DataW Unit := .agg (resL.map fun l => .lit (.string l))
theorem res_same2 : (Rows.laid_docket_text_reserved : DataW Unit) = resData := rfl
theorem res_reads {W : World} {n : String} {g : Nat} (hg : Tryd.prog.globalNamed n = some g) (ht : (Tryd.prog.globals[g]?).map (·.type) = some 133) (h : Lib.VarReads Tryd.prog W n resData) : ResTab W g := by
  obtain ⟨g', t, cs, fuel, p, h1, h2, h3, h4⟩ := h
  obtain rfl : g = g' := Option.some.inj (hg.symm.trans h1)
  obtain rfl : (133 : TypeId) = t := Option.some.inj (ht.symm.trans h2)
  intro j hj
  obtain ⟨f', d, q, hd, he⟩ := Lib.array_elem u122 h4 j hj
  rw [c9] at he
  obtain ⟨s, hs, hx, _⟩ := DataW.trod_string Tryd.underlying9 he
  rw [World.var?_cell hg h3 j]
  have hc : cs[j]? = some (.string s) := by
    have := congrArg (·[0]?) hs
    simpa [List.getElem?_take, List.getElem?_drop] using this
  rw [hc]
  have hlen : resL.length = 35 := rfl
  rw [List.getElem?_map, List.getElem?_eq_getElem (by omega)] at hd
  simp only [Option.map_some, Option.some.injEq] at hd
  have hl := (Prod.mk.inj hx).1
  rw [← hd] at hl
  simp only [DataW.lit.injEq, Lit.string.injEq] at hl
  simp only [resS, List.getD_eq_getElem?_getD, List.getElem?_eq_getElem (show j < resL.length by omega), Option.getD_some]
  rw [hl]
theorem no_reads {W : World} (h : Lib.VarReads Tryd.prog W "docket/kinds.nothing" (.agg [.lit (.int .i64 0), .lit (.bool true)])) : NoTab W := by
  obtain ⟨g', t, cs, fuel, p, h1, h2, h3, h4⟩ := h
  obtain rfl : 0 = g' := Option.some.inj (g0n.symm.trans h1)
  obtain rfl : (74 : TypeId) = t := Option.some.inj (g0t.symm.trans h2)
  obtain ⟨y0, y1, n, hx, _, e0, e1⟩ := trod_struct2 Tryd.underlying74 h4
  obtain ⟨i0, hi, hy0, _⟩ := DataW.trod_int Tryd.underlying22 (show DataW.trod _ _ _ _ _ _ _ 22 _ = _ from e0)
  obtain ⟨b0, hb, hy1⟩ := DataW.trod_bool Tryd.underlying4 (show DataW.trod _ _ _ _ _ _ _ 4 _ = _ from e1)
  obtain ⟨hx1, -⟩ := Prod.mk.inj hx
  simp only [DataW.agg.injEq, List.cons.injEq, and_true] at hx1
  obtain ⟨ha, hc⟩ := hx1
  rw [hy0] at ha
  rw [hy1] at hc
  simp only [DataW.lit.injEq, Lit.int.injEq, Lit.bool.injEq, true_and] at ha hc
  subst ha hc
  have z0 := congrArg (·[0]?) hi
  have z1 := congrArg (·[0]?) hb
  refine ⟨?_, ?_⟩
  · rw [World.var?_cell g0n h3 0]
    simpa [List.getElem?_take, List.getElem?_drop, c28] using z0
  · rw [World.var?_cell g0n h3 1]
    simpa [List.getElem?_take, List.getElem?_drop, c4] using z1
theorem table1 {W : World} (h : laidMetH Tryd.prog [("docket/text.reserved", Rows.laid_docket_text_reserved)] W) : ResTab W 1 ∧ 1 < W.heap.size := by
  rw [MakeChecks.laidMetH_plain _ _ _ (by kernel_rfl)] at h
  have a := res_reads g2n g2t (Lib.laidMet.reads h (.head _))
  exact ⟨a, block_lt_of_cell (a 0 (by decide))⟩
def setO (v : Array Value) : Obj → Obj
  | .cells _ t frozen => .cells v t frozen
  | o => o
/-- A world for the witnesses: the settled one, the tables holding what their initialisers lay. -/
noncomputable def laidStart (os : Os) : World :=
  { World.holding Tryd.prog os ⟨#[], #[], []⟩ with heap := (((World.holding Tryd.prog os ⟨#[], #[], []⟩).heap.modify 0 (setO #[.int .i64 0, .bool true])).modify 1 (setO (resL.map fun l => Value.string ⟨l.toArray⟩).toArray)) }
section
variable {H : Type} {enc : TypeId × Value → H} {W : World} {fuel : Nat}
theorem open_textsL {cs : List Value} {x : DataW H × List MemPlace} (h : DataW.trod enc Tryd.prog W 0 (fun _ => true) true fuel 23 cs = some x) (hw : ∀ n ∈ x.1.weights Tryd.prog 23, n ≤ reachBytes) :
    ∃ a n c ks, cs = [.slice a n c] ∧ RS 1 Sv W a n c ks ∧ n ≤ 8796093022208 := by
  rcases open_strings Tryd.underlying23 Tryd.underlying9 c9 h with ⟨rfl, _⟩ | ⟨x, l, c, zs, rfl, _, hl, hm, hz, rfl, hcell, hwz⟩
  · exact ⟨none, 0, 0, [], rfl, ⟨rfl, Nat.le_refl _, by omega, fun i x h => by simp at h⟩, by omega⟩
  · simp only [if_true] at hz
    have := hw _ (by simp only [DataW.weights, Tryd.underlying23]; exact List.mem_cons_self)
    simp only [strs, List.length_map, List.length_take, List.length_drop, by9, reachBytes] at this
    refine ⟨some x, l, c, zs.take l, rfl, ⟨by simp; omega, hl, by omega, fun i y hy => ?_⟩, by omega⟩
    have hil : i < l := by have := (List.getElem?_eq_some_iff.1 hy).1; simp at this; omega
    obtain ⟨b, off, rfl⟩ := spot_row (fun j hj => ⟨_, hcell j hj⟩) (by omega)
    refine ⟨b, off, rfl, fun j v hv => ?_⟩
    have hj : j = 0 := by have := (List.getElem?_eq_some_iff.1 hv).1; simp [Sv] at this; omega
    subst hj
    have h1 := hcell i (by omega)
    rw [Addr.add_lit] at h1
    rw [Nat.mul_one, Nat.add_zero, h1]
    rw [List.getElem?_take_of_lt hil] at hy
    simp only [Sv, List.getElem?_cons_zero, Option.some.injEq] at hv
    rw [← hv, List.getD_eq_getElem?_getD, hy]; rfl
end
end Go.Proofs.YtcnckjlmldnblaaDoor
