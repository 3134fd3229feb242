import Derived.Test.YtcnckjlmldnblaaDoorT1
import Derived.Test.YtcnckjlmldnblaaDoorT3
import Derived.Test.YtcnckjlmldnblaaDoorE70
import Derived.SliceStrings
import Derived.Deep.Slices
namespace Go.Proofs.YtcnckjlmldnblaaDoor
open Go Go.RowKit
set_option linter.unusedVariables false
set_option linter.unusedSimpArgs false
open Go.ChangeShapes Go.WideShapes
section
variable {P : Program} {w : World} {ops : Array Oper} {rest : List Oper} {o : Oper} {a : Act} {Q : Exit → Act → World → Prop}
theorem l3 {α : Type} {l : List α} (h : l.length = 3) : ∃ a b c, l = [a, b, c] := by
  match l, h with
  | [a, b, c], _ => exact ⟨a, b, c, rfl⟩
end
theorem c34 : Tryd.prog.cellsOf 76 = 3 := by kernel_rfl
theorem c30 : Tryd.prog.cellsOf 74 = 2 := by kernel_rfl
theorem by34 : Tryd.prog.bytesOf 76 = 32 := by kernel_rfl
section
variable {H : Type} {enc : TypeId × Value → H} {W : World} {fuel : Nat}
theorem open_kind {cs : List Value} {x : DataW H × List MemPlace} (h : DataW.trod enc Tryd.prog W 0 (fun _ => true) true fuel 74 cs = some x) : ∃ b o, cs = [.int .i64 b, .bool o] := by
  obtain ⟨ys, n', -, rfl, hl, hyl, hf⟩ := DataW.trod_struct Tryd.underlying74 h
  rw [c30] at hl
  obtain ⟨v0, v1, rfl⟩ := l2 hl
  obtain ⟨y0, y1, rfl⟩ := l2 hyl
  have f0 : DataW.trod enc Tryd.prog W 0 (fun _ => true) true n' 22 (([v0, v1].drop 0).take (Tryd.prog.cellsOf 22)) = some y0 := hf 0 _ rfl
  have f1 : DataW.trod enc Tryd.prog W 0 (fun _ => true) true n' 4 (([v0, v1].drop 1).take (Tryd.prog.cellsOf 4)) = some y1 := hf 1 _ rfl
  simp only [c28, c4, List.drop_zero, List.drop_succ_cons, List.take_succ_cons, List.take_zero, List.getElem?_cons_zero, List.getElem?_cons_succ, List.take_nil] at f0 f1
  obtain ⟨b, h0, -, -⟩ := DataW.trod_int Tryd.underlying22 f0
  obtain ⟨o, h1, -⟩ := DataW.trod_bool Tryd.underlying4 f1
  simp only [List.cons.injEq, and_true] at h0 h1
  subst h0 h1
  exact ⟨b, o, rfl⟩
end
section
variable {H : Type} {enc : TypeId × Value → H} {W : World} {fuel : Nat}
theorem open_named {cs : List Value} {x : DataW H × List MemPlace} (h : DataW.trod enc Tryd.prog W 0 (fun _ => true) true fuel 76 cs = some x) : ∃ n : Nm, cs = n.cs := by
  obtain ⟨ys, n', -, rfl, hl, hyl, hf⟩ := DataW.trod_struct Tryd.underlying76 h
  rw [c34] at hl
  obtain ⟨v0, v1, v2, rfl⟩ := l3 hl
  obtain ⟨y0, y1, rfl⟩ := l2 hyl
  have f0 : DataW.trod enc Tryd.prog W 0 (fun _ => true) true n' 9 (([v0, v1, v2].drop 0).take (Tryd.prog.cellsOf 9)) = some y0 := hf 0 _ rfl
  have f1 : DataW.trod enc Tryd.prog W 0 (fun _ => true) true n' 74 (([v0, v1, v2].drop 1).take (Tryd.prog.cellsOf 74)) = some y1 := hf 1 _ rfl
  simp only [c9, c30, List.drop_zero, List.drop_succ_cons, List.take_succ_cons, List.take_zero, List.getElem?_cons_zero, List.getElem?_cons_succ, List.take_nil] at f0 f1
  obtain ⟨s, h0, -, -⟩ := DataW.trod_string Tryd.underlying9 f0
  obtain ⟨b, o, h1⟩ := open_kind f1
  simp only [List.cons.injEq, and_true] at h0 h1
  obtain ⟨rfl, rfl⟩ := h1
  subst h0
  exact ⟨⟨s, b, o⟩, rfl⟩
end
section
variable {H : Type} {enc : TypeId × Value → H} {W : World} {fuel : Nat}
theorem open_scope {cs : List Value} {x : DataW H × List MemPlace} (h : DataW.trod enc Tryd.prog W 0 (fun _ => true) true fuel 69 cs = some x) (hw : ∀ n ∈ x.1.weights Tryd.prog 69, n ≤ reachBytes) :
    ∃ a n c ns, cs = [.slice a n c] ∧ RS 3 Nm.cs W a n c ns := by
  rcases Go.Deep.open_slice Tryd.underlying69 h with ⟨rfl, _⟩ | ⟨a, len, cap, m, n, D, Pl, rfl, hb, hl, hm, hmm, rfl, hx⟩
  · exact ⟨none, 0, 0, [], rfl, ⟨rfl, Nat.le_refl _, by omega, fun i x h => by simp at h⟩⟩
  · simp only [if_true] at hmm
    have hmm' := hmm.symm
    subst hmm'
    rw [c34] at hx
    have hw0 := hw _ (by simp only [DataW.weights, Tryd.underlying69]; exact List.mem_cons_self)
    simp only [List.length_map, List.length_range, by34, reachBytes] at hw0
    have each : ∀ i, i < len → ∃ nd : Nm, (∀ j v, nd.cs[j]? = some v → W.cell? (a.add (i * 3 + j)) = some v) := by
      intro i hi
      obtain ⟨cs', h1, h2⟩ := hx i (by omega)
      obtain ⟨nd, rfl⟩ := open_named h2
      obtain ⟨_, h3, h4⟩ := World.cells?_some h1
      refine ⟨nd, fun j v hv => ?_⟩
      have hj : j < 3 := by have := (List.getElem?_eq_some_iff.1 hv).1; rwa [h3] at this
      rw [← Go.Deep.add_add, h4 j hj, hv]
    haveI : Inhabited Nm := ⟨⟨ByteArray.empty, 0, false⟩⟩
    obtain ⟨f, hf⟩ := Go.Deep.choose_lt each
    refine ⟨some a, len, cap, (List.range len).map f, rfl, ⟨by simp, hl, by omega, fun i nd hi => ?_⟩⟩
    have hil : i < len := by have := (List.getElem?_eq_some_iff.1 hi).1; simpa using this
    obtain rfl : f i = nd := by simpa [hil] using hi
    obtain ⟨b, off, rfl⟩ := spot_row (W := W) (n := 1) (fun j hj => ⟨_, by have := (hf 0 (by omega)) 0 _ rfl; simpa [show j = 0 by omega] using this⟩) (by omega)
    refine ⟨b, off, rfl, fun j v hv => ?_⟩
    have := (hf i hil) j v hv
    rwa [Addr.add_lit, ← Nat.add_assoc] at this
end
theorem table2 {W : World} (h : laidMetH Tryd.prog [("docket/text.reserved", Rows.laid_docket_text_reserved), ("docket/kinds.nothing", Rows.laid_docket_kinds_nothing)] W) : NoTab W ∧ ResTab W 1 ∧ 1 < W.heap.size := by
  rw [MakeChecks.laidMetH_plain _ _ _ (by kernel_rfl)] at h
  have a := res_reads g2n g2t (Lib.laidMet.reads h (.head _))
  exact ⟨no_reads (Lib.laidMet.reads h (.tail _ (.head _))), a, block_lt_of_cell (a 0 (by decide))⟩
end Go.Proofs.YtcnckjlmldnblaaDoor
