import Derived.Test.YteoggphafhcchaaD14
import Derived.WideKeyEntry
namespace Go.Proofs.Yteoggphafhcchaa
open Go Go.RowKit
set_option maxRecDepth 100000
set_option maxHeartbeats 1000000
set_option linter.unusedVariables false
set_option linter.unusedSimpArgs false
open Go.Maps Go.WideMaps Go.ChangeMaps
theorem sized_block (w : World) (b : Nat) (o : Obj) : (setBlock w b o).heap.size = w.heap.size := by simp [setBlock]
/-- m[k] = v in two steps: the entry first, then the store into it. -/
theorem entry_own {w : World} {b n : Nat} {D : DataW Unit} (h : w.ownsMap Try.prog 9 ptrR b n D) (hn : n < maxLen) {s : ByteArray} (hs : s.size ≤ maxLen) :
    ∃ (v0 : Value) (st : Value) (w1 : World), (Instr.mapEntry 37 (.map (some b)) (.string s)).run Try.prog w = .ok (.tuple #[v0, st]) w1 ∧ w.grownBy w1 (some b) ∧
      ∀ (g : Nat) (w2 : World), w2.heap[b]? = w1.heap[b]? → ∃ w3, (Instr.entryStore 37 (.map (some b)) st (.pointer (some ⟨g, 0, none⟩))).run Try.prog w2 = .ok () w3 ∧ w3.ownsMap Try.prog 9 ptrR b (n + 1) (D.put (kL s) (.lit (.int .i64 g))) ∧ w2.grownBy w3 (some b) := by
  have hup := fun g : Nat => h.update law9 Try.underlying37 hn (key9 hs) (show ptrR (.pointer (some ⟨g, 0, none⟩)) = some (.lit (.int .i64 g), []) from rfl)
  obtain ⟨es, clock, hb, F, hz, hD⟩ := h
  obtain ⟨v0, st, es1, clock1, hrun, -, hst⟩ := WideElems.entry_then_store (string_law Try.underlying9) Try.underlying37 zero57 hb F (key9 hs)
  have hlt : b < w.heap.size := (Array.getElem?_eq_some_iff.1 hb).1
  refine ⟨v0, _, _, hrun, ⟨rfl, rfl, rfl, by simp [setBlock], fun i _ hi => heap_setBlock_other hb _ (fun e => hi (by rw [e]))⟩, fun g w2 hw2 => ?_⟩
  rw [heap_setBlock_same hb] at hw2
  obtain ⟨es', clock', hr2, hr3⟩ := hst w2 (.pointer (some ⟨g, 0, none⟩)) hw2
  refine ⟨_, hr2, ?_, ⟨rfl, rfl, rfl, by simp [setBlock], fun i _ hi => heap_setBlock_other hw2 _ (fun e => hi (by rw [e]))⟩⟩
  obtain ⟨w', hr4, ⟨es4, ck4, hm4, hrest⟩, -⟩ := hup g
  rw [hr3] at hr4
  cases hr4
  rw [heap_setBlock_same hb] at hm4
  exact ⟨es4, ck4, (heap_setBlock_same hw2 _).trans hm4, hrest⟩
theorem clone_nil (w : World) : Calls Try.prog 19 #[.slice none 0 0] w fun e w' => e = .returned (.slice none 0 0) ∧ w' = w := by
  have hq := run_eql_nil_slice (P := Try.prog) w 24 5 none 0 0 0 0 Try.underlying24
  go_enter Try.func19, Try.ntmps19
  go_wp2_with fail
  trace_state
  go_ret
  exact ⟨rfl, rfl⟩
end Go.Proofs.Yteoggphafhcchaa
