import Derived.Test.YtoboabkaojfbaaaGreatDoorQ15
import Derived.Deep.RegionHeld3
import Derived.IntWalk
import Derived.Deep.MidRow
import Derived.Great.BuildSlice
namespace Go.Proofs.YtoboabkaojfbaaaGreatDoor
open Go Go.RowKit
set_option maxRecDepth 100000
set_option maxHeartbeats 1000000
set_option linter.unusedVariables false
set_option linter.unusedSimpArgs false

open Go.Maps Go.WideMaps Go.ChangeMaps
theorem load_dg (w : World) (g : Nat) (D : Array Value) (h : w.heap[g]? = some (.cells D 23 (0, 0))) (hs : D.size = 32) : (Instr.loadAt 23 (.pointer (some ⟨g, 0, none⟩))).run Tryz.prog w = .ok (.agg D) w := by
  have hr : w.rangeAt g 0 D.toList := fun j v hj => by
    rw [cell_of_row _ _ _ _ _ _ h, Nat.zero_add]
    simpa using hj
  have := run_loadAt_mid (P := Tryz.prog) w g 0 23 D.toList _ hr Tryz.underlying23 rfl (by rw [Array.length_toList, hs]; exact info38)
  rwa [Array.toArray_toList] at this
theorem exec_load {P : Program} {ρ : Operand → Value} {o : Oper} {ty : TypeId} {x : Operand} {v : Value} {w : World} (ho : o.op = .load ty x) (h : (Instr.loadAt ty (ρ x)).run P w = .ok v w) : (execOp ρ o).run P w = .ok (.value v) w := by
  unfold execOp
  simp only [ho, Sem.run_bind, h, Result.andThen_ok, Sem.run_pure]
section
variable {w w' : World} {ops : Array Oper} {o : Oper} {a : Act} {Q : Exit → Act → World → Prop} {K : Act → World → Prop} {E : Prop}
theorem S_value {v : Value} (hgd : o.guard = none) (hrun : (execOp a.eval o).run Tryz.prog w = .ok (.value v) w') (h : K (a.put o.dst v) w') : if Region.wanted o (yielded ops a.tmps) = true then Oper.wp Tryz.prog o a w K Q else E := by
  rw [if_pos (by simp [Region.wanted, hgd])]
  unfold Oper.wp
  rw [hrun, Oper.upon_value]
  exact h
theorem S_skip (hgd : o.guard = none) (hrun : (execOp a.eval o).run Tryz.prog w = .ok .skip w') (h : K (a.put o.dst undef) w') : if Region.wanted o (yielded ops a.tmps) = true then Oper.wp Tryz.prog o a w K Q else E := by
  rw [if_pos (by simp [Region.wanted, hgd])]
  unfold Oper.wp
  rw [hrun, Oper.upon_skip]
  exact h
/-- A slice literal of one element of many cells. -/
theorem exec_build1 {P : Program} {ρ : Operand → Value} {o : Oper} {t e : TypeId} {d : Operand} {D : Array Value} {ie : TypeInfo} {z : Value} (ho : o.op = .buildSlice t 1 #[(0, d)]) (hd : ρ d = .agg D) (hu : P.underlying t = some (.slice e)) (hie : P.info? e = some ie) (hz : ie.zero = some z) (hs : D.size = ie.size) (h0 : 0 < ie.size) (hsm : ie.size ≤ 1024) :
    (execOp ρ o).run P w = .ok (.value (.slice (some ⟨w.heap.size, 0, none⟩) 1 1)) (w.alloc (.cells D e)) := by
  have hf : Instr.fill (fun i => some (i * ie.size, ie.size)) ((Array.range (1 * ie.size)).map (z.cells[· % z.cells.size]!)) (#[(0, Value.agg D)] : Array (Nat × Value)).toList = some D := by
    have := Great.fill_whole h0 [Value.agg D] ((Array.range (1 * ie.size)).map (z.cells[· % z.cells.size]!)) (by intro v hv; rw [List.mem_singleton.1 hv]; exact hs) (by simp)
    simpa [Value.cells] using this
  unfold execOp
  simp only [ho, List.map_toArray, List.map_cons, List.map_nil, hd]
  rw [Sem.run_bind, run_buildSlice w t e 1 _ D ie z hu hie hz (by omega) (by omega) hf]
  rfl
end
set_option maxHeartbeats 8000000
end Go.Proofs.YtoboabkaojfbaaaGreatDoor
namespace Go.Proofs.YtoboabkaojfbaaaGreatDoor
open Go Go.RowKit
set_option maxRecDepth 100000
set_option maxHeartbeats 1000000
set_option linter.unusedVariables false
set_option linter.unusedSimpArgs false

open Go.Maps Go.WideMaps Go.ChangeMaps
theorem cellA (D : Array Value) (e : TypeId) (w : World) (i : Nat) (u : Value) (h : D.toList[i]? = some u) : (w.alloc (.cells D e)).cell? ((⟨w.heap.size, 0, none⟩ : Addr).add i) = some u := by
  have h0 : (w.alloc (.cells D e)).heap[w.heap.size]? = some (.cells D e (0, 0)) := heap_alloc_new _ _
  have ea : (⟨w.heap.size, 0, none⟩ : Addr).add i = ⟨w.heap.size, i, none⟩ := by by_cases h0 : i = 0 <;> simp [Addr.add, h0]
  rw [ea, cell_of_row _ _ i _ _ _ h0]
  simpa using h
theorem block_setCell' {w : World} {g i : Nat} {C : Array Value} {ty : TypeId} (h : w.heap[g]? = some (.cells C ty (0, 0))) (v : Value) : (w.setCell ⟨g, i, none⟩ v).heap[g]? = some (.cells (C.setIfInBounds i v) ty (0, 0)) :=
  heap_setCell_same w g i C ty v h
theorem row_setCell {w : World} {g i : Nat} {C : Array Value} {ty : TypeId} (h : w.heap[g]? = some (.cells C ty (0, 0))) (v : Value) : (w.setCell ⟨g, i, none⟩ v).heap[g]? = some (.cells (C.setIfInBounds i v) ty (0, 0)) ∧ w.grownBy (w.setCell ⟨g, i, none⟩ v) (some g) :=
  ⟨block_setCell' h v, ⟨rfl, rfl, rfl, by rw [World.size_setCell]; exact Nat.le_refl _, fun k _ hk => heap_setCell_other w ⟨g, i, none⟩ k v (fun e => hk (by rw [e]))⟩⟩
set_option maxHeartbeats 8000000
end Go.Proofs.YtoboabkaojfbaaaGreatDoor
namespace Go.Proofs.YtoboabkaojfbaaaGreatDoor
open Go Go.RowKit
set_option maxRecDepth 100000
set_option maxHeartbeats 1000000
set_option linter.unusedVariables false
set_option linter.unusedSimpArgs false

open Go.Maps Go.WideMaps Go.ChangeMaps
theorem alOld (w : World) (o : Obj) (i : Nat) (h : i < w.heap.size) : (w.alloc o).heap[i]? = w.heap[i]? :=
  ((Below.refl w.heap.size w).alloc (Nat.le_refl _) o).block i h
set_option maxHeartbeats 8000000
end Go.Proofs.YtoboabkaojfbaaaGreatDoor
namespace Go.Proofs.YtoboabkaojfbaaaGreatDoor
open Go Go.RowKit
set_option maxRecDepth 100000
set_option maxHeartbeats 1000000
set_option linter.unusedVariables false
set_option linter.unusedSimpArgs false

open Go.Maps Go.WideMaps Go.ChangeMaps
/-- A digest's array out of a row. -/
theorem load_dig {w : World} {b o : Nat} {D : Array Value} (hc : w.rangeAt b o D.toList) (hs : D.size = 32) : (Instr.loadAt 23 (.pointer (some ⟨b, o, none⟩))).run Tryz.prog w = .ok (.agg D) w := by
  have := run_loadAt_mid (P := Tryz.prog) w b o 23 D.toList _ hc Tryz.underlying23 rfl (by rw [Array.length_toList, hs]; exact info38)
  rwa [Array.toArray_toList] at this
set_option maxHeartbeats 8000000
end Go.Proofs.YtoboabkaojfbaaaGreatDoor
namespace Go.Proofs.YtoboabkaojfbaaaGreatDoor
open Go Go.RowKit
set_option maxRecDepth 100000
set_option maxHeartbeats 1000000
set_option linter.unusedVariables false
set_option linter.unusedSimpArgs false

open Go.Maps Go.WideMaps Go.ChangeMaps
def spE (s : Nat × Nat) : List Value := [.int .i64 (s.1 : Int), .int .i64 (s.2 : Int)]
set_option maxHeartbeats 8000000
end Go.Proofs.YtoboabkaojfbaaaGreatDoor
namespace Go.Proofs.YtoboabkaojfbaaaGreatDoor
open Go Go.RowKit
set_option maxRecDepth 100000
set_option maxHeartbeats 1000000
set_option linter.unusedVariables false
set_option linter.unusedSimpArgs false

open Go.Maps Go.WideMaps Go.ChangeMaps
theorem results_row_tmp {P : Program} {fn : Func} {p u : Tmp} {ty : TypeId} (h : fn.results = #[.cell p ty, .tmp u]) (tmps : Array Value) (w : World) (g : Nat) (t : TypeId) (cs : Array Value) (fr : Nat × Nat) (d : TypeDesc)
    (hp : tmps.getD p undef = .pointer (some ⟨g, 0, none⟩)) (hg : w.heap[g]? = some (.cells cs t fr))
    (hu : P.underlying ty = some d) (hd : (match d with | .struct _ | .array _ _ => true | _ => false) = true) (hi : (P.info? ty).map (·.size) = some cs.size) :
    (results fn tmps).run P w = .ok (.tuple #[.agg cs, tmps.getD u undef]) w := by
  rw [results_cell_tmp h, hp]
  simp [asAddr, run_loadVar_row w g t ty cs fr d hg hu hd hi, Result.andThen]
def sl23z : Value := .agg (dgA zDg.1)
/-- A slice literal of one digest. -/
theorem L_build1 {ops : Array Oper} {rest : List Oper} {o : Oper} {a : Act} {w : World} {Q : Exit → Act → World → Prop} (hg : o.guard = none) (d : Operand) (ho : o.op = .buildSlice 29 1 #[(0, d)]) (D : Array Value) (hd : a.eval d = .agg D) (hs : D.size = 32)
    (h : wpList Tryz.prog ops Q rest (a.put o.dst (.slice (some ⟨w.heap.size, 0, none⟩) 1 1)) (w.alloc (.cells D 23))) : wpList Tryz.prog ops Q (o :: rest) a w := by
  obtain ⟨ie, hie, hz0, hz1, hz2⟩ := info_parts sl23.inf
  have h32 : ie.size = 32 := by have := hz0; have := hz1; first | assumption | omega
  have hf : Instr.fill (fun i => some (i * ie.size, ie.size)) ((Array.range (1 * ie.size)).map ((sl23z).cells[· % (sl23z).cells.size]!)) (#[(0, Value.agg D)] : Array (Nat × Value)).toList = some D := by
    have := Great.fill_whole (s := ie.size) (by omega) [Value.agg D] ((Array.range (1 * ie.size)).map ((sl23z).cells[· % (sl23z).cells.size]!)) (by intro v hv; rw [List.mem_singleton.1 hv]; show D.size = ie.size; omega) (by simp)
    simpa [Value.cells] using this
  refine wpList_buildSlice hg 29 23 1 #[(0, d)] ho D ie sl23z Tryz.underlying29 hie ?_ (by omega) (by omega) ?_ h
  · first | assumption | exact hz1
  · simp only [List.map_toArray, List.map_cons, List.map_nil, hd]
    exact hf
set_option maxHeartbeats 8000000
end Go.Proofs.YtoboabkaojfbaaaGreatDoor
namespace Go.Proofs.YtoboabkaojfbaaaGreatDoor
open Go Go.RowKit
set_option maxRecDepth 100000
set_option maxHeartbeats 8000000
set_option linter.unusedVariables false
set_option linter.unusedSimpArgs false
def zHd : Hd := ⟨zDg, 0, zDg, zDg, 0⟩
/-- A digest's cells, the array named. -/
def DgN (E : Array Value) (d : Dg) : Prop := E = dgA d.1 ∧ E.toList = dgE d ∧ E.size = 32 ∧ E.all (·.oneCell') = true
theorem dgN (d : Dg) : DgN (dgA d.1) d := ⟨rfl, by simp [dgA, dgE], by rw [dgA_size, d.2], dgA_all _⟩
theorem RdG.step {w w' : World} {B gr k : Nat} {s : Rs} (h : RdG w B gr s) (hg : w.grownBy w' (some k)) (hk : B ≤ k) (hne : k ≠ gr) : RdG w' B gr s := h.far hg hk (fun e => hne e.symm)
theorem grown_new {w0 w w' : World} {gr k : Nat} (h : w0.grownBy w (some gr)) (hg : w.grownBy w' (some k)) (hk : w0.heap.size ≤ k) : w0.grownBy w' (some gr) :=
  ⟨hg.os.trans h.os, hg.tape.trans h.tape, hg.output.trans h.output, Nat.le_trans h.size hg.size, fun j hj hne => (hg.block j (Nat.lt_of_lt_of_le hj h.size) (fun e => by have := Option.some.inj e; omega)).trans (h.block j hj hne)⟩
theorem grown_alloc' {w0 w : World} {gr : Nat} (h : w0.grownBy w (some gr)) (o : Obj) : w0.grownBy (w.alloc o) (some gr) :=
  grown_trans h (by
    have hb := (Below.refl w.heap.size w).alloc (Nat.le_refl _) o
    exact ⟨hb.os, hb.tape, hb.output, hb.size, fun k hk _ => hb.block k hk⟩)
theorem L_value {ops : Array Oper} {rest : List Oper} {o : Oper} {a : Act} {w w' : World} {Q : Exit → Act → World → Prop} {v : Value} (hgd : o.guard = none) (hrun : (execOp a.eval o).run Tryz.prog w = .ok (.value v) w') (h : wpList Tryz.prog ops Q rest (a.put o.dst v) w') : wpList Tryz.prog ops Q (o :: rest) a w :=
  wpList_plain hgd fun _ hK => by
    unfold Oper.wp
    rw [hrun, Oper.upon_value]
    exact hK _ _ h
theorem exec_build25 {ρ : Operand → Value} {o : Oper} (ho : o.op = .build 25 #[]) (w : World) : (execOp ρ o).run Tryz.prog w = .ok (.value (.agg (hdA zHd))) w := by
  have hb : (Instr.build 25 #[]).run Tryz.prog w = .ok (.agg (hdA zHd)) w := run_build w 25 #[] _ (by kernel_rfl)
  unfold execOp
  simp only [ho, List.map_toArray, List.map_nil, Sem.run_bind, hb, Result.andThen_ok, Sem.run_pure]
theorem rTake_lt (k : Nat) (s : Rs) (m : Nat) (h : 256 ^ k ≤ m) : (rTake k s).1 < m := by
  have h0 : 0 < 256 ^ k := Nat.pow_pos (by decide)
  unfold rTake
  split
  · show 0 < m; omega
  · split
    · show 0 < m; omega
    · rename_i h2
      have := valN_lt (s.1.take k)
      rw [List.length_take, show min k s.1.length = k by omega] at this
      show valN (s.1.take k) < m
      omega
/-- head.take. -/
theorem takeH_any (w : World) (B gr : Nat) (s : Rs) (h : RdG w B gr s) (hB : B ≤ w.heap.size) :
    Calls Tryz.prog 168 #[.pointer (some ⟨gr, 0, none⟩)] w fun e w' => e = .returned (.tuple #[.agg (hdA ((rHead s).1.getD zHd)), .bool (rHead s).1.isSome]) ∧ RdG w' B gr (rHead s).2 ∧ w.grownBy w' (some gr) := by
  obtain ⟨k, hk⟩ : ∃ k, k = rTake 1 s := ⟨_, rfl⟩
  obtain ⟨l, hl⟩ : ∃ l, l = rDg k.2 := ⟨_, rfl⟩
  obtain ⟨z, hz⟩ : ∃ z, z = rTake 8 l.2 := ⟨_, rfl⟩
  obtain ⟨r, hr⟩ : ∃ r, r = rDg z.2 := ⟨_, rfl⟩
  obtain ⟨x, hx⟩ : ∃ x, x = rDg r.2 := ⟨_, rfl⟩
  obtain ⟨c, hc⟩ : ∃ c, c = rTake 8 x.2 := ⟨_, rfl⟩
  have HRES := Lib.hid (show rHead s = (if c.2.2 ≠ 0 ∨ k.1 ≠ 32 ∨ 1099511627776 < z.1 ∨ 4611686018427387904 < c.1 then none else some ⟨l.1, z.1, r.1, x.1, c.1⟩, c.2) by subst hc; subst hx; subst hr; subst hz; subst hl; subst hk; rfl)
  have HBW := Lib.hid (show B ≤ w.heap.size ∧ gr < w.heap.size from ⟨hB, h.lt⟩)
  have HK := Lib.hid hk; have HL := Lib.hid hl; have HZ := Lib.hid hz; have HR := Lib.hid hr; have HX := Lib.hid hx; have HC := Lib.hid hc
  have H0 := Lib.hid h
  clear hk hl hz hr hx hc h hB
  go_enter Tryz.func168, Tryz.ntmps168
  go_upto_region 1 with (fail)
  change Code.wp Tryz.prog _ _ _ (w.alloc o25)
  obtain ⟨g2, hg2⟩ : ∃ g2, g2 = w.heap.size := ⟨_, rfl⟩
  rw [← hg2]
  have HG2 := Lib.hid hg2
  have HO1 := Lib.hid (show (w.alloc o25).heap[g2]? = some o25 by rw [hg2]; exact heap_alloc_new w _)
  have HD1 := Lib.hid (H0.out.below ((Below.refl w.heap.size w).alloc (Nat.le_refl _) o25))
  have HW1 := Lib.hid (grown_alloc' (grown_refl w (some gr)) o25)
  have HS1 := Lib.hid (show (w.alloc o25).heap.size = w.heap.size + 1 by simp)
  clear hg2
  generalize w.alloc o25 = w1 at *
  have HC1 := Lib.hid (take8_any w1 B gr s HD1.out)
  rw [← HK.out] at HC1
  go_upto_region 2 with (go_at_call 99; (with_reducible refine HC1.out.mono ?_); rintro e w2 ⟨rfl, hr2, hg2⟩; have HD2 := Lib.hid hr2; have HW2 := Lib.hid (grown_trans HW1.out hg2); have HO2 := Lib.hid (blk_keep hg2 HO1.out (by have := HG2.out; have := HBW.out; omega)); have HS2 := Lib.hid (show g2 < w2.heap.size by have := hg2.size; have := HS1.out; have := HG2.out; omega); clear hr2 hg2)
  go_upto_region 3 with (fail)
  change Code.wp Tryz.prog _ _ _ (w2.alloc o25)
  obtain ⟨g5, hg5⟩ : ∃ g5, g5 = w2.heap.size := ⟨_, rfl⟩
  rw [← hg5]
  have HG5 := Lib.hid (show g2 < g5 ∧ w.heap.size ≤ g5 ∧ gr < g5 ∧ B ≤ g5 by have := HS2.out; have := HG2.out; have := HBW.out; omega)
  have HQ3 := Lib.hid (show (w2.alloc o25).heap[g5]? = some o25 by rw [hg5]; exact heap_alloc_new w2 _)
  have HO3 := Lib.hid (show (w2.alloc o25).heap[g2]? = some o25 from (alOld w2 o25 g2 HS2.out).trans HO2.out)
  have HD3 := Lib.hid (HD2.out.below ((Below.refl w2.heap.size w2).alloc (Nat.le_refl _) o25))
  have HW3 := Lib.hid (grown_alloc' HW2.out o25)
  have HB3 := Lib.hid (show B ≤ (w2.alloc o25).heap.size by have := HBW.out; have := HW3.out.size; omega)
  clear hg5
  generalize w2.alloc o25 = w3 at *
  have HC3 := Lib.hid (digest_g w3 B gr k.2 HD3.out HB3.out)
  rw [← HL.out] at HC3
  obtain ⟨E3, hE3⟩ : ∃ E, E = dgA l.1.1 := ⟨_, rfl⟩
  have HE3 := Lib.hid (show DgN E3 l.1 by rw [hE3]; exact dgN _)
  rw [← hE3] at HC3
  clear hE3
  go_upto_region 4 with (first
    | (go_at_call 104; (with_reducible refine HC3.out.mono ?_); rintro e w3a ⟨rfl, hr, hg⟩; have HD3a := Lib.hid hr; have HW3a := Lib.hid (grown_trans HW3.out hg); have HO3a := Lib.hid (blk_keep hg HO3.out (by have := HG2.out; have := HBW.out; omega)); have HQ3a := Lib.hid (blk_keep hg HQ3.out (by have := HG5.out; omega)); clear hr hg)
    | (refine wpList_store_mid rfl 23 (.tmp 12) (.tmp 11) (by rfl) g5 0 E3 (by rfl) (by rfl) (by rw [HE3.out.2.2.1]; exact HB.there (show w3a.heap[g5]? = some (.cells (HB zDg 0 zDg zDg 0).toArray 25) from HQ3a.out) 0 32 (by omega)) (by rw [HE3.out.2.2.1]; exact info38) HE3.out.2.2.2 ?_))
  have hgs := setCells_grown g5 E3.toList 0 w3a
  have HD4 := Lib.hid (HD3a.out.step hgs (by have := HG5.out; omega) (by have := HG5.out; omega))
  have HW4 := Lib.hid (grown_new HW3a.out hgs (by have := HG5.out; omega))
  have HO4 := Lib.hid (blk_keep hgs HO3a.out (by have := HG5.out; omega))
  have HQ4 := Lib.hid (show (w3a.setCells g5 0 E3.toList).heap[g5]? = some (.cells (HB l.1 0 zDg zDg 0).toArray 25) by rw [HE3.out.2.1]; exact HB.s_log (show w3a.heap[g5]? = some (.cells (HB zDg 0 zDg zDg 0).toArray 25) from HQ3a.out) _)
  have HB4 := Lib.hid (show B ≤ (w3a.setCells g5 0 E3.toList).heap.size by have := HBW.out; have := HW4.out.size; omega)
  clear hgs
  generalize w3a.setCells g5 0 E3.toList = w4 at *
  have HC4 := Lib.hid (take64_any w4 B gr l.2 HD4.out)
  rw [← HZ.out] at HC4
  go_upto_region 5 with (go_at_call 103; (with_reducible refine HC4.out.mono ?_); rintro e w5 ⟨rfl, hr, hg⟩; have HD5 := Lib.hid hr; have HW5 := Lib.hid (grown_trans HW4.out hg); have HO5 := Lib.hid (blk_keep hg HO4.out (by have := HG2.out; have := HBW.out; omega)); have HQ5 := Lib.hid (blk_keep hg HQ4.out (by have := HG5.out; omega)); have HB5 := Lib.hid (show B ≤ w5.heap.size by have := HB4.out; have := hg.size; omega); clear hr hg)
  have HC5 := Lib.hid (digest_g w5 B gr z.2 HD5.out HB5.out)
  rw [← HR.out] at HC5
  obtain ⟨E5, hE5⟩ : ∃ E, E = dgA r.1.1 := ⟨_, rfl⟩
  have HE5 := Lib.hid (show DgN E5 r.1 by rw [hE5]; exact dgN _)
  rw [← hE5] at HC5
  clear hE5
  go_upto_region 6 with (first
    | (go_at_call 104; (with_reducible refine HC5.out.mono ?_); rintro e w5a ⟨rfl, hr, hg⟩; have HD5a := Lib.hid hr; have HW5a := Lib.hid (grown_trans HW5.out hg); have HO5a := Lib.hid (blk_keep hg HO5.out (by have := HG2.out; have := HBW.out; omega)); have HQ5a := Lib.hid (blk_keep hg HQ5.out (by have := HG5.out; omega)); clear hr hg)
    | (refine wpList_store_mid rfl 23 (.tmp 17) (.tmp 16) (by rfl) g5 33 E5 (by rfl) (by rfl) (by rw [HE5.out.2.2.1]; exact HB.there (show w5a.heap[g5]? = some (.cells (HB l.1 0 zDg zDg 0).toArray 25) from HQ5a.out) 33 32 (by omega)) (by rw [HE5.out.2.2.1]; exact info38) HE5.out.2.2.2 ?_))
  have hgs := setCells_grown g5 E5.toList 33 w5a
  have HD6 := Lib.hid (HD5a.out.step hgs (by have := HG5.out; omega) (by have := HG5.out; omega))
  have HW6 := Lib.hid (grown_new HW5a.out hgs (by have := HG5.out; omega))
  have HO6 := Lib.hid (blk_keep hgs HO5a.out (by have := HG5.out; omega))
  have HQ6 := Lib.hid (show (w5a.setCells g5 33 E5.toList).heap[g5]? = some (.cells (HB l.1 0 r.1 zDg 0).toArray 25) by rw [HE5.out.2.1]; exact HB.s_root (show w5a.heap[g5]? = some (.cells (HB l.1 0 zDg zDg 0).toArray 25) from HQ5a.out) _)
  have HB6 := Lib.hid (show B ≤ (w5a.setCells g5 33 E5.toList).heap.size by have := HBW.out; have := HW6.out.size; omega)
  clear hgs
  generalize w5a.setCells g5 33 E5.toList = w6 at *
  have HC6 := Lib.hid (digest_g w6 B gr r.2 HD6.out HB6.out)
  rw [← HX.out] at HC6
  obtain ⟨E6, hE6⟩ : ∃ E, E = dgA x.1.1 := ⟨_, rfl⟩
  have HE6 := Lib.hid (show DgN E6 x.1 by rw [hE6]; exact dgN _)
  rw [← hE6] at HC6
  clear hE6
  go_upto_region 7 with (first
    | (go_at_call 104; (with_reducible refine HC6.out.mono ?_); rintro e w6a ⟨rfl, hr, hg⟩; have HD6a := Lib.hid hr; have HW6a := Lib.hid (grown_trans HW6.out hg); have HO6a := Lib.hid (blk_keep hg HO6.out (by have := HG2.out; have := HBW.out; omega)); have HQ6a := Lib.hid (blk_keep hg HQ6.out (by have := HG5.out; omega)); clear hr hg)
    | (refine wpList_store_mid rfl 23 (.tmp 20) (.tmp 19) (by rfl) g5 65 E6 (by rfl) (by rfl) (by rw [HE6.out.2.2.1]; exact HB.there (show w6a.heap[g5]? = some (.cells (HB l.1 0 r.1 zDg 0).toArray 25) from HQ6a.out) 65 32 (by omega)) (by rw [HE6.out.2.2.1]; exact info38) HE6.out.2.2.2 ?_))
  have hgs := setCells_grown g5 E6.toList 65 w6a
  have HD7 := Lib.hid (HD6a.out.step hgs (by have := HG5.out; omega) (by have := HG5.out; omega))
  have HW7 := Lib.hid (grown_new HW6a.out hgs (by have := HG5.out; omega))
  have HO7 := Lib.hid (blk_keep hgs HO6a.out (by have := HG5.out; omega))
  have HQ7 := Lib.hid (show (w6a.setCells g5 65 E6.toList).heap[g5]? = some (.cells (HB l.1 0 r.1 x.1 0).toArray 25) by rw [HE6.out.2.1]; exact HB.s_index (show w6a.heap[g5]? = some (.cells (HB l.1 0 r.1 zDg 0).toArray 25) from HQ6a.out) _)
  have HB7 := Lib.hid (show B ≤ (w6a.setCells g5 65 E6.toList).heap.size by have := HBW.out; have := HW7.out.size; omega)
  clear hgs
  generalize w6a.setCells g5 65 E6.toList = w7 at *
  have HC7 := Lib.hid (take64_any w7 B gr x.2 HD7.out)
  rw [← HC.out] at HC7
  go_upto_region 8 with (go_at_call 103; (with_reducible refine HC7.out.mono ?_); rintro e w8 ⟨rfl, hr, hg⟩; have HD8 := Lib.hid hr; have HW8 := Lib.hid (grown_trans HW7.out hg); have HO8 := Lib.hid (blk_keep hg HO7.out (by have := HG2.out; have := HBW.out; omega)); have HQ8 := Lib.hid (blk_keep hg HQ7.out (by have := HG5.out; omega)); have HB8 := Lib.hid (show B ≤ w8.heap.size by have := HB7.out; have := hg.size; omega); clear hr hg)
  have HY8 := Lib.hid (why_any w8 B gr c.2 HD8.out)
  have HZL := Lib.hid (show z.1 < 18446744073709551616 ∧ c.1 < 18446744073709551616 by rw [HZ.out, HC.out]; exact ⟨rTake_lt 8 _ 18446744073709551616 (by decide +kernel), rTake_lt 8 _ 18446744073709551616 (by decide +kernel)⟩)
  obtain ⟨y, hy⟩ : ∃ y, y = c.2.2 := ⟨_, rfl⟩
  obtain ⟨kv, hkv⟩ : ∃ kv, kv = k.1 := ⟨_, rfl⟩
  obtain ⟨zv, hzv⟩ : ∃ zv, zv = z.1 := ⟨_, rfl⟩
  obtain ⟨cv, hcv⟩ : ∃ cv, cv = c.1 := ⟨_, rfl⟩
  rw [← hy, ← hkv, ← hzv, ← hcv] at HRES
  rw [← hzv, ← hcv] at HZL
  rw [← hy] at HY8
  rw [← hkv, ← hzv, ← hcv]
  clear hy hkv hzv hcv
  clear HC1 HC3 HC4 HC5 HC6 HC7
  clear HD1 HD2 HD3 HD3a HD4 HD5 HD5a HD6 HD6a HD7 HW1 HW2 HW3 HW3a HW4 HW5 HW5a HW6 HW6a HW7 HO1 HO2 HO3 HO3a HO4 HO5 HO5a HO6 HO6a HO7 HQ3 HQ3a HQ4 HQ5 HQ5a HQ6 HQ6a HQ7 HS1 HS2 HB3 HB4 HB5 HB6 HB7
  obtain ⟨Z, hZ⟩ : ∃ Z, Z = hdA zHd := ⟨_, rfl⟩
  have HZZ := Lib.hid hZ
  have HZS := Lib.hid (show Z.size = 98 by rw [hZ, hdA_size])
  have HZ1 := Lib.hid (show Z.all (·.oneCell') = true by rw [hZ]; exact hdA_one _)
  have HBD := Lib.hid (fun (ρ : Operand → Value) (o : Oper) (ho : o.op = .build 25 #[]) (w : World) => show (execOp ρ o).run Tryz.prog w = .ok (.value (.agg Z)) w by rw [hZ]; exact exec_build25 ho w)
  clear hZ
  have HN9 := Lib.hid (show (w8.setCells g2 0 Z.toList).heap[g2]? = some (.cells Z 25 (0, 0)) by have := setCells_all (show w8.heap[g2]? = some (.cells (HB zDg 0 zDg zDg 0).toArray 25) from HO8.out) Z.toList (by rw [Array.length_toList, HZS.out, List.size_toArray, HB_len]); simpa using this)
  have HT9 := Lib.hid (show w8.there g2 0 Z.size by rw [HZS.out]; exact HB.there (show w8.heap[g2]? = some (.cells (HB zDg 0 zDg zDg 0).toArray 25) from HO8.out) 0 98 (by omega))
  by_cases c1 : y = 0
  · by_cases c2 : kv = 32
    · by_cases c3 : 1099511627776 < zv
      · have HNO := Lib.hid (show rHead s = (none, c.2) by rw [HRES.out, if_pos (Or.inr (Or.inr (Or.inl c3)))])
        go_wp2_with (first
          | (go_at_call 102; (with_reducible refine HY8.out.mono ?_); rintro e w' ⟨rfl, e2⟩; have e2 := e2.symm; subst e2; have d1 : ((y : Int) == 0) = true := (by simp; omega); have d2 : ((kv : Int) == 32) = true := (by simp; omega); have d3 : decide (1099511627776 < (zv : Int)) = true := (by rw [decide_eq_true_eq]; omega))
          | (refine L_value rfl (HBD.out _ _ (by rfl) _) ?_)
          | (refine wpList_store_mid rfl 25 (.tmp 2) (.tmp 38) (by rfl) g2 0 Z (by rfl) (by rfl) HT9.out (by rw [HZS.out]; exact info25) HZ1.out ?_))
        refine bodyPost_ret (v := .tuple #[.agg Z, .bool false]) (results_row_tmp (p := 2) (u := 3) (ty := 25) rfl _ _ g2 25 Z (0, 0) _ rfl HN9.out Tryz.underlying25 rfl (by rw [HZS.out]; exact info25)) rfl ?_
        have hgs := setCells_grown g2 Z.toList 0 w8
        rw [HNO.out]
        exact ⟨by rw [HZZ.out]; rfl, HD8.out.step hgs (by have := HG2.out; have := HBW.out; omega) (by have := HG2.out; have := HBW.out; omega), grown_new HW8.out hgs (by have := HG2.out; omega)⟩
      · by_cases c4 : 4611686018427387904 < cv
        · have HNO := Lib.hid (show rHead s = (none, c.2) by rw [HRES.out, if_pos (Or.inr (Or.inr (Or.inr c4)))])
          go_wp2_with (first
            | (go_at_call 102; (with_reducible refine HY8.out.mono ?_); rintro e w' ⟨rfl, e2⟩; have e2 := e2.symm; subst e2; have d1 : ((y : Int) == 0) = true := (by simp; omega); have d2 : ((kv : Int) == 32) = true := (by simp; omega); have d3 : decide (1099511627776 < (zv : Int)) = false := (by rw [decide_eq_false_iff_not]; omega); have d4 : decide (4611686018427387904 < (cv : Int)) = true := (by rw [decide_eq_true_eq]; omega))
            | (refine L_value rfl (HBD.out _ _ (by rfl) _) ?_)
            | (refine wpList_store_mid rfl 25 (.tmp 2) (.tmp 38) (by rfl) g2 0 Z (by rfl) (by rfl) HT9.out (by rw [HZS.out]; exact info25) HZ1.out ?_))
          refine bodyPost_ret (v := .tuple #[.agg Z, .bool false]) (results_row_tmp (p := 2) (u := 3) (ty := 25) rfl _ _ g2 25 Z (0, 0) _ rfl HN9.out Tryz.underlying25 rfl (by rw [HZS.out]; exact info25)) rfl ?_
          have hgs := setCells_grown g2 Z.toList 0 w8
          rw [HNO.out]
          exact ⟨by rw [HZZ.out]; rfl, HD8.out.step hgs (by have := HG2.out; have := HBW.out; omega) (by have := HG2.out; have := HBW.out; omega), grown_new HW8.out hgs (by have := HG2.out; omega)⟩
        · have HYES := Lib.hid (show rHead s = (some ⟨l.1, zv, r.1, x.1, cv⟩, c.2) by rw [HRES.out, if_neg (by omega)])
          have HV1 := Lib.hid (show IntKind.i64.wrap (zv : Int) = (zv : Int) from IntWalk.i64_in _ (by omega))
          have HV2 := Lib.hid (show IntKind.i64.wrap (cv : Int) = (cv : Int) from IntWalk.i64_in _ (by omega))
          go_upto_region 10 with (go_at_call 102; (with_reducible refine HY8.out.mono ?_); rintro e w' ⟨rfl, e2⟩; have e2 := e2.symm; subst e2; have d1 : ((y : Int) == 0) = true := (by simp; omega); have d2 : ((kv : Int) == 32) = true := (by simp; omega); have d3 : decide (1099511627776 < (zv : Int)) = false := (by rw [decide_eq_false_iff_not]; omega); have d4 : decide (4611686018427387904 < (cv : Int)) = false := (by rw [decide_eq_false_iff_not]; omega))
          clear c1 c2 c3 c4
          have hq8 : w8.heap[g5]? = some (.cells (HB l.1 0 r.1 x.1 0).toArray 25) := HQ8.out
          have k32 := HB.at_size hq8
          have f32 := frozen_of_row w8 g5 32 _ _ hq8
          have hq9 := HB.s_size hq8 (zv : Int)
          have k97 := HB.at_clock hq9
          have f97 := frozen_of_row (w8.setCell ⟨g5, 32, none⟩ (.int .i64 (zv : Int))) g5 97 _ _ hq9
          have HQ10 := Lib.hid (HB.s_clock hq9 (cv : Int))
          have hw1 := HV1.out
          have hw2 := HV2.out
          clear hq8 hq9
          go_upto_region 11 with (fail)
          clear hw1 hw2
          have hgs : w8.grownBy ((w8.setCell ⟨g5, 32, none⟩ (.int .i64 (zv : Int))).setCell ⟨g5, 97, none⟩ (.int .i64 (cv : Int))) (some g5) := grown_trans (grown_set (grown_refl w8 (some g5)) 0 32 _) (grown_set (grown_refl _ (some g5)) 0 97 _)
          have HD10 := Lib.hid (HD8.out.step hgs (by have := HG5.out; omega) (by have := HG5.out; omega))
          have HW10 := Lib.hid (grown_new HW8.out hgs (by have := HG5.out; omega))
          have HO10 := Lib.hid (blk_keep hgs HO8.out (by have := HG5.out; omega))
          clear hgs k32 f32 k97 f97
          generalize (w8.setCell ⟨g5, 32, none⟩ (.int .i64 (zv : Int))).setCell ⟨g5, 97, none⟩ (.int .i64 (cv : Int)) = w10 at *
          obtain ⟨F, hF⟩ : ∃ F, F = hdA ⟨l.1, zv, r.1, x.1, cv⟩ := ⟨_, rfl⟩
          have HF := Lib.hid hF
          have HQF := Lib.hid (show w10.heap[g5]? = some (.cells F 25 (0, 0)) by rw [hF]; exact HQ10.out)
          have HFS := Lib.hid (show F.size = 98 by rw [hF, hdA_size])
          have HF1 := Lib.hid (show F.all (·.oneCell') = true by rw [hF]; exact hdA_one _)
          have HT10 := Lib.hid (show w10.there g2 0 F.size by rw [HFS.out]; exact HB.there (show w10.heap[g2]? = some (.cells (HB zDg 0 zDg zDg 0).toArray 25) from HO10.out) 0 98 (by omega))
          have HN10 := Lib.hid (show (w10.setCells g2 0 F.toList).heap[g2]? = some (.cells F 25 (0, 0)) by have := setCells_all (show w10.heap[g2]? = some (.cells (HB zDg 0 zDg zDg 0).toArray 25) from HO10.out) F.toList (by rw [Array.length_toList, HFS.out, List.size_toArray, HB_len]); simpa using this)
          clear hF
          go_wp2_with (first
            | (refine wpList_load_row rfl 25 (.tmp 5) (by rfl) g5 (by rfl) 25 F (0, 0) _ HQF.out Tryz.underlying25 rfl (by rw [HFS.out]; exact info25) ?_)
            | (refine wpList_store_mid rfl 25 (.tmp 2) (.tmp 45) (by rfl) g2 0 F (by rfl) (by rfl) HT10.out (by rw [HFS.out]; exact info25) HF1.out ?_))
          refine bodyPost_ret (v := .tuple #[.agg F, .bool true]) (results_row_tmp (p := 2) (u := 3) (ty := 25) rfl _ _ g2 25 F (0, 0) _ rfl HN10.out Tryz.underlying25 rfl (by rw [HFS.out]; exact info25)) rfl ?_
          have hgs := setCells_grown g2 F.toList 0 w10
          rw [HYES.out]
          exact ⟨by rw [HF.out]; rfl, HD10.out.step hgs (by have := HG2.out; have := HBW.out; omega) (by have := HG2.out; have := HBW.out; omega), grown_new HW10.out hgs (by have := HG2.out; omega)⟩
    · have HNO := Lib.hid (show rHead s = (none, c.2) by rw [HRES.out, if_pos (Or.inr (Or.inl c2))])
      go_wp2_with (first
        | (go_at_call 102; (with_reducible refine HY8.out.mono ?_); rintro e w' ⟨rfl, e2⟩; have e2 := e2.symm; subst e2; have d1 : ((y : Int) == 0) = true := (by simp; omega); have d2 : ((kv : Int) == 32) = false := (by simp; omega))
        | (refine L_value rfl (HBD.out _ _ (by rfl) _) ?_)
        | (refine wpList_store_mid rfl 25 (.tmp 2) (.tmp 38) (by rfl) g2 0 Z (by rfl) (by rfl) HT9.out (by rw [HZS.out]; exact info25) HZ1.out ?_))
      refine bodyPost_ret (v := .tuple #[.agg Z, .bool false]) (results_row_tmp (p := 2) (u := 3) (ty := 25) rfl _ _ g2 25 Z (0, 0) _ rfl HN9.out Tryz.underlying25 rfl (by rw [HZS.out]; exact info25)) rfl ?_
      have hgs := setCells_grown g2 Z.toList 0 w8
      rw [HNO.out]
      exact ⟨by rw [HZZ.out]; rfl, HD8.out.step hgs (by have := HG2.out; have := HBW.out; omega) (by have := HG2.out; have := HBW.out; omega), grown_new HW8.out hgs (by have := HG2.out; omega)⟩
  · have HNO := Lib.hid (show rHead s = (none, c.2) by rw [HRES.out, if_pos (Or.inl c1)])
    go_wp2_with (first
      | (go_at_call 102; (with_reducible refine HY8.out.mono ?_); rintro e w' ⟨rfl, e2⟩; have e2 := e2.symm; subst e2; have d1 : ((y : Int) == 0) = false := (by simp; omega))
      | (refine L_value rfl (HBD.out _ _ (by rfl) _) ?_)
      | (refine wpList_store_mid rfl 25 (.tmp 2) (.tmp 38) (by rfl) g2 0 Z (by rfl) (by rfl) HT9.out (by rw [HZS.out]; exact info25) HZ1.out ?_))
    refine bodyPost_ret (v := .tuple #[.agg Z, .bool false]) (results_row_tmp (p := 2) (u := 3) (ty := 25) rfl _ _ g2 25 Z (0, 0) _ rfl HN9.out Tryz.underlying25 rfl (by rw [HZS.out]; exact info25)) rfl ?_
    have hgs := setCells_grown g2 Z.toList 0 w8
    rw [HNO.out]
    exact ⟨by rw [HZZ.out]; rfl, HD8.out.step hgs (by have := HG2.out; have := HBW.out; omega) (by have := HG2.out; have := HBW.out; omega), grown_new HW8.out hgs (by have := HG2.out; omega)⟩
end Go.Proofs.YtoboabkaojfbaaaGreatDoor
