import Derived.Test.YtoboabkaojfbaaaGreatDoorQ18
import Derived.Test.YtoboabkaojfbaaaGreatDoorQ16
import Derived.Test.YtoboabkaojfbaaaGreatDoorQ15
import Derived.Test.YtoboabkaojfbaaaGreatDoorQ13
import Derived.Shelf.SlSortCmp.NoneTotal
namespace Go.Proofs.YtoboabkaojfbaaaGreatDoor
open Go Go.RowKit
set_option maxRecDepth 100000
set_option maxHeartbeats 8000000
set_option linter.unusedVariables false
set_option linter.unusedSimpArgs false
/-! A head laid down. -/
theorem ds_block {w : World} {g : Nat} {ds : List Dg} {C : Array Value} (h : w.heap[g]? = some (.cells C 23 (0, 0))) (hC : C.toList = ds.flatMap dgE) (hn : ds.length ≤ 281474976710656) : DS w (some ⟨g, 0, none⟩) ds.length ds.length ds :=
  ⟨rfl, Nat.le_refl _, hn, fun i x hx => ⟨g, 0, rfl, fun j v hj => by
    have := flat_get dgE 32 dgE_len ds i x hx j v hj
    rw [cell_of_row _ _ _ _ _ _ h, Nat.zero_add]
    show C[i * 32 + j]? = some v
    rw [← Array.getElem?_toList, hC]
    exact this⟩⟩
theorem L_build2 {ops : Array Oper} {rest : List Oper} {o : Oper} {a : Act} {w : World} {Q : Exit → Act → World → Prop} (hg : o.guard = none) (d e : Operand) (ho : o.op = .buildSlice 29 2 #[(0, d), (1, e)]) (D E : Array Value) (hd : a.eval d = .agg D) (he : a.eval e = .agg E) (hs : D.size = 32) (hs2 : E.size = 32)
    (h : wpList Tryz.prog ops Q rest (a.put o.dst (.slice (some ⟨w.heap.size, 0, none⟩) 2 2)) (w.alloc (.cells (D.toList ++ E.toList).toArray 23))) : wpList Tryz.prog ops Q (o :: rest) a w := by
  obtain ⟨ie, hie, hz0, hz1, hz2⟩ := info_parts sl23.inf
  have h32 : ie.size = 32 := by have := hz0; have := hz1; first | assumption | omega
  have hf : Instr.fill (fun i => some (i * ie.size, ie.size)) ((Array.range (2 * ie.size)).map ((sl23z).cells[· % (sl23z).cells.size]!)) (#[(0, Value.agg D), (1, Value.agg E)] : Array (Nat × Value)).toList = some (D.toList ++ E.toList).toArray := by
    have := Great.fill_whole (s := ie.size) (by omega) [Value.agg D, Value.agg E] ((Array.range (2 * ie.size)).map ((sl23z).cells[· % (sl23z).cells.size]!)) (by intro v hv; simp only [List.mem_cons, List.not_mem_nil, or_false] at hv; rcases hv with rfl | rfl; (· show D.size = ie.size; omega); (· show E.size = ie.size; omega)) (by simp)
    simpa [Value.cells] using this
  refine wpList_buildSlice hg 29 23 2 #[(0, d), (1, e)] ho (D.toList ++ E.toList).toArray ie sl23z Tryz.underlying29 hie ?_ (by omega) (by omega) ?_ h
  · first | assumption | exact hz1
  · simp only [List.map_toArray, List.map_cons, List.map_nil, hd, he]
    exact hf
theorem WrV.own {w : World} {B gw k : Nat} {v : Value} {l : List UInt8} (h : WrV w B gw v l) (hk : v.ownBlock = some k) : k < w.heap.size := (h.2.2.lt k hk).2
theorem WrV.gl {w : World} {B gw : Nat} {v : Value} {l : List UInt8} (h : WrV w B gw v l) : gw < w.heap.size := (Array.getElem?_eq_some_iff.1 h.2.1).1
/-- A block that is neither the writer's nor its row's. -/
theorem WO.keep {w w' : World} {B gw k : Nat} {v0 : Value} {l' : List UInt8} {o : Obj} (h : WO w w' B gw v0 l') (hk : w.heap[k]? = some o) (h1 : k ≠ gw) (h2 : some k ≠ v0.ownBlock) : w'.heap[k]? = some o := by
  obtain ⟨v, a, b, c⟩ := h
  exact (b.blk k (Array.getElem?_eq_some_iff.1 hk).1 h1 h2).trans hk
/-- head.lay. -/
theorem lay_any (w : World) (B gw : Nat) (v0 : Value) (l : List UInt8) (h : Hd) (hw : WrV w B gw v0 l) (hr : rightH h = true) (hl : l.length ≤ 1000000000) (hB : B ≤ w.heap.size) :
    Calls Tryz.prog 119 #[.pointer (some ⟨gw, 0, none⟩), .agg (hdA h)] w fun e w' => e = .returned (.tuple #[]) ∧ WO w w' B gw v0 (l ++ laidP h) := by
  simp only [rightH, Bool.and_eq_true, decide_eq_true_eq] at hr
  obtain ⟨lg, s, rt, ix, t⟩ := h
  simp only at hr
  obtain ⟨sz, rfl⟩ : ∃ sz : Nat, s = (sz : Int) := ⟨s.toNat, by omega⟩
  obtain ⟨ck, rfl⟩ : ∃ ck : Nat, t = (ck : Int) := ⟨t.toNat, by omega⟩
  have HSZ := Lib.hid (show sz ≤ 1099511627776 ∧ ck ≤ 4611686018427387904 by omega)
  obtain ⟨A, hA⟩ : ∃ A, A = hdA ⟨lg, sz, rt, ix, ck⟩ := ⟨_, rfl⟩
  have HA := Lib.hid (show A = (HB lg sz rt ix ck).toArray from hA)
  rw [← hA]
  have HFIN := Lib.hid (show l ++ laidP ⟨lg, sz, rt, ix, ck⟩ = ((((l ++ be 1 32) ++ lg.1) ++ be 8 sz) ++ (rt.1 ++ ix.1)) ++ be 8 ck by unfold laidP; simp only [List.append_assoc, Int.toNat_natCast])
  have HLL := Lib.hid hl
  have HBW := Lib.hid (show B ≤ w.heap.size ∧ gw < w.heap.size ∧ ∀ k, v0.ownBlock = some k → k < w.heap.size from ⟨hB, hw.gl, fun k hk => hw.own hk⟩)
  have HW0 := Lib.hid hw
  clear hA hr hl hB hw
  go_enter Tryz.func119, Tryz.ntmps119
  go_upto_region 1 with (fail)
  obtain ⟨g, hg⟩ : ∃ g, g = w.heap.size := ⟨_, rfl⟩
  rw [← hg]
  have HG := Lib.hid (show g = w.heap.size ∧ g ≠ gw ∧ some g ≠ v0.ownBlock from ⟨hg, by have := HBW.out.2.1; omega, fun e => by have := HBW.out.2.2 g e.symm; omega⟩)
  have HQ := Lib.hid (show (w.alloc (.cells A 25)).heap[g]? = some (.cells (HB lg sz rt ix ck).toArray 25) by rw [hg, ← HA.out]; exact heap_alloc_new w _)
  have HW1 := Lib.hid (HW0.out.below ((Below.refl w.heap.size w).alloc (Nat.le_refl _) (.cells A 25)))
  have HFR0 := Lib.hid (show FrC w (w.alloc (.cells A 25)) gw v0.ownBlock from FrC.of_below ((Below.refl w.heap.size w).alloc (Nat.le_refl _) (.cells A 25)))
  clear hg
  generalize w.alloc (.cells A 25) = w1 at *
  have HB1 := Lib.hid (show B ≤ w1.heap.size by have := HBW.out.1; have := HFR0.out.b.size; omega)
  have HP1 := Lib.hid (show Calls Tryz.prog 76 #[.pointer (some ⟨gw, 0, none⟩), .int .u8 32] w1 _ from put8_f w1 B gw l 32 v0 HW1.out (by have := HLL.out; omega) HB1.out)
  go_upto_region 2 with (go_at_call 76; (with_reducible refine HP1.out.mono ?_); rintro e w2 ⟨rfl, ho⟩; have HO2 := Lib.hid (show WO w1 w2 B gw v0 (l ++ be 1 32) from ho); clear ho)
  obtain ⟨v2, hv, hf, hob⟩ := HO2.out
  have HV2 := Lib.hid hv; have HF2 := Lib.hid hf; have HOB2 := Lib.hid hob
  have HQ2 := Lib.hid (HO2.out.keep HQ.out HG.out.2.1 HG.out.2.2)
  have HS2 := Lib.hid (show w1.heap.size ≤ w2.heap.size ∧ B ≤ w2.heap.size by have := hf.b.size; have := HB1.out; omega)
  clear hv hf hob
  obtain ⟨D8, hD⟩ : ∃ D, D = dgA lg.1 := ⟨_, rfl⟩
  have HD8 := Lib.hid (show DgN D8 lg by rw [hD]; exact dgN _)
  have HR8 := Lib.hid (show w2.rangeAt g 0 D8.toList by rw [HD8.out.2.1]; exact HB.r_log HQ2.out)
  clear hD
  have HL2 := Lib.hid (heap_alloc_new w2 (.cells D8 23))
  have HBL2 := Lib.hid ((Below.refl w2.heap.size w2).alloc (Nat.le_refl _) (.cells D8 23))
  have HC2 := Lib.hid (show Calls Tryz.prog 79 #[.pointer (some ⟨gw, 0, none⟩), .slice (some ⟨w2.heap.size, 0, none⟩) 1 1] (w2.alloc (.cells D8 23)) (fun e w' => e = .returned (.tuple #[]) ∧ WO (w2.alloc (.cells D8 23)) w' B gw v2 (l ++ be 1 32 ++ ([lg].map (·.1)).flatten)) from
    digs_f (w2.alloc (.cells D8 23)) B gw (l ++ be 1 32) v2 (HV2.out.below HBL2.out) (by have := HLL.out; simp only [List.length_append, be_len, Subtype.property]; omega) (by have := HS2.out; have := HBL2.out.size; omega) (some ⟨w2.heap.size, 0, none⟩) 1 1 [lg] (ds_block (ds := [lg]) HL2.out (by simp [HD8.out.2.1]) (by simp only [List.length_cons, List.length_nil]; omega)) (by decide) (fun x hx _ => by cases hx; exact ⟨by show w2.heap.size < _; rw [World.size_alloc]; omega, by have := HV2.out.gl; show w2.heap.size ≠ gw; omega, fun e => by have : w2.heap.size < w2.heap.size := HV2.out.own e.symm; omega⟩))
  go_upto_region 3 with (first
    | (refine L_load_arr rfl 23 (.tmp 7) (by rfl) g 0 (by rfl) D8 _ HR8.out Tryz.underlying23 rfl (by rw [HD8.out.2.2.1]; exact info38) ?_)
    | (refine L_build1 rfl (.tmp 8) (by rfl) D8 (by rfl) HD8.out.2.2.1 ?_)
    | (go_at_call 79; (with_reducible refine HC2.out.mono ?_); rintro e w3 ⟨rfl, ho⟩; have HP3 := Lib.hid ho; clear ho))
  have HO3 := Lib.hid (show WO w1 w3 B gw v0 (l ++ be 1 32 ++ ([lg].map (·.1)).flatten) from WO.trans (l := []) (HF2.out.trans (FrC.of_below HBL2.out) (.inl rfl)) HOB2.out HP3.out)
  have HO3 := Lib.hid (show WO w1 w3 B gw v0 ((l ++ be 1 32) ++ lg.1) by have := HO3.out; simpa using this)
  obtain ⟨v3, hv, hf, hob⟩ := HO3.out
  have HV3 := Lib.hid hv; have HF3 := Lib.hid hf; have HOB3 := Lib.hid hob
  have HQ3 := Lib.hid (HO3.out.keep HQ.out HG.out.2.1 HG.out.2.2)
  have HS3 := Lib.hid (show w1.heap.size ≤ w3.heap.size ∧ B ≤ w3.heap.size by have := hf.b.size; have := HB1.out; omega)
  clear hv hf hob
  have k32 : w3.cell? ⟨g, 32, none⟩ = some (.int .i64 (sz : Int)) := HB.at_size HQ3.out
  have hwr3 : IntKind.u64.wrap (sz : Int) = (sz : Int) := wrap_u64_nat (by have := HSZ.out; omega)
  have HN3 := Lib.hid (show (UInt64.ofNat sz).toNat = sz from UInt64.toNat_ofNat_of_lt' (by have := HSZ.out; show _ < 18446744073709551616; omega))
  have HC3 := Lib.hid (show Calls Tryz.prog 78 #[.pointer (some ⟨gw, 0, none⟩), .int .u64 (sz : Int)] w3 (fun e w' => e = .returned (.tuple #[]) ∧ WO w3 w' B gw v3 (((l ++ be 1 32) ++ lg.1) ++ be 8 sz)) by
    have := put64_f w3 B gw ((l ++ be 1 32) ++ lg.1) (UInt64.ofNat sz) v3 HV3.out (by have := HLL.out; simp only [List.length_append, be_len, Subtype.property]; omega) HS3.out.2
    rw [HN3.out] at this
    exact this)
  go_upto_region 4 with (go_at_call 78; (with_reducible refine HC3.out.mono ?_); rintro e w4 ⟨rfl, ho⟩; have HO4 := Lib.hid (show WO w1 w4 B gw v0 (((l ++ be 1 32) ++ lg.1) ++ be 8 sz) from WO.trans (l := []) HF3.out HOB3.out ho); clear ho)
  clear k32 hwr3
  obtain ⟨v4, hv, hf, hob⟩ := HO4.out
  have HV4 := Lib.hid hv; have HF4 := Lib.hid hf; have HOB4 := Lib.hid hob
  have HQ4 := Lib.hid (HO4.out.keep HQ.out HG.out.2.1 HG.out.2.2)
  have HS4 := Lib.hid (show w1.heap.size ≤ w4.heap.size ∧ B ≤ w4.heap.size by have := hf.b.size; have := HB1.out; omega)
  clear hv hf hob
  obtain ⟨D18, hD⟩ : ∃ D, D = dgA rt.1 := ⟨_, rfl⟩
  have HD18 := Lib.hid (show DgN D18 rt by rw [hD]; exact dgN _)
  have HR18 := Lib.hid (show w4.rangeAt g 33 D18.toList by rw [HD18.out.2.1]; exact HB.r_root HQ4.out)
  clear hD
  obtain ⟨D20, hD⟩ : ∃ D, D = dgA ix.1 := ⟨_, rfl⟩
  have HD20 := Lib.hid (show DgN D20 ix by rw [hD]; exact dgN _)
  have HR20 := Lib.hid (show w4.rangeAt g 65 D20.toList by rw [HD20.out.2.1]; exact HB.r_index HQ4.out)
  clear hD
  have HL4 := Lib.hid (heap_alloc_new w4 (.cells (D18.toList ++ D20.toList).toArray 23))
  have HBL4 := Lib.hid ((Below.refl w4.heap.size w4).alloc (Nat.le_refl _) (.cells (D18.toList ++ D20.toList).toArray 23))
  have HC4 := Lib.hid (show Calls Tryz.prog 79 #[.pointer (some ⟨gw, 0, none⟩), .slice (some ⟨w4.heap.size, 0, none⟩) 2 2] (w4.alloc (.cells (D18.toList ++ D20.toList).toArray 23)) (fun e w' => e = .returned (.tuple #[]) ∧ WO (w4.alloc (.cells (D18.toList ++ D20.toList).toArray 23)) w' B gw v4 (((l ++ be 1 32) ++ lg.1) ++ be 8 sz ++ ([rt, ix].map (·.1)).flatten)) from
    digs_f (w4.alloc (.cells (D18.toList ++ D20.toList).toArray 23)) B gw (((l ++ be 1 32) ++ lg.1) ++ be 8 sz) v4 (HV4.out.below HBL4.out) (by have := HLL.out; simp only [List.length_append, be_len, Subtype.property]; omega) (by have := HS4.out; have := HBL4.out.size; omega) (some ⟨w4.heap.size, 0, none⟩) 2 2 [rt, ix] (ds_block (ds := [rt, ix]) HL4.out (by simp [HD18.out.2.1, HD20.out.2.1]) (by simp only [List.length_cons, List.length_nil]; omega)) (by decide) (fun x hx _ => by cases hx; exact ⟨by show w4.heap.size < _; rw [World.size_alloc]; omega, by have := HV4.out.gl; show w4.heap.size ≠ gw; omega, fun e => by have : w4.heap.size < w4.heap.size := HV4.out.own e.symm; omega⟩))
  go_upto_region 5 with (first
    | (refine L_load_arr rfl 23 (.tmp 17) (by rfl) g 33 (by rfl) D18 _ HR18.out Tryz.underlying23 rfl (by rw [HD18.out.2.2.1]; exact info38) ?_)
    | (refine L_load_arr rfl 23 (.tmp 19) (by rfl) g 65 (by rfl) D20 _ HR20.out Tryz.underlying23 rfl (by rw [HD20.out.2.2.1]; exact info38) ?_)
    | (refine L_build2 rfl (.tmp 18) (.tmp 20) (by rfl) D18 D20 (by rfl) (by rfl) HD18.out.2.2.1 HD20.out.2.2.1 ?_)
    | (go_at_call 79; (with_reducible refine HC4.out.mono ?_); rintro e w5 ⟨rfl, ho⟩; have HP5 := Lib.hid ho; clear ho))
  have HO5 := Lib.hid (show WO w1 w5 B gw v0 (((l ++ be 1 32) ++ lg.1) ++ be 8 sz ++ ([rt, ix].map (·.1)).flatten) from WO.trans (l := []) (HF4.out.trans (FrC.of_below HBL4.out) (.inl rfl)) HOB4.out HP5.out)
  have HO5 := Lib.hid (show WO w1 w5 B gw v0 ((((l ++ be 1 32) ++ lg.1) ++ be 8 sz) ++ (rt.1 ++ ix.1)) by have := HO5.out; simpa using this)
  obtain ⟨v5, hv, hf, hob⟩ := HO5.out
  have HV5 := Lib.hid hv; have HF5 := Lib.hid hf; have HOB5 := Lib.hid hob
  have HQ5 := Lib.hid (HO5.out.keep HQ.out HG.out.2.1 HG.out.2.2)
  have HS5 := Lib.hid (show w1.heap.size ≤ w5.heap.size ∧ B ≤ w5.heap.size by have := hf.b.size; have := HB1.out; omega)
  clear hv hf hob
  have k97 : w5.cell? ⟨g, 97, none⟩ = some (.int .i64 (ck : Int)) := HB.at_clock HQ5.out
  have hwr5 : IntKind.u64.wrap (ck : Int) = (ck : Int) := wrap_u64_nat (by have := HSZ.out; omega)
  have HN5 := Lib.hid (show (UInt64.ofNat ck).toNat = ck from UInt64.toNat_ofNat_of_lt' (by have := HSZ.out; show _ < 18446744073709551616; omega))
  have HC5 := Lib.hid (show Calls Tryz.prog 78 #[.pointer (some ⟨gw, 0, none⟩), .int .u64 (ck : Int)] w5 (fun e w' => e = .returned (.tuple #[]) ∧ WO w5 w' B gw v5 (((((l ++ be 1 32) ++ lg.1) ++ be 8 sz) ++ (rt.1 ++ ix.1)) ++ be 8 ck)) by
    have := put64_f w5 B gw ((((l ++ be 1 32) ++ lg.1) ++ be 8 sz) ++ (rt.1 ++ ix.1)) (UInt64.ofNat ck) v5 HV5.out (by have := HLL.out; simp only [List.length_append, be_len, Subtype.property]; omega) HS5.out.2
    rw [HN5.out] at this
    exact this)
  go_wp2_with (go_at_call 78; (with_reducible refine HC5.out.mono ?_); rintro e w6 ⟨rfl, ho⟩; have HO6 := Lib.hid (show WO w1 w6 B gw v0 (((((l ++ be 1 32) ++ lg.1) ++ be 8 sz) ++ (rt.1 ++ ix.1)) ++ be 8 ck) from WO.trans (l := []) HF5.out HOB5.out ho); clear ho)
  go_end0
  refine ⟨rfl, ?_⟩
  rw [HFIN.out]
  exact WO.trans (l := []) HFR0.out (.inl rfl) HO6.out
end Go.Proofs.YtoboabkaojfbaaaGreatDoor
namespace Go.Proofs.YtoboabkaojfbaaaGreatDoor
open Go Go.RowKit
set_option maxRecDepth 100000
set_option maxHeartbeats 1000000
set_option linter.unusedVariables false
set_option linter.unusedSimpArgs false

open Go.Maps Go.WideMaps Go.ChangeMaps
/-- The neighbours of a leaf, the highest first. -/
def wayP : Nat → Nat → Nat → Nat → List (Nat × Nat)
  | 0, _, _, _ => []
  | f + 1, a, b, i => if b - a ≤ 1 then [] else
      if i < a + leftP (b - a) then (a + leftP (b - a), b) :: wayP f a (a + leftP (b - a)) i else (a, a + leftP (b - a)) :: wayP f (a + leftP (b - a)) b i
def climbS (wd : Int) (i : Nat) (leaf : Dg) (x : (Nat × Nat) × Dg) : Dg := if i < x.1.1 then nodeD wd leaf x.2 else nodeD wd x.2 leaf
def climbW (wd : Int) (i : Nat) (l : List ((Nat × Nat) × Dg)) (leaf : Dg) : Dg := l.foldl (climbS wd i) leaf
end Go.Proofs.YtoboabkaojfbaaaGreatDoor
namespace Go.Proofs.YtoboabkaojfbaaaGreatDoor
open Go Go.RowKit
set_option maxRecDepth 100000
set_option maxHeartbeats 1000000
set_option linter.unusedVariables false
set_option linter.unusedSimpArgs false
/-! How long a way is. -/
theorem leftP_half {n k : Nat} (h : 2 ≤ n) (hk : n ≤ 2 ^ (k + 1)) (hk6 : k + 1 ≤ 62) : leftP n ≤ 2 ^ k ∧ n - leftP n ≤ 2 ^ k := by
  have h62 : (2 : Nat) ^ (k + 1) ≤ 2 ^ 62 := Nat.pow_le_pow_right (by decide) hk6
  have h64 : n - 1 < 2 ^ 64 := by
    have : (2 : Nat) ^ 62 < 2 ^ 64 := by decide +kernel
    omega
  have a := bitAux_lt 64 (n - 1) h64
  obtain ⟨b, c⟩ := bitAux_le 64 (n - 1) h64 (by omega)
  unfold leftP Lib.bitLen
  generalize Lib.bitLenAux 64 (n - 1) = B at a b c
  obtain ⟨q, rfl⟩ : ∃ q, B = q + 1 := ⟨B - 1, by omega⟩
  rw [Nat.add_sub_cancel] at c ⊢
  rw [Nat.pow_succ] at a
  have hq : q < k + 1 := (Nat.pow_lt_pow_iff_right (show 1 < 2 by decide)).1 (by omega)
  have h3 : (2 : Nat) ^ q ≤ 2 ^ k := Nat.pow_le_pow_right (by decide) (by omega)
  omega
theorem wayP_len : ∀ (f a b i k : Nat), b - a ≤ 2 ^ k → k ≤ 62 → (wayP f a b i).length ≤ k
  | 0, a, b, i, k, _, _ => Nat.zero_le _
  | f + 1, a, b, i, k, h, hk => by
    show (if b - a ≤ 1 then [] else if i < a + leftP (b - a) then (a + leftP (b - a), b) :: wayP f a (a + leftP (b - a)) i else (a, a + leftP (b - a)) :: wayP f (a + leftP (b - a)) b i).length ≤ k
    by_cases h1 : b - a ≤ 1
    · rw [if_pos h1]; exact Nat.zero_le _
    · rw [if_neg h1]
      obtain ⟨j, rfl⟩ : ∃ j, k = j + 1 := by
        cases k with
        | zero => rw [Nat.pow_zero] at h; omega
        | succ j => exact ⟨j, rfl⟩
      obtain ⟨g1, g2⟩ := leftP_half (by omega : 2 ≤ b - a) h hk
      split
      · rw [List.length_cons]
        have := wayP_len f a (a + leftP (b - a)) i j (by omega) (by omega)
        omega
      · rw [List.length_cons]
        have := wayP_len f (a + leftP (b - a)) b i j (by omega) (by omega)
        omega
theorem q40 : (2 : Nat) ^ 40 = 1099511627776 := by decide +kernel
theorem way_len40 {i : Nat} (f a b : Nat) (h : b - a ≤ 1099511627776) : (wayP f a b i).length ≤ 40 := wayP_len f a b i 40 (by rw [q40]; exact h) (by decide)
end Go.Proofs.YtoboabkaojfbaaaGreatDoor
namespace Go.Proofs.YtoboabkaojfbaaaGreatDoor
open Go Go.RowKit
set_option maxRecDepth 100000
set_option maxHeartbeats 1000000
set_option linter.unusedVariables false
set_option linter.unusedSimpArgs false
/-! Proofs of two faces: their form, their bytes, and back. -/
abbrev zD : Dg := zDg
/-- How many digests an inclusion has. -/
def stepsP (size number : Int) : Nat := if 1 ≤ size ∧ size ≤ 1099511627776 ∧ 0 ≤ number ∧ number < size then (wayP size.toNat 0 size.toNat number.toNat).length else 0
theorem stepsP_le (size number : Int) : stepsP size number ≤ 40 := by
  unfold stepsP
  split
  · rename_i h
    refine wayP_len _ _ _ _ 40 ?_ (by decide)
    have : (2 : Nat) ^ 40 = 1099511627776 := by decide +kernel
    omega
  · omega
def encH (h : Hd) : List UInt8 := if rightH h then laidP h else []
def afterP (a b : Hd) : Bool := if a.size ≠ b.size then decide (a.size > b.size) else decide (cmpB (encH a) (encH b) > 0)
def formOf (a b : Hd) : Int := if a.size = b.size then 1 else if b.clock < a.clock then 2 else 3
def okN (n : Nt) : Bool := rightH n.head && decide (n.signs.length = 1)
def key0 (n : Nt) : Dg := match n.signs with | s :: _ => s.key | [] => zD
def formedP (f : Fc) : Bool :=
  okN f.a && (okN f.b && (decide (key0 f.a = key0 f.b) && (decide (f.a.head.log = f.b.head.log) && (!decide (f.a.head = f.b.head) && (!afterP f.a.head f.b.head && (decide (f.form = formOf f.a.head f.b.head) &&
    (if f.form = 3 then decide (0 ≤ f.number) && (decide (f.number < f.a.head.size) && (!decide (f.leafA = f.leafB) && (decide (f.wayA.length = stepsP f.a.head.size f.number) && decide (f.wayB.length = stepsP f.b.head.size f.number))))
     else decide (f.number = 0) && (decide (f.leafA = zD) && (decide (f.leafB = zD) && decide (f.wayA.length + f.wayB.length = 0))))))))))
def flatD (ds : List Dg) : List UInt8 := (ds.map (·.1)).flatten
def noteP (n : Nt) : List UInt8 := noteB n.head n.signs
def tailP (f : Fc) : List UInt8 := if f.form = 3 then be 8 f.number.toNat ++ (f.leafA.1 ++ (f.leafB.1 ++ (flatD f.wayA ++ flatD f.wayB))) else []
def encF (f : Fc) : List UInt8 := be 1 52 ++ (be 1 f.form.toNat ++ (be 4 (noteP f.a).length ++ (noteP f.a ++ (be 4 (noteP f.b).length ++ (noteP f.b ++ tailP f)))))
def toInt64 (n : Nat) : Int := if n < 9223372036854775808 then (n : Int) else (n : Int) - 18446744073709551616
/-- cosign.DecodeFaces. -/
def readF (raw : List UInt8) : Option (Fc × Rs) :=
  let k := rTake 1 (raw, 0)
  let m := rTake 1 k.2
  let x := rBytes 9000 m.2
  let y := rBytes 9000 x.2
  match decN x.1, decN y.1 with
  | some a, some b => if y.2.2 ≠ 0 then none else
    if m.1 = 3 then
      let n := rTake 8 y.2
      let p := rDg n.2
      let q := rDg p.2
      let u := rDgs (stepsP a.head.size (toInt64 n.1)) q.2
      let v := rDgs (stepsP b.head.size (toInt64 n.1)) u.2
      some (⟨a, b, 3, toInt64 n.1, p.1, q.1, u.1, v.1⟩, v.2)
    else some (⟨a, b, m.1, 0, zD, zD, [], []⟩, y.2)
  | _, _ => none
def decF (raw : List UInt8) : Option Fc :=
  if 9000 < raw.length then none else
  match readF raw with
  | none => none
  | some (f, s) => if rDone s ≠ 0 then none else if formedP f && decide (encF f = raw) then some f else none
theorem decF_enc {raw : List UInt8} {f : Fc} (h : decF raw = some f) : formedP f = true ∧ encF f = raw := by
  unfold decF at h
  split at h
  · cases h
  · split at h
    · cases h
    · split at h
      · cases h
      · split at h
        · rename_i h4
          rw [Bool.and_eq_true, decide_eq_true_eq] at h4
          cases h
          exact h4
        · cases h
theorem flatD_len' (ds : List Dg) : (flatD ds).length = 32 * ds.length := flatD_len ds
theorem noteP_dec (n : Nt) (h : okN n = true) : decN (noteP n) = some n ∧ (noteP n).length = 179 := by
  rw [okN, Bool.and_eq_true, decide_eq_true_eq] at h
  obtain ⟨hd, l⟩ := n
  simp only at h
  obtain ⟨s, rfl⟩ : ∃ s, l = [s] := List.length_eq_one_iff.1 h.2
  exact ⟨decN_of hd [s] h.1 (by simp) (by simp) rfl, by rw [noteP, noteB_len]; rfl⟩
theorem formOf_le (a b : Hd) : 1 ≤ formOf a b ∧ formOf a b ≤ 3 := by unfold formOf; split <;> (try split) <;> omega
theorem encF_len (f : Fc) (h : formedP f = true) : (encF f).length ≤ 3000 := by
  rw [formedP] at h
  simp only [Bool.and_eq_true, decide_eq_true_eq] at h
  obtain ⟨ha, hb, hk, hl, hn, haf, hf, ht⟩ := h
  obtain ⟨da, la⟩ := noteP_dec f.a ha
  obtain ⟨db, lb⟩ := noteP_dec f.b hb
  have hs1 := stepsP_le f.a.head.size f.number
  have hs2 := stepsP_le f.b.head.size f.number
  have htl : (tailP f).length ≤ 2632 := by
    unfold tailP
    split
    · rename_i h3
      rw [if_pos h3] at ht
      simp only [Bool.and_eq_true, decide_eq_true_eq] at ht
      simp only [List.length_append, be_len, f.leafA.2, f.leafB.2, flatD_len']
      omega
    · simp
  unfold encF
  simp only [List.length_append, be_len, la, lb]
  omega
/-- What is written is read back, whatever is behind it. -/
theorem readF_enc (f : Fc) (z : List UInt8) (h : formedP f = true) : readF (encF f ++ z) = some (f, (z, 0)) := by
  rw [formedP] at h
  simp only [Bool.and_eq_true, decide_eq_true_eq] at h
  obtain ⟨ha, hb, hk, hl, hn, haf, hf, ht⟩ := h
  obtain ⟨da, la⟩ := noteP_dec f.a ha
  obtain ⟨db, lb⟩ := noteP_dec f.b hb
  have hfl := formOf_le f.a.head f.b.head
  have p8 : (256 : Nat) ^ 8 = 18446744073709551616 := by decide +kernel
  have e0 : encF f ++ z = be 1 52 ++ (be 1 f.form.toNat ++ (be 4 (noteP f.a).length ++ (noteP f.a ++ (be 4 (noteP f.b).length ++ (noteP f.b ++ (tailP f ++ z)))))) := by unfold encF; simp only [List.append_assoc]
  have k1 : rTake 1 (encF f ++ z, 0) = (52, (be 1 f.form.toNat ++ (be 4 (noteP f.a).length ++ (noteP f.a ++ (be 4 (noteP f.b).length ++ (noteP f.b ++ (tailP f ++ z))))), 0)) := by rw [e0]; exact rTake_be 1 52 _ (by decide)
  have k2 : rTake 1 (be 1 f.form.toNat ++ (be 4 (noteP f.a).length ++ (noteP f.a ++ (be 4 (noteP f.b).length ++ (noteP f.b ++ (tailP f ++ z))))), 0) = (f.form.toNat, (be 4 (noteP f.a).length ++ (noteP f.a ++ (be 4 (noteP f.b).length ++ (noteP f.b ++ (tailP f ++ z)))), 0)) := rTake_be 1 _ _ (by show _ < 256; omega)
  have k3 := rBytes_app 9000 (noteP f.a) (be 4 (noteP f.b).length ++ (noteP f.b ++ (tailP f ++ z))) (by omega) (by decide)
  have k4 := rBytes_app 9000 (noteP f.b) (tailP f ++ z) (by omega) (by decide)
  unfold readF
  simp only [k1, k2, k3, k4, da, db]
  rw [if_neg (by simp)]
  by_cases h3 : f.form = 3
  · rw [if_pos (by omega)]
    have hself : (⟨f.a, f.b, 3, f.number, f.leafA, f.leafB, f.wayA, f.wayB⟩ : Fc) = f := by rw [← h3]
    rw [if_pos h3] at ht
    simp only [Bool.and_eq_true, decide_eq_true_eq] at ht
    obtain ⟨t1, t2, t3, t4, t5⟩ := ht
    have hra := ha
    rw [okN, Bool.and_eq_true, rightH] at hra
    simp only [Bool.and_eq_true, decide_eq_true_eq] at hra
    have et : tailP f ++ z = be 8 f.number.toNat ++ (f.leafA.1 ++ (f.leafB.1 ++ (flatD f.wayA ++ (flatD f.wayB ++ z)))) := by unfold tailP; rw [if_pos h3]; simp only [List.append_assoc]
    rw [et]
    have k5 := rTake_be 8 f.number.toNat (f.leafA.1 ++ (f.leafB.1 ++ (flatD f.wayA ++ (flatD f.wayB ++ z)))) (by rw [p8]; omega)
    have e6 : toInt64 f.number.toNat = f.number := by unfold toInt64; rw [if_pos (by omega)]; omega
    have k7 := rDgs_app f.wayA (flatD f.wayB ++ z) _ t4.symm
    have k8 := rDgs_app f.wayB z _ t5.symm
    simp only [k5, rDg_app, e6]
    unfold flatD at *
    simp only [k7, k8]
    rw [hself]
  · rw [if_neg (by omega)]
    rw [if_neg h3] at ht
    simp only [Bool.and_eq_true, decide_eq_true_eq] at ht
    obtain ⟨t1, t2, t3, t4⟩ := ht
    have et : tailP f ++ z = z := by unfold tailP; rw [if_neg h3]; rfl
    rw [et]
    obtain ⟨a, b, fm, nu, x, y, u, v⟩ := f
    simp only at t1 t2 t3 t4 hf hfl
    obtain rfl := t1; obtain rfl := t2; obtain rfl := t3
    obtain rfl : u = [] := List.length_eq_zero_iff.1 (by omega)
    obtain rfl : v = [] := List.length_eq_zero_iff.1 (by omega)
    have : ((fm.toNat : Nat) : Int) = fm := by omega
    simp only [this]
theorem enc_dec (f : Fc) (h : formedP f = true) : decF (encF f) = some f := by
  have hr := readF_enc f [] h
  rw [List.append_nil] at hr
  have hl := encF_len f h
  unfold decF
  rw [if_neg (by omega), hr]
  show (if rDone ([], 0) ≠ 0 then none else if (formedP f && decide (encF f = encF f)) = true then some f else none) = _
  rw [if_neg (by decide), h]
  simp
/-- A byte more is too much. -/
theorem enc_more (f : Fc) (c : UInt8) (h : formedP f = true) : decF (encF f ++ [c]) = none := by
  have hr := readF_enc f [c] h
  unfold decF
  rw [hr]
  show (if _ then _ else if rDone ([c], 0) ≠ 0 then none else _) = _
  rw [if_pos (show rDone ([c], 0) ≠ 0 from fun q => by cases q)]
  split <;> rfl
end Go.Proofs.YtoboabkaojfbaaaGreatDoor
namespace Go.Proofs.YtoboabkaojfbaaaGreatDoor
open Go Go.RowKit
set_option maxRecDepth 100000
set_option maxHeartbeats 1000000
set_option linter.unusedVariables false
set_option linter.unusedSimpArgs false
/-! The order of bytes; rising signs. -/
theorem cmpB_self : ∀ a : List UInt8, cmpB a a = 0
  | [] => rfl
  | x :: a => by
    have h : ¬ x < x := UInt8.lt_irrefl x
    rw [cmpB, if_neg h, if_neg h, cmpB_self a]
theorem cmpB_swap : ∀ a b : List UInt8, cmpB b a = - cmpB a b
  | [], [] => rfl
  | [], _ :: _ => rfl
  | _ :: _, [] => rfl
  | x :: a, y :: b => by
    rw [cmpB, cmpB]
    by_cases h : x < y
    · rw [if_pos h, if_neg (UInt8.lt_asymm h), if_pos h]; rfl
    · rw [if_neg h]
      by_cases g : y < x
      · rw [if_pos g, if_neg h, if_pos g]
      · rw [if_neg g, if_neg g, if_neg h, cmpB_swap a b]
theorem cmpB_eq : ∀ a b : List UInt8, cmpB a b = 0 → a = b
  | [], [], _ => rfl
  | [], _ :: _, h => by cases h
  | _ :: _, [], h => by cases h
  | x :: a, y :: b, h => by
    rw [cmpB] at h
    by_cases h1 : x < y
    · rw [if_pos h1] at h; cases h
    · rw [if_neg h1] at h
      by_cases h2 : y < x
      · rw [if_pos h2] at h; cases h
      · rw [if_neg h2] at h
        have e : x = y := UInt8.toNat_inj.1 (by
          have h1' : ¬ x.toNat < y.toNat := h1
          have h2' : ¬ y.toNat < x.toNat := h2
          omega)
        rw [e, cmpB_eq a b h]
theorem cmpB_trans : ∀ a b c : List UInt8, cmpB a b < 0 → cmpB b c < 0 → cmpB a c < 0
  | [], [], _, h, _ => by cases h
  | [], _ :: _, [], _, h => by cases h
  | [], _ :: _, _ :: _, _, _ => show (-1 : Int) < 0 by decide
  | _ :: _, [], _, h, _ => by cases h
  | _ :: _, _ :: _, [], _, h => by cases h
  | x :: a, y :: b, z :: c, h, g => by
    rw [cmpB] at h g ⊢
    by_cases h1 : x < y
    · by_cases g1 : y < z
      · rw [if_pos (UInt8.lt_trans h1 g1)]; decide
      · rw [if_neg g1] at g
        by_cases g2 : z < y
        · rw [if_pos g2] at g; cases g
        · have e : y = z := UInt8.toNat_inj.1 (by
            have h1' : ¬ y.toNat < z.toNat := g1
            have h2' : ¬ z.toNat < y.toNat := g2
            omega)
          rw [← e, if_pos h1]; decide
    · rw [if_neg h1] at h
      by_cases h2 : y < x
      · rw [if_pos h2] at h; cases h
      · rw [if_neg h2] at h
        have e : x = y := UInt8.toNat_inj.1 (by
          have h1' : ¬ x.toNat < y.toNat := h1
          have h2' : ¬ y.toNat < x.toNat := h2
          omega)
        subst e
        by_cases g1 : x < z
        · rw [if_pos g1]; decide
        · rw [if_neg g1] at g ⊢
          by_cases g2 : z < x
          · rw [if_pos g2] at g; cases g
          · rw [if_neg g2] at g ⊢
            exact cmpB_trans a b c h g
theorem cmpB_ntrans (a b c : List UInt8) (h : ¬ cmpB a b < 0) (g : ¬ cmpB b c < 0) : ¬ cmpB a c < 0 := by
  intro k
  have h1 := cmpB_swap a b
  have g1 := cmpB_swap b c
  by_cases e : cmpB a b = 0
  · rw [cmpB_eq a b e] at k; exact g k
  · by_cases e2 : cmpB b c = 0
    · rw [← cmpB_eq b c e2] at k; exact h k
    · have q := cmpB_trans c b a (by omega) (by omega)
      have := cmpB_swap a c
      omega
theorem swo_cmpS : Go.Sort.SWO (Go.Proofs.ltOf cmpS) where
  irrefl x := by unfold Go.Proofs.ltOf cmpS; rw [cmpB_self]; rfl
  trans x y z h g := by
    unfold Go.Proofs.ltOf cmpS at *
    rw [decide_eq_true_eq] at *
    exact cmpB_trans _ _ _ h g
  ntrans x y z h g := by
    unfold Go.Proofs.ltOf cmpS at *
    rw [decide_eq_false_iff_not] at *
    exact cmpB_ntrans _ _ _ h g
/-- Two signs bear one key somewhere. -/
def twiceP : List Sg → Bool
  | [] => false
  | s :: l => l.any (fun t => decide (s.key = t.key)) || twiceP l
theorem twice_iff (l : List Sg) : twiceP l = false ↔ l.Pairwise fun s t => s.key ≠ t.key := by
  induction l with
  | nil => simp [twiceP]
  | cons s l ih =>
    rw [twiceP, Bool.or_eq_false_iff, ih, List.pairwise_cons]
    simp
theorem twice_perm {l m : List Sg} (h : l.Perm m) : twiceP l = twiceP m := by
  have : twiceP l = false ↔ twiceP m = false := by
    rw [twice_iff, twice_iff]
    exact h.pairwise_iff (fun h => fun e => h e.symm)
  cases h1 : twiceP l <;> cases h2 : twiceP m <;> simp_all
theorem rise_iff (l : List Sg) : riseP l = true ↔ l.Pairwise fun s t => cmpS s t < 0 := by
  induction l with
  | nil => simp [riseP]
  | cons s l ih =>
    cases l with
    | nil => simp [riseP]
    | cons t r =>
      rw [riseP, Bool.and_eq_true, ih, decide_eq_true_eq, List.pairwise_cons, List.pairwise_cons (l := t :: r)]
      constructor
      · rintro ⟨h1, h2, h3⟩
        refine ⟨fun x hx => ?_, List.pairwise_cons.2 ⟨h2, h3⟩⟩
        rcases List.mem_cons.1 hx with rfl | hx
        · exact h1
        · exact cmpB_trans _ _ _ h1 (h2 x hx)
      · rintro ⟨h1, h2⟩
        exact ⟨h1 t (List.mem_cons_self ..), List.pairwise_cons.1 h2⟩
/-- A sorted row rises where no key stands twice. -/
theorem rise_sorted (l : List Sg) (h : l.Pairwise fun s t => ¬ cmpS t s < 0) : riseP l = !twiceP l := by
  cases ht : twiceP l with
  | false =>
    refine (rise_iff l).2 ?_
    have h2 := (twice_iff l).1 ht
    exact (h.and h2).imp fun {s t} ⟨a, b⟩ => by
      have e := cmpB_swap s.key.1 t.key.1
      have : cmpB s.key.1 t.key.1 ≠ 0 := fun q => b (Subtype.ext (cmpB_eq _ _ q))
      unfold cmpS at *
      omega
  | true =>
    cases hr : riseP l with
    | false => rfl
    | true =>
      have h2 := (rise_iff l).1 hr
      have : twiceP l = false := (twice_iff l).2 (h2.imp fun {s t} q e => by
        unfold cmpS at q
        rw [e, cmpB_self] at q
        cases q)
      rw [this] at ht; cases ht
/-- Of one row's permutations one rises at most. -/
theorem rise_unique : ∀ (l m : List Sg), l.Perm m → riseP l = true → riseP m = true → l = m
  | [], m, h, _, _ => h.nil_eq
  | s :: l, m, h, h1, h2 => by
    have k1 := (rise_iff _).1 h1
    have k2 := (rise_iff _).1 h2
    cases m with
    | nil => exact absurd h.length_eq (by simp)
    | cons t r =>
      have e : s = t := by
        have a1 : s ∈ t :: r := h.subset (List.mem_cons_self ..)
        have a2 : t ∈ s :: l := h.symm.subset (List.mem_cons_self ..)
        rcases List.mem_cons.1 a1 with q | q
        · exact q
        · rcases List.mem_cons.1 a2 with p | p
          · exact p.symm
          · have b1 := (List.pairwise_cons.1 k2).1 s q
            have b2 := (List.pairwise_cons.1 k1).1 t p
            have := cmpB_swap s.key.1 t.key.1
            unfold cmpS at *
            omega
      subst e
      rw [rise_unique l r ((List.perm_cons s).1 h) ((rise_iff l).2 (List.pairwise_cons.1 k1).2) ((rise_iff r).2 (List.pairwise_cons.1 k2).2)]
end Go.Proofs.YtoboabkaojfbaaaGreatDoor
