import Derived.Test.YtoboabkaojfbaaaGreatDoorQ28
import Derived.Test.YtoboabkaojfbaaaGreatDoorQ36
import Derived.Test.YtoboabkaojfbaaaGreatDoorQ20
import Derived.Test.YtoboabkaojfbaaaGreatDoorQ31
import Derived.Test.YtoboabkaojfbaaaGreatDoorQ35
import Derived.Test.YtoboabkaojfbaaaGreatDoorQ27
namespace Go.Proofs.YtoboabkaojfbaaaGreatDoor
open Go Go.RowKit Go.Shelf
set_option maxRecDepth 100000
set_option maxHeartbeats 8000000
set_option linter.unusedVariables false
set_option linter.unusedSimpArgs false
/-! slices.IndexFunc at signs. -/
theorem sg_key_range {w : World} {g : Nat} {x : Sg} {t : TypeId} (h : w.heap[g]? = some (.cells (sgA x) t (0, 0))) : w.rangeAt g 0 (dgE x.key) := by
  have := row_range h
  exact range_pre (A := dgE x.key) (B := dgE x.tag) (by simpa [sgA, sgE] using this)
theorem pred121 (w : World) (gk : Nat) (key : Dg) (hk : w.heap[gk]? = some (.cells (dgA key.1) 23 (0, 0))) :
    PredBelow Tryz.prog 121 #[.pointer (some ⟨gk, 0, none⟩)] (fun s => .agg (sgE s).toArray) (fun s => decide (s.key = key)) w := fun W x hb => by
  show Calls Tryz.prog 121 #[.agg (sgE x).toArray, .pointer (some ⟨gk, 0, none⟩)] W _
  obtain ⟨A, hA⟩ : ∃ A, A = (sgE x).toArray := ⟨_, rfl⟩
  rw [← hA]
  obtain ⟨K1, hK1⟩ : ∃ K, K = dgA x.key.1 := ⟨_, rfl⟩
  obtain ⟨K2, hK2⟩ : ∃ K, K = dgA key.1 := ⟨_, rfl⟩
  have HS := Lib.hid (show K1.size = 32 ∧ K2.size = 32 by rw [hK1, hK2]; exact ⟨by rw [dgA_size, x.key.2], by rw [dgA_size, key.2]⟩)
  have HEQ := Lib.hid (fun (u : World) => show (binOp .eql 23 (.agg K1) (.agg K2)).run Tryz.prog u = .ok (.bool (decide (x.key = key))) u by rw [hK1, hK2]; exact eqd_dg _ _ _)
  have hb1 : Below w.heap.size w (W.alloc (.cells A 63)) := hb.alloc hb.size _
  have HR1 := Lib.hid (show (W.alloc (.cells A 63)).rangeAt W.heap.size 0 K1.toList by
    have := sg_key_range (x := x) (show (W.alloc (.cells A 63)).heap[W.heap.size]? = some (.cells (sgA x) 63 (0, 0)) by rw [hA]; exact heap_alloc_new W _)
    rw [hK1]; simpa [dgE, dgA] using this)
  have HR2 := Lib.hid (show (W.alloc (.cells A 63)).rangeAt gk 0 K2.toList by
    have := row_range (blk_up hk hb1)
    rw [hK2]; exact this)
  have HB := Lib.hid hb1
  obtain ⟨bv, hbv⟩ : ∃ b, b = decide (x.key = key) := ⟨_, rfl⟩
  have HBV := Lib.hid hbv
  rw [← hbv] at HEQ
  clear hA hK1 hK2 hb hb1 hk hbv
  go_enter Tryz.func121, Tryz.ntmps121
  go_upto_region 1 with (fail)
  generalize W.alloc (.cells A 63) = w1 at *
  refine wp_region_lit ?_
  apply plT 0
  apply plL 0 (.agg K1)
  · exact exec_load rfl (load23r HR1.out HS.out.1)
  apply plL 0 (.agg K2)
  · exact exec_load rfl (load23r HR2.out HS.out.2)
  apply plL 0 (.bool bv)
  · exact exec_bin rfl (HEQ.out _) (by kernel_rfl)
  go_wp2_with fail
  go_ret
  exact ⟨by (first | (rw [HBV.out]; done) | (rw [HBV.out]; rfl)), HB.out⟩
def ixS (key : Dg) (l : List Sg) : Int := Lib.idxBy (fun _ y => decide (y.key = key)) l default
theorem index_any (w : World) (a : Option Addr) (n c : Nat) (l : List Sg) (hs : RS 64 sgE w a n c l) (h0 : 0 < n) (gk : Nat) (key : Dg) (hk : w.heap[gk]? = some (.cells (dgA key.1) 23 (0, 0))) :
    Calls Tryz.prog 120 #[.slice a n c, .func (.func 121) #[] #[.pointer (some ⟨gk, 0, none⟩)]] w fun e w' => e = .returned (.int .i64 (ixS key l)) ∧ Below w.heap.size w w' := by
  have hl := hs.1
  have hn := hs.2.2.1
  have eg : ∀ args w, (callFunc 121 args).run Tryz.prog w = .ok (.enter 121 args) w := enters_of Tryz.func121 (by kernel_rfl) rfl
  obtain ⟨b, off, rfl, hb, -⟩ := sg_at hs (i := 0) (s := l[0]'(by omega)) (List.getElem?_eq_getElem _)
  have := AnyQ.slices_IndexFunc Tryz.sI120 64 Tryz.isAgg63 Tryz.sizeOf63 sgE sgE_len (fun s => decide (s.key = key)) 121 #[.pointer (some ⟨gk, 0, none⟩)] eg b off n c l w (pred121 w gk key hk) (by omega) (by omega) hb (fun j hj i v hi => by
    rw [getElem!_pos l j hj] at hi
    obtain ⟨b', off', e, -, hr⟩ := sg_at hs (i := j) (List.getElem?_eq_getElem hj)
    obtain ⟨rfl, rfl⟩ : b = b' ∧ off = off' := by have := Option.some.inj e; exact ⟨congrArg Addr.block this, congrArg Addr.off this⟩
    exact hr i v (by simpa [sgA] using hi))
  rw [List.take_of_length_le (by omega)] at this
  exact this
end Go.Proofs.YtoboabkaojfbaaaGreatDoor
namespace Go.Proofs.YtoboabkaojfbaaaGreatDoor
open Go Go.RowKit
set_option maxRecDepth 100000
set_option maxHeartbeats 8000000
set_option linter.unusedVariables false
set_option linter.unusedSimpArgs false
/-! cosign.signed: its plain law. -/
theorem ix_find (key : Dg) : ∀ (l : List Sg) (i : Nat), (∃ (k : Nat) (s : Sg), Lib.idxByFrom (fun _ y => decide (y.key = key)) (default : Sg) l i = ((i + k : Nat) : Int) ∧ l[k]? = some s ∧ l.find? (fun s => decide (s.key = key)) = some s) ∨ (Lib.idxByFrom (fun _ y => decide (y.key = key)) (default : Sg) l i = -1 ∧ l.find? (fun s => decide (s.key = key)) = none)
  | [], i => .inr ⟨rfl, rfl⟩
  | z :: zs, i => by
    cases h : decide (z.key = key) with
    | true => exact .inl ⟨0, z, by simp [Lib.idxByFrom, h], rfl, by simp [h]⟩
    | false =>
      rcases ix_find key zs (i + 1) with ⟨k, s, h1, h2, h3⟩ | ⟨h1, h2⟩
      · exact .inl ⟨k + 1, s, by rw [show i + (k + 1) = i + 1 + k by omega, ← h1]; simp [Lib.idxByFrom, h], h2, by simp [h, h3]⟩
      · exact .inr ⟨by rw [← h1]; simp [Lib.idxByFrom, h], by simp [h, h2]⟩
theorem only_ix (x : Nt) (key : Dg) : (∃ (k : Nat) (s : Sg), ixS key x.signs = (k : Int) ∧ x.signs[k]? = some s ∧ onlyP x key = some ⟨x.head, [s]⟩) ∨ (ixS key x.signs = -1 ∧ onlyP x key = none) := by
  rcases ix_find key x.signs 0 with ⟨k, s, h1, h2, h3⟩ | ⟨h1, h2⟩
  · exact .inl ⟨k, s, by rw [ixS, Lib.idxBy, h1, Nat.zero_add], h2, by rw [onlyP, h3]; rfl⟩
  · exact .inr ⟨by rw [ixS, Lib.idxBy, h1], by rw [onlyP, h2]; rfl⟩
end Go.Proofs.YtoboabkaojfbaaaGreatDoor
namespace Go.Proofs.YtoboabkaojfbaaaGreatDoor
open Go Go.RowKit
set_option maxRecDepth 100000
set_option maxHeartbeats 8000000
set_option linter.unusedVariables false
set_option linter.unusedSimpArgs false
/-! A slice of one sign, made. -/
def sgZ : Value := .agg (sgA ⟨zDg, zDg⟩)
theorem S_build1g {w : World} {ops : Array Oper} {o : Oper} {a : Act} {Q : Exit → Act → World → Prop} {K : Act → World → Prop} {E : Prop} (hgd : o.guard = none) (d : Operand) (ho : o.op = .buildSlice 26 1 #[(0, d)]) (D : Array Value) (hd : a.eval d = .agg D) (hs : D.size = 64)
    (h : K (a.put o.dst (.slice (some ⟨w.heap.size, 0, none⟩) 1 1)) (w.alloc (.cells D 63))) : if Region.wanted o (yielded ops a.tmps) = true then Oper.wp Tryz.prog o a w K Q else E := by
  rw [if_pos (by simp [Region.wanted, hgd])]
  obtain ⟨ie, hie, hz0, hz1, hz2⟩ := info_parts sl26.inf
  have h64 : ie.size = 64 := by have := hz0; have := hz1; first | assumption | omega
  have hf : Instr.fill (fun i => some (i * ie.size, ie.size)) ((Array.range (1 * ie.size)).map ((sgZ).cells[· % (sgZ).cells.size]!)) (#[(0, Value.agg D)] : Array (Nat × Value)).toList = some D := by
    have := Great.fill_whole (s := ie.size) (by omega) [Value.agg D] ((Array.range (1 * ie.size)).map ((sgZ).cells[· % (sgZ).cells.size]!)) (by intro v hv; rw [List.mem_singleton.1 hv]; show D.size = ie.size; omega) (by simp)
    simpa [Value.cells] using this
  refine wp_buildSlice 26 63 1 #[(0, d)] ho D ie sgZ Tryz.underlying26 hie ?_ (by omega) (by omega) ?_ h
  · first | assumption | exact hz1
  · simp only [List.map_toArray, List.map_cons, List.map_nil, hd]
    exact hf
end Go.Proofs.YtoboabkaojfbaaaGreatDoor
namespace Go.Proofs.YtoboabkaojfbaaaGreatDoor
open Go Go.RowKit
set_option maxRecDepth 100000
set_option maxHeartbeats 8000000
set_option linter.unusedVariables false
set_option linter.unusedSimpArgs false
/-! TwoFaces of what is none; Open on no disk -/

/-- A slice literal of one sign, in a plain list. -/
theorem L_build1sg {ops : Array Oper} {rest : List Oper} {o : Oper} {a : Act} {w : World} {Q : Exit → Act → World → Prop} (hgd : o.guard = none) (d : Operand) (ho : o.op = .buildSlice 26 1 #[(0, d)]) (D : Array Value) (hd : a.eval d = .agg D) (hs : D.size = 64)
    (h : wpList Tryz.prog ops Q rest (a.put o.dst (.slice (some ⟨w.heap.size, 0, none⟩) 1 1)) (w.alloc (.cells D 63))) : wpList Tryz.prog ops Q (o :: rest) a w :=
  wpList_step fun K hK => S_build1g hgd d ho D hd hs (hK _ _ h)
/-- cosign.TwoFaces of what is no proof of form 3. -/
theorem twof_no (w : World) (wd : Int) (f : Fc) (sA sB wA wB : S3) (hF : FcAt w f sA sB wA wB) (ht : Tabs w) (v : Value) (hno : formedP f = false ∨ f.form ≠ 3) :
    Calls Tryz.prog 33 #[.int .i64 wd, .agg (fcA f sA sB wA wB), v] w fun e w' => e = .returned (.tuple #[.agg #[nilS, nilS], .bool false]) ∧ Below w.heap.size w w' := by
  obtain ⟨A, hA⟩ : ∃ A, A = fcA f sA sB wA wB := ⟨_, rfl⟩
  have HA := Lib.hid (show A = fcA f sA sB wA wB ∧ A.size = 266 from ⟨hA, by rw [hA]; exact fcA_size _ _ _ _ _⟩)
  rw [← hA]
  have HC61 := Lib.hid (fun (x : World) (hx : Below w.heap.size w x) => show Calls Tryz.prog 61 #[.agg A] x (fun e w' => e = .returned (.bool (formedP f)) ∧ Below x.heap.size x w') by rw [hA]; exact formed_any x f sA sB wA wB (hF.below hx) (ht.below hx))
  obtain ⟨fm, hfm⟩ : ∃ x, x = f.form := ⟨_, rfl⟩
  have HNO := Lib.hid (show formedP f = false ∨ fm ≠ 3 by rw [hfm]; exact hno)
  have HFM := Lib.hid hfm
  clear hA hF ht hno hfm
  go_enter Tryz.func33, Tryz.ntmps33
  go_upto_region 1 with (fail)
  obtain ⟨g4, hg4⟩ : ∃ g, g = w.heap.size := ⟨_, rfl⟩
  obtain ⟨g6, hg6⟩ : ∃ g, g = w.heap.size + 1 := ⟨_, rfl⟩
  have HB1 := Lib.hid (show Below w.heap.size w ((w.alloc (.cells A 35)).alloc (.cells #[nilS, nilS] 70)) from (below_new _ _ _).alloc (by simp) _)
  have HQ1 := Lib.hid (show ((w.alloc (.cells A 35)).alloc (.cells #[nilS, nilS] 70)).heap[g4]? = some (.cells A 35 (0, 0)) by rw [hg4]; exact heap_alloc2_old w _ _)
  have HQ6 := Lib.hid (show ((w.alloc (.cells A 35)).alloc (.cells #[nilS, nilS] 70)).heap[g6]? = some (.cells #[nilS, nilS] 70 (0, 0)) by rw [hg6]; exact heap_alloc2_new w _ _)
  first
    | rw [← hg6, ← hg4]
    | rw [← hg4, ← hg6]
  have HG6 := Lib.hid (show w.heap.size ≤ g6 by omega)
  clear hg4 hg6
  change Code.wp Tryz.prog _ _ _ ((w.alloc (.cells A 35)).alloc (.cells #[nilS, nilS] 70))
  generalize (w.alloc (.cells A 35)).alloc (.cells #[nilS, nilS] 70) = w1 at *
  have HC := Lib.hid (HC61.out w1 HB1.out)
  have HK198 := Lib.hid (fun (x : World) (hx : Below w1.heap.size w1 x) => show x.cell? ⟨g4, 198, none⟩ = some (.int .i64 fm) by
    rw [HFM.out]; have := blk_up HQ1.out hx; rw [HA.out.1] at this; exact FB.c_fm this)
  have HEND := Lib.hid (fun (x : World) (hx : Below w1.heap.size w1 x) => show x.there g6 0 2 ∧ (x.setCells g6 0 [nilS, nilS]).heap[g6]? = some (.cells #[nilS, nilS] 70 (0, 0)) ∧ Below w.heap.size w (x.setCells g6 0 [nilS, nilS]) by
    have hq := blk_up HQ6.out hx
    have hb := HB1.out.trans (hx.mono HB1.out.size)
    exact ⟨there_block hq, setCells_all hq [nilS, nilS] rfl, hb.grown (setCells_grown _ _ _ _) hb.size (fun q hq => by rw [← Option.some.inj hq]; exact HG6.out)⟩)
  clear HC61
  cases hfp : formedP f with
  | false =>
    rw [hfp] at HC
    clear hfp
    go_wp2_with (first
    | (refine L_load_arr rfl 35 (.tmp 4) (by rfl) g4 0 (by rfl) A _ (row_range HQ1.out) Tryz.underlying35 rfl (by rw [HA.out.2]; exact info35) ?_)
    | (go_at_call 61; (with_reducible refine HC.out.mono ?_); rintro e w2 ⟨rfl, hb⟩; have HX2 := Lib.hid hb; clear hb)
    | (refine wpList_store_mid rfl 70 (.tmp 6) (.tmp 38) (by rfl) g6 0 #[nilS, nilS] (by rfl) (by rfl) (by exact (HEND.out _ HX2.out).1) (by kernel_rfl) (by kernel_rfl) ?_))
    exact bodyPost_ret (v := .tuple #[.agg #[nilS, nilS], .bool false]) (results_row_tmp (p := 6) (u := 7) (ty := 70) rfl _ _ g6 70 #[nilS, nilS] (0, 0) _ rfl (HEND.out _ HX2.out).2.1 Tryz.underlying70 rfl (by kernel_rfl)) rfl ⟨rfl, (HEND.out _ HX2.out).2.2⟩
  | true =>
    have c3 : fm ≠ 3 := by rcases HNO.out with h | h
                           · rw [hfp] at h; cases h
                           · exact h
    rw [hfp] at HC
    clear hfp
    have d3 : (fm == 3) = false := by rw [beq_eq_false_iff_ne]; exact c3
    have d3n : (fm != 3) = true := by rw [bne_iff_ne]; exact c3
    go_wp2_with (first
    | (refine L_load_arr rfl 35 (.tmp 4) (by rfl) g4 0 (by rfl) A _ (row_range HQ1.out) Tryz.underlying35 rfl (by rw [HA.out.2]; exact info35) ?_)
    | (go_at_call 61; (with_reducible refine HC.out.mono ?_); rintro e w2 ⟨rfl, hb⟩; have HX2 := Lib.hid hb; have k198 := HK198.out _ hb; clear hb)
    | (refine wpList_store_mid rfl 70 (.tmp 6) (.tmp 38) (by rfl) g6 0 #[nilS, nilS] (by rfl) (by rfl) (by exact (HEND.out _ HX2.out).1) (by kernel_rfl) (by kernel_rfl) ?_))
    exact bodyPost_ret (v := .tuple #[.agg #[nilS, nilS], .bool false]) (results_row_tmp (p := 6) (u := 7) (ty := 70) rfl _ _ g6 70 #[nilS, nilS] (0, 0) _ rfl (HEND.out _ HX2.out).2.1 Tryz.underlying70 rfl (by kernel_rfl)) rfl ⟨rfl, (HEND.out _ HX2.out).2.2⟩
theorem newfaultC_any (w : World) (c n : ByteArray) (y : Int) : Calls Tryz.prog 186 #[.string c, .string n, .int .i64 y] w fun e w' => (∃ g, e = .returned (.pointer (some ⟨g, 0, none⟩))) ∧ Below w.heap.size w w' := by
  go_enter Tryz.func186, Tryz.ntmps186
  go_wp2
  go_ret
  exact ⟨⟨w.heap.size, rfl⟩, (Below.refl _ _).alloc (Nat.le_refl _) _⟩
theorem refuseC_any (w : World) (c : ByteArray) (y : Int) : Calls Tryz.prog 129 #[.string c, .int .i64 y] w fun e w' => (∃ g, e = .returned (.iface 262 (.pointer (some ⟨g, 0, none⟩)))) ∧ Below w.heap.size w w' := by
  go_enter Tryz.func129, Tryz.ntmps129
  go_wp2_with (go_at_call 186; refine (newfaultC_any _ _ _ _).mono ?_; rintro e w' ⟨⟨g, rfl⟩, hb⟩)
  go_ret
  exact ⟨⟨g, rfl⟩, hb⟩
/-- cosign.Open on no disk. -/
theorem open_nil (w : World) (D : Array Value) (v : Value) : Calls Tryz.prog 74 #[.pointer none, .agg D, .pointer none, .int .i64 0, v] w fun e w' => (∃ g, e = .returned (.tuple #[.pointer none, .iface 262 (.pointer (some ⟨g, 0, none⟩))])) ∧ Below w.heap.size w w' := by
  go_enter Tryz.func74, Tryz.ntmps74
  go_upto_region 1 with (fail)
  have hb1 : Below w.heap.size w ((w.alloc (.cells #[.pointer none] 196)).alloc (.cells D 23)) := (below_new _ _ _).alloc (by simp) _
  have k0 : ((w.alloc (.cells #[.pointer none] 196)).alloc (.cells D 23)).cell? ⟨w.heap.size, 0, none⟩ = some (.pointer none) := by
    rw [cell_of_row _ _ _ _ _ _ (heap_alloc2_old w _ _)]; rfl
  have HB1 := Lib.hid hb1
  obtain ⟨g5, hg5⟩ : ∃ g, g = w.heap.size := ⟨_, rfl⟩
  rw [← hg5] at k0
  try rw [← hg5]
  clear hb1 hg5
  generalize (w.alloc (.cells #[.pointer none] 196)).alloc (.cells D 23) = w1 at *
  go_wp2_with (go_at_call 129; refine (refuseC_any _ _ _).mono ?_; rintro e w' ⟨⟨g, rfl⟩, hb⟩; have HX := Lib.hid hb; clear hb)
  go_ret2
  exact ⟨⟨g, rfl⟩, HB1.out.trans (HX.out.mono HB1.out.size)⟩
end Go.Proofs.YtoboabkaojfbaaaGreatDoor
namespace Go.Proofs.YtoboabkaojfbaaaGreatDoor
open Go Go.RowKit
set_option maxRecDepth 100000
set_option maxHeartbeats 8000000
set_option linter.unusedVariables false
set_option linter.unusedSimpArgs false
/-! The law's signed -/

/-- The law's signed. -/
theorem signedL_any (w : World) (h : Hd) (a : Option Addr) (n c : Nat) (k : List UInt8) (hk : R8 w a n c k) (ht : RoundTab w) (h3 : 1 < w.heap.size) :
    Calls Tryz.prog 73 #[.agg (hdA h), .slice a n c] w fun e w' => ∃ g, e = .returned (.agg (ntA h (.slice (some ⟨g, 0, none⟩) 1 1))) ∧ w'.heap[g]? = some (.cells (sgA (signR h k)) 63 (0, 0)) ∧ w.heap.size ≤ g ∧ Below w.heap.size w w' := by
  obtain ⟨H, hH⟩ : ∃ A, A = hdA h := ⟨_, rfl⟩
  obtain ⟨G, hG⟩ : ∃ A, A = sgA (signR h k) := ⟨_, rfl⟩
  obtain ⟨ev, hev⟩ : ∃ v : Int, v = ((signE h k : Nat) : Int) := ⟨_, rfl⟩
  have HH := Lib.hid (show H = hdA h ∧ H.size = 98 from ⟨hH, by rw [hH]; exact hdA_size _⟩)
  have HG := Lib.hid (show G.size = 64 ∧ G.all (·.oneCell') = true by rw [hG]; exact ⟨sgA_size _, all_oneCell_toArray (sgE_one _)⟩)
  have HC := Lib.hid (fun (x : World) (hx : Below w.heap.size w x) => show Calls Tryz.prog 38 #[.agg H, .slice a n c] x (fun e w' => e = .returned (.tuple #[.agg G, .int .i64 ev]) ∧ Below x.heap.size x w') by
    rw [hH, hG, hev]; exact Sign_any x h a n c k (hk.below hx) (rt_below ht hx h3) (by have := hx.size; omega))
  rw [← hH, ← hG]
  clear hH hG hev hk ht h3
  go_enter Tryz.func73, Tryz.ntmps73
  go_upto_region 1 with (fail)
  change Code.wp Tryz.prog _ _ _ ((w.alloc (.cells H 25)).alloc o28)
  obtain ⟨g2, hg2⟩ : ∃ g, g = w.heap.size := ⟨_, rfl⟩
  obtain ⟨g4, hg4⟩ : ∃ g, g = w.heap.size + 1 := ⟨_, rfl⟩
  have HB1 := Lib.hid (show Below w.heap.size w ((w.alloc (.cells H 25)).alloc o28) from (below_new _ _ _).alloc (by simp) _)
  have HQ2 := Lib.hid (show ((w.alloc (.cells H 25)).alloc o28).heap[g2]? = some (.cells H 25 (0, 0)) by rw [hg2]; exact heap_alloc2_old w _ _)
  have HQ4 := Lib.hid (show ((w.alloc (.cells H 25)).alloc o28).heap[g4]? = some (.cells (ntA zHd nilS) 28 (0, 0)) by rw [hg4]; exact heap_alloc2_new w _ _)
  first
    | rw [← hg4, ← hg2]
    | rw [← hg2, ← hg4]
  have HG4 := Lib.hid (show w.heap.size ≤ g4 ∧ g2 ≠ g4 by omega)
  clear hg2 hg4
  generalize (w.alloc (.cells H 25)).alloc o28 = w1 at *
  go_upto_region 2 with (first
    | (refine L_load_arr rfl 25 (.tmp 2) (by rfl) g2 0 (by rfl) H _ (row_range HQ2.out) Tryz.underlying25 rfl (by rw [HH.out.2]; exact info25) ?_)
    | (go_at_call 38; (with_reducible refine (HC.out _ HB1.out).mono ?_); rintro e w2 ⟨rfl, hb⟩; have HX2 := Lib.hid hb; clear hb)
    | (refine L_valueU rfl (exec_al63 (by rfl) _) ?_)
    | (refine L_storeF rfl 63 (.tmp 5) (.tmp 11) (by rfl) _ zc63 G (by rfl) (by rfl) (by rw [HG.out.1]; rfl) (by rw [HG.out.1]; exact info63) HG.out.2 ?_))
  obtain ⟨g5, hg5⟩ : ∃ g, g = w2.heap.size := ⟨_, rfl⟩
  have HX3 := Lib.hid (HX2.out.trans ((below_new w2 G 63).mono HX2.out.size))
  have HQ5 := Lib.hid (show (w2.alloc (.cells G 63)).heap[g5]? = some (.cells G 63 (0, 0)) by rw [hg5]; exact box_new w2 G 63)
  rw [← hg5]
  clear hg5
  generalize w2.alloc (.cells G 63) = w3 at *
  obtain ⟨gs, hgs⟩ : ∃ g, g = w3.heap.size := ⟨_, rfl⟩
  obtain ⟨N, hN⟩ : ∃ A, A = ntA h (.slice (some ⟨gs, 0, none⟩) 1 1) := ⟨_, rfl⟩
  have HN := Lib.hid (show N = ntA h (.slice (some ⟨gs, 0, none⟩) 1 1) ∧ N.size = 99 ∧ N.all (·.oneCell') = true by rw [hN]; exact ⟨rfl, ntA_size _ _, ntA_one _ _ rfl⟩)
  have HBN := Lib.hid (fun (ρ : Operand → Value) (o : Oper) (d e : Operand) (ho : o.op = .build 28 #[(0, d), (1, e)]) (hd : ρ d = .agg H) (he : ρ e = .slice (some ⟨w3.heap.size, 0, none⟩) 1 1) (w : World) => show (execOp ρ o).run Tryz.prog w = .ok (.value (.agg N)) w by rw [hN, hgs]; exact exec_build28p (s := ⟨some ⟨w3.heap.size, 0, none⟩, 1, 1⟩) ho hd he HH.out.1 w)
  have HX4 := Lib.hid (HX3.out.trans ((below_new w3 G 63).mono HX3.out.size))
  have HQ4b := Lib.hid (blk_up HQ4.out HX4.out)
  have HFIN := Lib.hid (show ((w3.alloc (.cells G 63)).setCells g4 0 N.toList).heap[g4]? = some (.cells N 28 (0, 0)) by have := setCells_all HQ4b.out N.toList (by rw [Array.length_toList, HN.out.2.1, ntA_size]); simpa using this)
  have HBF := Lib.hid (show Below w.heap.size w ((w3.alloc (.cells G 63)).setCells g4 0 N.toList) from (HB1.out.trans (HX4.out.mono HB1.out.size)).grown (setCells_grown _ _ _ _) (HB1.out.trans (HX4.out.mono HB1.out.size)).size (fun q hq => by rw [← Option.some.inj hq]; exact HG4.out.1))
  have HGS := Lib.hid (show ((w3.alloc (.cells G 63)).setCells g4 0 N.toList).heap[gs]? = some (.cells G 63 (0, 0)) ∧ w.heap.size ≤ gs by
    have hl := (Array.getElem?_eq_some_iff.1 (blk_up HQ4.out HX3.out)).1
    exact ⟨blk_keep (setCells_grown _ _ _ _) (by rw [hgs]; exact box_new w3 G 63) (by omega), by rw [hgs]; exact (HB1.out.trans (HX3.out.mono HB1.out.size)).size⟩)
  clear hgs hN
  go_wp2_with (first
    | (refine L_load_arr rfl 25 (.tmp 2) (by rfl) g2 0 (by rfl) H _ (row_range (blk_up HQ2.out HX3.out)) Tryz.underlying25 rfl (by rw [HH.out.2]; exact info25) ?_)
    | (refine L_load_arr rfl 63 (.tmp 5) (by rfl) g5 0 (by rfl) G _ (row_range HQ5.out) Tryz.underlying63 rfl (by rw [HG.out.1]; exact info63) ?_)
    | (refine L_build1sg rfl (.tmp 14) (by rfl) G (by rfl) HG.out.1 ?_)
    | (refine L_value rfl (HBN.out _ _ (.tmp 13) (.tmp 15) (by rfl) (by rfl) (by rfl) _) ?_)
    | (refine wpList_store_mid rfl 28 (.tmp 4) (.tmp 16) (by rfl) g4 0 N (by rfl) (by rfl) (by rw [HN.out.2.1]; exact (by have := there_block HQ4b.out; rwa [ntA_size] at this)) (by rw [HN.out.2.1]; exact info28) HN.out.2.2 ?_))
  refine bodyPost_ret (v := .agg N) (results_cell_row (p := 4) (ty := 28) rfl _ _ g4 28 N (0, 0) _ rfl HFIN.out Tryz.underlying28 rfl (by rw [HN.out.2.1]; exact info28)) rfl ⟨gs, by rw [HN.out.1], HGS.out.1, HGS.out.2, HBF.out⟩
end Go.Proofs.YtoboabkaojfbaaaGreatDoor
namespace Go.Proofs.YtoboabkaojfbaaaGreatDoor
open Go Go.RowKit
set_option maxRecDepth 100000
/-! What known() says, plain. -/
theorem id78 : idP [7] ≠ idP [8] := by decide +kernel
def kA : Hd := ⟨zD, 5, zD, zD, 9⟩
def kB : Hd := ⟨zD, 6, zD, zD, 8⟩
def kNa : Nt := ⟨kA, [signP kA [7]]⟩
def kNb : Nt := ⟨kB, [signP kB [7]]⟩
def kF : Fc := ⟨kNa, kNb, 2, 0, zD, zD, [], []⟩
theorem k_faces : facesP 32 kNb kNa (idP [7]) ⟨3, zD, zD, [], []⟩ = (kF, 0) := by
  unfold facesP
  rw [if_neg (by rw [show noteE kNb = 0 from noteE_one _ _ (by decide), show noteE kNa = 0 from noteE_one _ _ (by decide)]; simp)]
  rw [show onlyP kNb (idP [7]) = some kNb from onlyP_one kB (signP kB [7]), show onlyP kNa (idP [7]) = some kNa from onlyP_one kA (signP kA [7])]
  show (if kB.log ≠ kA.log ∨ kB = kA then _ else if afterP kB kA = true then _ else _) = _
  rw [if_neg (by decide), if_pos (by decide)]
  exact facesIn_low 32 kNa kNb _ (by decide)
theorem k_formed : formedP kF = true := formed_low kA kB (signP kA [7]) (signP kB [7]) (by decide) (by decide) rfl rfl (by decide) (by decide) (by decide)
theorem k_acc : accP 32 kF [7] = 0 := by
  unfold accP
  rw [k_formed, if_pos (by decide)]
  show (if checkP kA (signP kA [7]) [7] ≠ 0 then _ else checkP kB (signP kB [7]) [7]) = 0
  rw [show checkP kA (signP kA [7]) [7] = 0 by unfold checkP; rw [if_pos (by simp [isKey, signP]), if_pos (by decide), if_pos rfl], show checkP kB (signP kB [7]) [7] = 0 by unfold checkP; rw [if_pos (by simp [isKey, signP]), if_pos (by decide), if_pos rfl]]
  rfl
theorem k_acc8 : accP 32 kF [8] = 160 := by
  unfold accP
  rw [k_formed, if_pos (by decide)]
  show (if checkP kA (signP kA [7]) [8] ≠ 0 then checkP kA (signP kA [7]) [8] else _) = 160
  rw [show checkP kA (signP kA [7]) [8] = 160 by unfold checkP; rw [if_neg (by simp [isKey, signP, id78.symm])]]
  rfl
theorem k_none : accP 32 kF [] = 160 := by
  unfold accP
  rw [k_formed, if_pos (by decide)]
  rfl
theorem k_enc : (encF kF).length = 368 ∧ (encF kF)[0]? = some 52 ∧ (encF kF)[1]? = some 2 ∧ (encF kF)[5]? = some 179 := by
  obtain ⟨_, la⟩ := noteP_dec kNa (by decide)
  obtain ⟨_, lb⟩ := noteP_dec kNb (by decide)
  have e : encF kF = [52, 2, 0, 0, 0, 179] ++ (noteP kNa ++ (be 4 179 ++ noteP kNb)) := by
    unfold encF
    rw [show noteP kF.a = noteP kNa from rfl, show noteP kF.b = noteP kNb from rfl, la, lb]
    rw [show tailP kF = [] from rfl, List.append_nil]
    rfl
  rw [e]
  refine ⟨?_, rfl, rfl, rfl⟩
  simp only [List.length_append, la, lb, be_len]
  rfl
/-- A bit of the second tag is turned. -/
def kX (t : Dg) : Fc := ⟨kNa, ⟨kB, [⟨idP [7], t⟩]⟩, 2, 0, zD, zD, [], []⟩
theorem k_spoilt (t : Dg) (h : t ≠ (signP kB [7]).tag) : accP 32 (kX t) [7] = 161 ∧ accP 32 (kX t) [] = 160 := by
  have hf : formedP (kX t) = true := formed_low kA kB (signP kA [7]) ⟨idP [7], t⟩ (by decide) (by decide) rfl rfl (by decide) (by decide) (by decide)
  have e1 : checkP kA (signP kA [7]) [7] = 0 := by unfold checkP; rw [if_pos (by simp [isKey, signP]), if_pos (by decide), if_pos rfl]
  have e2 : checkP kB ⟨idP [7], t⟩ [7] = 161 := by
    unfold checkP
    rw [if_pos (by simp [isKey]), if_pos (by decide), if_neg]
    intro q; exact h (congrArg Sg.tag q).symm
  constructor
  · unfold accP
    rw [hf, if_pos (by show (true && (decide ((2 : Int) ≠ 3) || leadsP 32 (kX t))) = true; simp)]
    show (if checkP kA (signP kA [7]) [7] ≠ 0 then _ else checkP kB ⟨idP [7], t⟩ [7]) = 161
    rw [e1, e2]; rfl
  · unfold accP
    rw [hf, if_pos (by show (true && (decide ((2 : Int) ≠ 3) || leadsP 32 (kX t))) = true; simp)]
    rfl
theorem k_same : facesP 32 kNa kNa (idP [7]) ⟨0, zD, zD, [], []⟩ = (zFc, 170) := by
  unfold facesP
  rw [if_neg (by rw [show noteE kNa = 0 from noteE_one _ _ (by decide)]; simp)]
  rw [show onlyP kNa (idP [7]) = some kNa from onlyP_one kA (signP kA [7])]
  show (if kA.log ≠ kA.log ∨ kA = kA then _ else _) = _
  rw [if_pos (Or.inr rfl)]
theorem k_void : facesP 32 ⟨zHd, []⟩ kNa zD ⟨0, zD, zD, [], []⟩ = (zFc, 8) := by
  unfold facesP
  rw [if_pos (Or.inl (by decide))]
theorem k_zero : formedP zFc = false := by decide
end Go.Proofs.YtoboabkaojfbaaaGreatDoor
namespace Go.Proofs.YtoboabkaojfbaaaGreatDoor
open Go Go.RowKit
set_option maxRecDepth 100000
set_option maxHeartbeats 4000000
set_option linter.unusedVariables false
set_option linter.unusedSimpArgs false
/-! octet.Writer's Bytes. -/
theorem R8.frc {w w' : World} {gw : Nat} {ob : Option Nat} {a : Option Addr} {n c : Nat} {p : List UInt8} (h : R8 w a n c p) (hf : FrC w w' gw ob) (hap : ∀ x, a = some x → 0 < n → x.block ≠ gw ∧ some x.block ≠ ob) : R8 w' a n c p :=
  ⟨h.1, h.2.1, h.2.2.1, fun i hi => by
    obtain ⟨b, off, e, hc⟩ := h.2.2.2 i hi
    have hq := hap _ e (by have := h.1; omega)
    exact ⟨b, off, e, (World.cell?_of_block (a := ⟨b, off + i, none⟩) (hf.blk b (World.block_lt_of_cell? w _ hc) hq.1 hq.2)).trans hc⟩⟩
theorem wbytes_f (w : World) (B gw : Nat) (l : List UInt8) (v0 : Value) (h : WrV w B gw v0 l) (hl : l.length ≤ 1000000) (hB : B ≤ w.heap.size) (a : Option Addr) (n c : Nat) (p : List UInt8) (hp : R8 w a n c p) (hn : n ≤ 1000000) (hap : ∀ x, a = some x → 0 < n → x.block ≠ gw ∧ some x.block ≠ v0.ownBlock) :
    Calls Tryz.prog 77 #[.pointer (some ⟨gw, 0, none⟩), .slice a n c, .int .i64 (n : Int)] w fun e w' => e = .returned (.int .i64 0) ∧ WO w w' B gw v0 (l ++ (be 4 n ++ p)) := by
  have HBD := Lib.hid (fun x => (bound_any x n (by omega)).mono fun e w' (hq : e = .returned (.int .i64 (n : Int)) ∧ w' = x) => (⟨hq.1, hq.2.symm⟩ : e = .returned (.int .i64 (n : Int)) ∧ x = w'))
  have hu : (UInt32.ofNat n).toNat = n := UInt32.toNat_ofNat_of_lt' (by show n < 4294967296; omega)
  have HPT := Lib.hid (show Calls Tryz.prog 147 #[.pointer (some ⟨gw, 0, none⟩), .int .u32 (n : Int)] w (fun e w' => e = .returned (.tuple #[]) ∧ WO w w' B gw v0 (l ++ be 4 n)) by
    have := put32_f w B gw l (UInt32.ofNat n) v0 h (by omega) hB
    rwa [hu] at this)
  have d0 : decide ((n : Int) < (n : Int)) = false := by rw [decide_eq_false_iff_not]; omega
  have hwu : IntKind.u32.wrap (n : Int) = (n : Int) := by simp [IntKind.wrap, IntKind.bits, IntKind.signed]; omega
  have HP := Lib.hid hp; have HAP := Lib.hid hap; have HN := Lib.hid (show n ≤ 1000000 ∧ l.length ≤ 1000000 ∧ B ≤ w.heap.size ∧ p.length = n from ⟨hn, hl, hB, hp.1⟩)
  clear h hl hB hp hn hap hu
  go_enter Tryz.func77, Tryz.ntmps77
  go_upto_region 4 with (first
    | (go_at_call 146; (with_reducible refine (HBD.out _).mono ?_); rintro e w' ⟨rfl, rfl⟩)
    | (go_at_call 147; (with_reducible refine HPT.out.mono ?_); rintro e w2 ⟨rfl, ho⟩; have HO2 := Lib.hid ho; clear ho))
  clear d0 hwu
  obtain ⟨v2, hv2, hf2, ho2⟩ := HO2.out
  obtain ⟨hgw, hh, hrow⟩ := hv2
  have hlt2 : gw < w2.heap.size := (Array.getElem?_eq_some_iff.1 hh).1
  have hne := own_neW hrow hh (by decide)
  have hc : w2.cell? ⟨gw, 0, none⟩ = some v2 := by rw [cell_of_row _ _ _ _ _ _ hh]; rfl
  have hf := frozen_of_row w2 gw 0 _ _ hh
  have HPR := Lib.hid (HP.out.frc hf2 HAP.out)
  obtain ⟨L, hL⟩ : ∃ L, L = l ++ be 4 n := ⟨_, rfl⟩
  rw [← hL] at hrow
  have HL := Lib.hid hL
  have hLb : L.length ≤ 1000004 := by rw [hL, List.length_append, be_len]; have := HN.out; omega
  have hB2 : B ≤ w2.heap.size := by have := hf2.b.size; have := HN.out; omega
  have hn6 : n ≤ 1000000 := HN.out.1
  have HH := Lib.hid hh; have HRW := Lib.hid hrow; have HF2 := Lib.hid hf2; have HO2' := Lib.hid ho2; have HGW := Lib.hid hgw; have HNE := Lib.hid hne; have HLT := Lib.hid hlt2
  clear hL hh hrow hf2 ho2 hgw hne
  go_wp2_with (at_builtin; refine L_append8 rfl (.tmp 21) (.tmp 22) 49 (by rfl) sl22 B v2 L.length _ (by rfl) HRW.out a n c p (by rfl) HPR.out (by omega) (by simp [maxLen]; omega) hB2 (fun a3 c3 w3 ho3 hg3 hat3 => ?_); have hc3 := (hg3.cell_far ⟨gw, 0, none⟩ HLT.out HNE.out).trans hc; have hf3 := (hg3.frozen_far ⟨gw, 0, none⟩ HLT.out HNE.out).trans hf; have HO3 := Lib.hid ho3; have HG3 := Lib.hid hg3; have HAT := Lib.hid hat3; clear ho3 hg3 hat3)
  go_ret
  have hh3 : w3.heap[gw]? = some (.cells #[v2] 214 (0, 0)) := (HG3.out.block gw HLT.out HNE.out).trans HH.out
  have hne3 := own_neW HO3.out hh3 (by decide)
  have hh4 := heap_setCell_same w3 gw 0 _ _ (.slice a3 (L.length + n) c3) hh3
  have hgs : w3.grownBy (w3.setCell ⟨gw, 0, none⟩ (.slice a3 (L.length + n) c3)) (some gw) := grown_set (grown_refl w3 (some gw)) 0 0 _
  have ho4 := HO3.out.kept hgs (.inr (fun e => hne3 e.symm))
  have hf1 : FrC w2 w3 gw v2.ownBlock := FrC.of_grown HG3.out
  have hsz : w.heap.size ≤ w2.heap.size := HF2.out.b.size
  refine ⟨rfl, .slice a3 (L.length + n) c3, ⟨HGW.out, hh4, ?_⟩, HF2.out.trans (hf1.trans (FrC.of_set (o := 0) (v := .slice a3 (L.length + n) c3) (ob := v2.ownBlock)) (.inl rfl)) HO2'.out, ?_⟩
  · have e : l ++ (be 4 n ++ p) = L ++ p := by rw [HL.out, List.append_assoc]
    rw [e, List.length_append, HN.out.2.2.2, List.map_append]
    exact ho4
  · rcases HAT.out with e | e
    · rw [e]; exact HO2'.out
    · exact .inr ⟨_, e, hsz⟩
end Go.Proofs.YtoboabkaojfbaaaGreatDoor
