import Derived.Test.YtoboabkaojfbaaaGreatDoorQ28
import Derived.Test.YtoboabkaojfbaaaGreatDoorQ41
import Derived.Test.YtoboabkaojfbaaaGreatDoorQ20
import Derived.Test.YtoboabkaojfbaaaGreatDoorQ13
import Derived.Test.YtoboabkaojfbaaaGreatDoorQ34
import Derived.Test.YtoboabkaojfbaaaGreatDoorQ40
import Derived.Test.YtoboabkaojfbaaaGreatDoorQ32
namespace Go.Proofs.YtoboabkaojfbaaaGreatDoor
open Go Go.RowKit
set_option maxRecDepth 100000
set_option maxHeartbeats 8000000
set_option linter.unusedVariables false
set_option linter.unusedSimpArgs false
/-! cosign.climbs -/

theorem climbs_any (w : World) (wd : Int) (h0 : -9223372036854775808 ≤ wd) (h1 : wd ≤ 9223372036854775807) (size i : Nat) (hi : i < size) (hs : size ≤ 1099511627776) (leaf root : Dg) (a : Option Addr) (n c : Nat) (ds : List Dg) (hds : DS w a n c ds) (hn : n = (wayP size 0 size i).length) (ht : RoundTab w) (h4 : 4 ≤ w.heap.size) :
    Calls Tryz.prog 87 #[.int .i64 wd, .int .i64 (size : Int), .int .i64 (i : Int), .agg (dgA leaf.1), .slice a n c, .agg (dgA root.1)] w fun e w' => e = .returned (.bool (climbsP wd (size : Int) (i : Int) leaf ds root)) ∧ Below w.heap.size w w' := by
  obtain ⟨A0, hA0⟩ : ∃ A0, A0 = dgA leaf.1 := ⟨_, rfl⟩
  obtain ⟨R0, hR0⟩ : ∃ R0, R0 = dgA root.1 := ⟨_, rfl⟩
  obtain ⟨rr, hrr⟩ : ∃ r, r = climbW wd i ((wayP size 0 size i).reverse.zip ds) leaf := ⟨_, rfl⟩
  obtain ⟨E, hE⟩ : ∃ E, E = dgA rr.1 := ⟨_, rfl⟩
  obtain ⟨bv, hbv⟩ : ∃ b, b = decide (rr = root) := ⟨_, rfl⟩
  have HCI := Lib.hid (fun (x : World) (hx : Below w.heap.size w x) => show Calls Tryz.prog 155 #[.int .i64 wd, .int .i64 (size : Int), .int .i64 (i : Int), .agg A0, .slice a n c] x (fun e w' => e = .returned (.tuple #[.agg E, .int .i64 0]) ∧ Below x.heap.size x w') by
    rw [hA0, hE, hrr]; exact tinc_any x wd h0 h1 size i hi hs leaf a n c ds (hds.below hx) hn (rt_below ht hx (by omega)) (by have := hx.size; omega))
  have HEQ := Lib.hid (fun (u : World) => show (binOp .eql 23 (.agg E) (.agg R0)).run Tryz.prog u = .ok (.bool bv) u by rw [hE, hR0, hbv]; exact eqd_dg _ _ _)
  have HAS := Lib.hid (show A0.size = 32 by rw [hA0, dgA_size, leaf.2])
  have HRS := Lib.hid (show R0.size = 32 by rw [hR0, dgA_size, root.2])
  have HES := Lib.hid (show E.size = 32 ∧ E.all (·.oneCell') = true by rw [hE]; exact ⟨by rw [dgA_size, rr.2], dgA_all _⟩)
  have HV := Lib.hid (show climbsP wd (size : Int) (i : Int) leaf ds root = bv by
    unfold climbsP; rw [hbv, hrr]; simp only [Int.toNat_natCast])
  obtain ⟨zi, hzi⟩ : ∃ z : Int, z = (i : Int) := ⟨_, rfl⟩
  obtain ⟨zs, hzs⟩ : ∃ z : Int, z = (size : Int) := ⟨_, rfl⟩
  rw [← hA0, ← hR0]
  rw [HV.out]
  rw [← hzi, ← hzs] at HCI ⊢
  clear hA0 hR0 hE hrr hbv hds ht hi hs hn h0 h1 hzi hzs HV
  go_enter Tryz.func87, Tryz.ntmps87
  go_upto_region 1 with (fail)
  obtain ⟨g9, hg9⟩ : ∃ g, g = w.heap.size := ⟨_, rfl⟩
  obtain ⟨g11, hg11⟩ : ∃ g, g = w.heap.size + 1 := ⟨_, rfl⟩
  have HB1 := Lib.hid (show Below w.heap.size w ((w.alloc (.cells A0 23)).alloc (.cells R0 23)) from (below_new _ _ _).alloc (by simp) _)
  have HQ9 := Lib.hid (show ((w.alloc (.cells A0 23)).alloc (.cells R0 23)).heap[g9]? = some (.cells A0 23 (0, 0)) by rw [hg9]; exact heap_alloc2_old w _ _)
  have HQ11 := Lib.hid (show ((w.alloc (.cells A0 23)).alloc (.cells R0 23)).heap[g11]? = some (.cells R0 23 (0, 0)) by rw [hg11]; exact heap_alloc2_new w _ _)
  first
    | rw [← hg11, ← hg9]
    | rw [← hg9, ← hg11]
  clear hg9 hg11
  generalize (w.alloc (.cells A0 23)).alloc (.cells R0 23) = w1 at *
  have HR9 := Lib.hid (row_range HQ9.out)
  go_upto_region 2 with (first
    | (refine L_load_arr rfl 23 (.tmp 9) (by rfl) g9 0 (by rfl) A0 _ HR9.out Tryz.underlying23 rfl (by rw [HAS.out]; exact info38) ?_)
    | (go_at_call 155; (with_reducible refine (HCI.out _ HB1.out).mono ?_); rintro e w2 ⟨rfl, hb⟩; have HX2 := Lib.hid hb; clear hb)
    | (refine L_valueU rfl (exec_al23 (by rfl) _) ?_)
    | (refine L_storeF rfl 23 (.tmp 13) (.tmp 22) (by rfl) _ zc23 E (by rfl) (by rfl) (by rw [HES.out.1]; rfl) (by rw [HES.out.1]; exact info38) HES.out.2 ?_))
  obtain ⟨g13, hg13⟩ : ∃ g, g = w2.heap.size := ⟨_, rfl⟩
  have HR13 := Lib.hid (show (w2.alloc (.cells E 23)).rangeAt g13 0 E.toList by rw [hg13]; exact row_range (box_new w2 E 23))
  have HX3 := Lib.hid (HX2.out.trans ((below_new w2 E 23).mono HX2.out.size))
  have HR11 := Lib.hid (show (w2.alloc (.cells E 23)).rangeAt g11 0 R0.toList from row_range (blk_up HQ11.out HX3.out))
  have HB3 := Lib.hid (HB1.out.trans (HX3.out.mono HB1.out.size))
  rw [← hg13]
  clear hg13
  generalize w2.alloc (.cells E 23) = w3 at *
  go_wp2_with (first
    | (refine L_load_arrW 23 (.tmp 13) (by rfl) g13 0 (by rfl) E _ HR13.out Tryz.underlying23 rfl (by rw [HES.out.1]; exact info38) (by rfl) ?_)
    | (refine L_load_arrW 23 (.tmp 11) (by rfl) g11 0 (by rfl) R0 _ HR11.out Tryz.underlying23 rfl (by rw [HRS.out]; exact info38) (by rfl) ?_)
    | (refine L_binW .eql 23 23 (.tmp 27) (.tmp 28) (by rfl) (.agg E) (.agg R0) (by rfl) (by rfl) (.bool bv) (HEQ.out _) (by kernel_rfl) (by rfl) ?_))
  go_ret
  exact ⟨rfl, HB3.out⟩
end Go.Proofs.YtoboabkaojfbaaaGreatDoor
namespace Go.Proofs.YtoboabkaojfbaaaGreatDoor
open Go Go.RowKit
set_option maxRecDepth 100000
set_option maxHeartbeats 8000000
set_option linter.unusedVariables false
set_option linter.unusedSimpArgs false
/-! cosign.leads -/

/-- What a proof of form 3 has that is right by its form. -/
theorem leads_facts {f : Fc} (h : formedP f = true) (h3 : f.form = 3) : ∃ i p q : Nat, f.number = i ∧ f.a.head.size = p ∧ f.b.head.size = q ∧ i < p ∧ i < q ∧ p ≤ 1099511627776 ∧ q ≤ 1099511627776 ∧ f.wayA.length = (wayP p 0 p i).length ∧ f.wayB.length = (wayP q 0 q i).length ∧ f.wayA.length ≤ 40 ∧ f.wayB.length ≤ 40 := by
  have hh := h
  rw [formedP] at h
  simp only [Bool.and_eq_true, decide_eq_true_eq, Bool.not_eq_true', decide_eq_false_iff_not] at h
  obtain ⟨ha, hb, hk, hl, hn, haf, hf, ht⟩ := h
  rw [if_pos h3] at ht
  simp only [Bool.and_eq_true, decide_eq_true_eq, Bool.not_eq_true', decide_eq_false_iff_not] at ht
  obtain ⟨t0, t1, t2, t3, t4⟩ := ht
  have ra := (okN_one ha).1
  have rb := (okN_one hb).1
  simp only [rightH, Bool.and_eq_true, decide_eq_true_eq] at ra rb
  have hle : f.a.head.size ≤ f.b.head.size := by
    unfold afterP at haf
    by_cases e : f.a.head.size = f.b.head.size
    · omega
    · rw [if_pos e, decide_eq_false_iff_not] at haf; omega
  have s1 := stepsP_le f.a.head.size f.number
  have s2 := stepsP_le f.b.head.size f.number
  refine ⟨f.number.toNat, f.a.head.size.toNat, f.b.head.size.toNat, by omega, by omega, by omega, by omega, by omega, by omega, by omega, ?_, ?_, by omega, by omega⟩
  · rw [t3]; unfold stepsP; rw [if_pos (by omega)]
  · rw [t4]; unfold stepsP; rw [if_pos (by omega)]
theorem leads_no {wd : Int} {f : Fc} {k : Nat} {d : Dg} (hd : (f.leafA :: f.leafB :: (f.wayA ++ f.wayB))[k]? = some d) (h : cutOk wd d = false) : leadsP wd f = false := by
  unfold leadsP
  rw [Bool.and_eq_false_iff]
  left
  rw [List.all_eq_false]
  exact ⟨d, List.mem_of_getElem? hd, by rw [h]; decide⟩
theorem leads_yes {wd : Int} {f : Fc} (h : ∀ (k : Nat) (d : Dg), (f.leafA :: f.leafB :: (f.wayA ++ f.wayB))[k]? = some d → cutOk wd d = true) : leadsP wd f = (climbsP wd f.a.head.size f.number f.leafA f.wayA f.a.head.root && climbsP wd f.b.head.size f.number f.leafB f.wayB f.b.head.root) := by
  unfold leadsP
  rw [show (f.leafA :: f.leafB :: (f.wayA ++ f.wayB)).all (cutOk wd) = true from List.all_eq_true.2 (fun d hd => by obtain ⟨k, hk⟩ := List.mem_iff_getElem?.1 hd; exact h k d hk), Bool.true_and]
theorem meas_lt {k N : Nat} {z : Int} (h : z = ((k + 1 : Nat) : Int)) (hk : k < N) : N - z.toNat < N - ((k : Nat) : Int).toNat := by subst h; omega
noncomputable def le0 : Code := Tryz.f62.body.getD .skip
theorem le_tail (w0 wr : World) (hbw : Below w0.heap.size w0 wr) (wd : Int) (f : Fc) (sA sB : S3) (aA aB : Option Addr) (nA nB cA cB : Nat) (g3 : Nat) (hq : wr.heap[g3]? = some (.cells (fcA f sA sB ⟨aA, nA, cA⟩ ⟨aB, nB, cB⟩) 35 (0, 0))) (zi zp zq : Int) (he : f.number = zi ∧ f.a.head.size = zp ∧ f.b.head.size = zq) (D1 D2 RA RB : Array Value) (hd : D1.size = 32 ∧ D1.toList = dgE f.leafA ∧ D2.size = 32 ∧ D2.toList = dgE f.leafB ∧ RA.size = 32 ∧ RA = dgA f.a.head.root.1 ∧ RB.size = 32 ∧ RB = dgA f.b.head.root.1) (x1 x2 : Bool)
    (hca : ∀ x, Below w0.heap.size w0 x → Calls Tryz.prog 87 #[.int .i64 wd, .int .i64 zp, .int .i64 zi, .agg D1, .slice aA nA cA, .agg RA] x (fun e w' => e = .returned (.bool x1) ∧ Below x.heap.size x w'))
    (hcb : ∀ x, Below w0.heap.size w0 x → Calls Tryz.prog 87 #[.int .i64 wd, .int .i64 zq, .int .i64 zi, .agg D2, .slice aB nB cB, .agg RB] x (fun e w' => e = .returned (.bool x2) ∧ Below x.heap.size x w'))
    (hv : leadsP wd f = (x1 && x2)) (u1 u2 u4 u5 u6 u7 u8 u9 u10 u11 u12 u13 u14 u15 u16 u17 u18 u19 u20 u21 u22 u23 u24 u25 u26 u27 u28 u29 u30 u31 u32 u33 u34 u35 u36 u37 u38 u39 u40 u41 u42 u43 u44 u45 u46 u47 u48 u49 u50 u51 u52 u53 u54 u55 u56 u57 u58 u59 u60 u61 u62 : Value) :
    Code.wp Tryz.prog (dropSeq 2 le0) (bodyPost Tryz.prog Tryz.f62 (fun e w' => e = .returned (.bool (leadsP wd f)) ∧ Below w0.heap.size w0 w')) ⟨#[.int .i64 wd, u1, u2, .pointer (some ⟨g3, 0, none⟩), u4, u5, u6, u7, u8, u9, u10, u11, u12, u13, u14, u15, u16, u17, u18, u19, u20, u21, u22, u23, u24, u25, u26, u27, u28, u29, u30, u31, u32, u33, u34, u35, u36, u37, u38, u39, u40, u41, u42, u43, u44, u45, u46, u47, u48, u49, u50, u51, u52, u53, u54, u55, u56, u57, u58, u59, u60, u61, u62], []⟩ wr := by
  have HBW := Lib.hid hbw; have HQ7 := Lib.hid hq; have HV := Lib.hid hv; have HD := Lib.hid hd
  have HCA := Lib.hid (hca wr hbw)
  have HCB := Lib.hid (fun (x : World) (hx : Below wr.heap.size wr x) => hcb x (hbw.trans (hx.mono hbw.size)))
  have HR1 := Lib.hid (show wr.rangeAt g3 200 D1.toList by rw [hd.2.1]; exact FB.r_la hq)
  have HR2 := Lib.hid (show wr.rangeAt g3 232 D2.toList by rw [hd.2.2.2.1]; exact FB.r_lb hq)
  have HRA := Lib.hid (show wr.rangeAt g3 33 RA.toList by rw [hd.2.2.2.2.2.1]; exact FB.r_rootA hq)
  have HRB := Lib.hid (show wr.rangeAt g3 132 RB.toList by rw [hd.2.2.2.2.2.2.2]; exact FB.r_rootB hq)
  have k264 : wr.cell? ⟨g3, 264, none⟩ = some (.slice aA nA cA) := FB.c_wA hq
  have k265 : wr.cell? ⟨g3, 265, none⟩ = some (.slice aB nB cB) := FB.c_wB hq
  have k32 : wr.cell? ⟨g3, 32, none⟩ = some (.int .i64 zp) := by rw [← he.2.1]; exact FB.c_sizeA hq
  have k131 : wr.cell? ⟨g3, 131, none⟩ = some (.int .i64 zq) := by rw [← he.2.2]; exact FB.c_sizeB hq
  have k199 : wr.cell? ⟨g3, 199, none⟩ = some (.int .i64 zi) := by rw [← he.1]; exact FB.c_nu hq
  clear hbw hq hv hd hca hcb he
  conv => arg 2; whnf
  cases x1 with
  | false =>
    go_wp2_with (first
    | (refine L_load_arr rfl 23 (.tmp 36) (by rfl) g3 200 (by rfl) D1 _ HR1.out Tryz.underlying23 rfl (by rw [HD.out.1]; exact info38) ?_)
    | (refine L_load_arr rfl 23 (.tmp 42) (by rfl) g3 33 (by rfl) RA _ HRA.out Tryz.underlying23 rfl (by rw [HD.out.2.2.2.2.1]; exact info38) ?_)
    | (go_at_call 87; (with_reducible refine HCA.out.mono ?_); rintro e w8 ⟨rfl, hb⟩; have HX8 := Lib.hid hb; have j131 := keepR HX8.out k131; have j199 := keepR HX8.out k199; have j265 := keepR HX8.out k265; have HR2b := Lib.hid (range_below HR2.out HX8.out); have HRBb := Lib.hid (range_below HRB.out HX8.out); have HCBx := Lib.hid (HCB.out _ HX8.out); clear hb))
    go_ret
    exact ⟨by (first | (rw [HV.out]; done) | (rw [HV.out]; rfl)), HBW.out.trans (HX8.out.mono HBW.out.size)⟩
  | true =>
    go_wp2_with (first
    | (refine L_load_arr rfl 23 (.tmp 36) (by rfl) g3 200 (by rfl) D1 _ HR1.out Tryz.underlying23 rfl (by rw [HD.out.1]; exact info38) ?_)
    | (refine L_load_arr rfl 23 (.tmp 42) (by rfl) g3 33 (by rfl) RA _ HRA.out Tryz.underlying23 rfl (by rw [HD.out.2.2.2.2.1]; exact info38) ?_)
    | (go_at_call 87; (with_reducible refine HCA.out.mono ?_); rintro e w8 ⟨rfl, hb⟩; have HX8 := Lib.hid hb; have j131 := keepR HX8.out k131; have j199 := keepR HX8.out k199; have j265 := keepR HX8.out k265; have HR2b := Lib.hid (range_below HR2.out HX8.out); have HRBb := Lib.hid (range_below HRB.out HX8.out); have HCBx := Lib.hid (HCB.out _ HX8.out); clear hb)
    | (refine L_load_arrW 23 (.tmp 53) (by rfl) g3 232 (by rfl) D2 _ HR2b.out Tryz.underlying23 rfl (by rw [HD.out.2.2.1]; exact info38) (by rfl) ?_)
    | (refine L_load_arrW 23 (.tmp 59) (by rfl) g3 132 (by rfl) RB _ HRBb.out Tryz.underlying23 rfl (by rw [HD.out.2.2.2.2.2.2.1]; exact info38) (by rfl) ?_)
    | (go_at_call 87; (with_reducible refine HCBx.out.mono ?_); rintro e w9 ⟨rfl, hb⟩; have HX9 := Lib.hid hb; clear hb))
    go_ret
    exact ⟨by (first | (rw [HV.out]; done) | (rw [HV.out]; rfl)), HBW.out.trans ((HX8.out.trans (HX9.out.mono HX8.out.size)).mono HBW.out.size)⟩
theorem leads_any (w : World) (wd : Int) (h0 : -9223372036854775808 ≤ wd) (h1 : wd ≤ 9223372036854775807) (f : Fc) (sA sB wA wB : S3) (hF : FcAt w f sA sB wA wB) (hfm : formedP f = true) (h3 : f.form = 3) (ht : Tabs w) :
    Calls Tryz.prog 62 #[.int .i64 wd, .agg (fcA f sA sB wA wB)] w fun e w' => e = .returned (.bool (leadsP wd f)) ∧ Below w.heap.size w w' := by
  obtain ⟨i, p, q, ei, ep, eq, hip, hiq, hp, hq, hla, hlb, hla4, hlb4⟩ := leads_facts hfm h3
  obtain ⟨aA, nA, cA⟩ := wA
  obtain ⟨aB, nB, cB⟩ := wB
  obtain ⟨A, hA⟩ : ∃ A, A = fcA f sA sB ⟨aA, nA, cA⟩ ⟨aB, nB, cB⟩ := ⟨_, rfl⟩
  have HAA := Lib.hid (show A = fcA f sA sB ⟨aA, nA, cA⟩ ⟨aB, nB, cB⟩ ∧ A.size = 266 from ⟨hA, by rw [hA]; exact fcA_size _ _ _ _ _⟩)
  rw [← hA]
  have hnA : nA ≤ 40 := by have := hF.wa.1; simp only at this; omega
  have hnB : nB ≤ 40 := by have := hF.wb.1; simp only at this; omega
  obtain ⟨D1, hD1⟩ : ∃ D, D = dgA f.leafA.1 := ⟨_, rfl⟩
  obtain ⟨D2, hD2⟩ : ∃ D, D = dgA f.leafB.1 := ⟨_, rfl⟩
  have HD1 := Lib.hid (show D1 = dgA f.leafA.1 ∧ D1.size = 32 ∧ D1.toList = dgE f.leafA by rw [hD1]; exact ⟨rfl, by rw [dgA_size, f.leafA.2], rfl⟩)
  have HD2 := Lib.hid (show D2 = dgA f.leafB.1 ∧ D2.size = 32 ∧ D2.toList = dgE f.leafB by rw [hD2]; exact ⟨rfl, by rw [dgA_size, f.leafB.2], rfl⟩)
  obtain ⟨RA, hRA⟩ : ∃ D, D = dgA f.a.head.root.1 := ⟨_, rfl⟩
  obtain ⟨RB, hRB⟩ : ∃ D, D = dgA f.b.head.root.1 := ⟨_, rfl⟩
  have HRAS := Lib.hid (show RA.size = 32 by rw [hRA, dgA_size, f.a.head.root.2])
  have HRBS := Lib.hid (show RB.size = 32 by rw [hRB, dgA_size, f.b.head.root.2])
  obtain ⟨N, hN⟩ : ∃ N, N = 2 + nA + nB := ⟨_, rfl⟩
  obtain ⟨LL, hLL⟩ : ∃ L, L = f.leafA :: f.leafB :: (f.wayA ++ f.wayB) := ⟨_, rfl⟩
  have HLL := Lib.hid (show LL = f.leafA :: f.leafB :: (f.wayA ++ f.wayB) ∧ LL.length = N ∧ N ≤ 82 ∧ 0 < N from ⟨hLL, by rw [hLL, hN]; simp only [List.length_cons, List.length_append]; have := hF.wa.1; have := hF.wb.1; simp only at *; omega, by omega, by omega⟩)
  obtain ⟨x1, hx1⟩ : ∃ b, b = climbsP wd (p : Int) (i : Int) f.leafA f.wayA f.a.head.root := ⟨_, rfl⟩
  obtain ⟨x2, hx2⟩ : ∃ b, b = climbsP wd (q : Int) (i : Int) f.leafB f.wayB f.b.head.root := ⟨_, rfl⟩
  obtain ⟨zi, hzi⟩ : ∃ z : Int, z = (i : Int) := ⟨_, rfl⟩
  obtain ⟨zp, hzp⟩ : ∃ z : Int, z = (p : Int) := ⟨_, rfl⟩
  obtain ⟨zq, hzq⟩ : ∃ z : Int, z = (q : Int) := ⟨_, rfl⟩
  have HCA0 := Lib.hid (fun (x : World) (hx : Below w.heap.size w x) => show Calls Tryz.prog 87 #[.int .i64 wd, .int .i64 zp, .int .i64 zi, .agg D1, .slice aA nA cA, .agg RA] x (fun e w' => e = .returned (.bool x1) ∧ Below x.heap.size x w') by
    have hT := ht.below hx
    rw [hzp, hzi, hD1, hRA, hx1]; exact climbs_any x wd h0 h1 p i hip hp f.leafA f.a.head.root aA nA cA f.wayA (hF.wa.below hx) (by have := hF.wa.1; simp only at this; omega) hT.2.1 hT.1)
  have HCB0 := Lib.hid (fun (x : World) (hx : Below w.heap.size w x) => show Calls Tryz.prog 87 #[.int .i64 wd, .int .i64 zq, .int .i64 zi, .agg D2, .slice aB nB cB, .agg RB] x (fun e w' => e = .returned (.bool x2) ∧ Below x.heap.size x w') by
    have hT := ht.below hx
    rw [hzq, hzi, hD2, hRB, hx2]; exact climbs_any x wd h0 h1 q i hiq hq f.leafB f.b.head.root aB nB cB f.wayB (hF.wb.below hx) (by have := hF.wb.1; simp only at this; omega) hT.2.1 hT.1)
  have HYES := Lib.hid (fun (h : ∀ (k : Nat) (d : Dg), LL[k]? = some d → cutOk wd d = true) => show leadsP wd f = (x1 && x2) by
    rw [leads_yes (by rw [← hLL]; exact h), hx1, hx2, ei, ep, eq])
  have HNO := Lib.hid (fun (k : Nat) (d : Dg) (hd : LL[k]? = some d) (h : cutOk wd d = false) => show leadsP wd f = false from leads_no (by rw [← hLL]; exact hd) h)
  have HF := Lib.hid hF
  have HWD := Lib.hid (And.intro h0 h1)
  have HNN := Lib.hid (show N = 2 + nA + nB ∧ nA ≤ 40 ∧ nB ≤ 40 from ⟨hN, hnA, hnB⟩)
  have HE := Lib.hid (show f.number = zi ∧ f.a.head.size = zp ∧ f.b.head.size = zq from ⟨by omega, by omega, by omega⟩)
  have HRR := Lib.hid (And.intro hRA hRB)
  clear hA hD1 hD2 hRA hRB hx1 hx2 hzi hzp hzq hLL hN hF ht h0 h1 hla hlb hla4 hlb4 hip hiq hp hq ei ep eq hfm h3 hnA hnB
  go_enter Tryz.func62, Tryz.ntmps62
  go_upto_region 1 with (fail)
  rename_i K2 hK2 Kb hKb
  have HK2 := Lib.hid (fun (a : Act) (x : World) (h : Code.wp Tryz.prog (dropSeq 2 le0) (bodyPost Tryz.prog Tryz.f62 (fun e w' => e = .returned (.bool (leadsP wd f)) ∧ Below w.heap.size w w')) a x) => hK2 a x h)
  clear hK2
  obtain ⟨g3, hg3⟩ : ∃ g, g = w.heap.size := ⟨_, rfl⟩
  have HB1 := Lib.hid (below_new w A 35)
  have HQ1 := Lib.hid (show (w.alloc (.cells A 35)).heap[g3]? = some (.cells (fcA f sA sB ⟨aA, nA, cA⟩ ⟨aB, nB, cB⟩) 35 (0, 0)) by rw [hg3, ← HAA.out.1]; exact box_new w A 35)
  rw [← hg3]
  clear hg3
  generalize w.alloc (.cells A 35) = w1 at *
  have HR1 := Lib.hid (show w1.rangeAt g3 200 D1.toList by rw [HD1.out.2.2]; exact FB.r_la HQ1.out)
  have HR2 := Lib.hid (show w1.rangeAt g3 232 D2.toList by rw [HD2.out.2.2]; exact FB.r_lb HQ1.out)
  have k264 : w1.cell? ⟨g3, 264, none⟩ = some (.slice aA nA cA) := FB.c_wA HQ1.out
  have k265 : w1.cell? ⟨g3, 265, none⟩ = some (.slice aB nB cB) := FB.c_wB HQ1.out
  have hb2 := below_new w1 (D1.toList ++ D2.toList).toArray 23
  have hb3 : Below w1.heap.size w1 ((w1.alloc (.cells (D1.toList ++ D2.toList).toArray 23)).alloc (.cells #[.slice (some ⟨w1.heap.size, 0, none⟩) 2 2, .slice aA nA cA, .slice aB nB cB] 29)) := hb2.alloc hb2.size _
  have HCC := Lib.hid (show Calls Tryz.prog 124 #[.slice (some ⟨w1.heap.size + 1, 0, none⟩) 3 3] ((w1.alloc (.cells (D1.toList ++ D2.toList).toArray 23)).alloc (.cells #[.slice (some ⟨w1.heap.size, 0, none⟩) 2 2, .slice aA nA cA, .slice aB nB cB] 29)) (fun e w' => ∃ gr cr, e = .returned (.slice (some ⟨gr, 0, none⟩) N cr) ∧ DS w' (some ⟨gr, 0, none⟩) N cr LL ∧ Below w1.heap.size w1 w') by
    have hbw := HB1.out.trans (hb3.mono HB1.out.size)
    refine (concat_dg ((w1.alloc (.cells (D1.toList ++ D2.toList).toArray 23)).alloc (.cells #[.slice (some ⟨w1.heap.size, 0, none⟩) 2 2, .slice aA nA cA, .slice aB nB cB] 29)) (w1.heap.size + 1) (some ⟨w1.heap.size, 0, none⟩) aA aB 2 nA nB 2 cA cB [f.leafA, f.leafB] f.wayA f.wayB ?_ (HF.out.wa.below hbw) (HF.out.wb.below hbw) (heap_alloc2_new w1 _ _) (by have := HNN.out; omega)).mono ?_
    · exact rs_block dgE 32 (by decide) dgE_len (t := 23) (by
        rw [show [f.leafA, f.leafB].flatMap dgE = D1.toList ++ D2.toList by rw [HD1.out.2.2, HD2.out.2.2]; simp]
        exact heap_alloc2_old w1 _ _) 2 rfl (by decide)
    · rintro e w' ⟨t, rfl, ho, htn, hb⟩
      obtain ⟨ta, tn, tc⟩ := t
      simp only at htn
      obtain ⟨a1, c1, hv, hq⟩ := owns_shape ho
      obtain ⟨rfl, -, rfl⟩ := Value.slice.inj hv
      have hnn : tn = N := by have := HNN.out.1; omega
      subst hnn
      obtain ⟨g, e1, -⟩ := hq HLL.out.2.2.2
      subst e1
      refine ⟨g, tc, rfl, ?_, hb3.trans (hb.mono hb3.size)⟩
      have := RS.of_owns ho (by decide) dgE_len (by have := HLL.out.2.2.1; simp only; omega)
      rw [HLL.out.1]
      exact this)
  have HBX := Lib.hid hb2
  clear hb2 hb3
  go_upto_region 2 with (first
    | (refine L_load_arr rfl 23 (.tmp 7) (by rfl) g3 200 (by rfl) D1 _ HR1.out Tryz.underlying23 rfl (by rw [HD1.out.2.1]; exact info38) ?_)
    | (refine L_load_arr rfl 23 (.tmp 9) (by rfl) g3 232 (by rfl) D2 _ HR2.out Tryz.underlying23 rfl (by rw [HD2.out.2.1]; exact info38) ?_)
    | (refine L_build2 rfl (.tmp 8) (.tmp 10) (by rfl) D1 D2 (by rfl) (by rfl) HD1.out.2.1 HD2.out.2.1 ?_; have j264 := keepR HBX.out k264; have j265 := keepR HBX.out k265)
    | (go_at_call 124; (with_reducible refine HCC.out.mono ?_); rintro e w2 ⟨gr, cr, rfl, hds, hb⟩; have HDS := Lib.hid hds; have HX2 := Lib.hid hb; clear hds hb))
  have HB2 := Lib.hid (HB1.out.trans (HX2.out.mono HB1.out.size))
  have HQ2 := Lib.hid (blk_up HQ1.out HX2.out)
  clear HR1 HR2 k264 k265
  go_wp2_with fail
  go_loopw [19, 6, 4] (fun v _ s4 wr => ∃ k : Nat, k ≤ N ∧ v = .int .i64 (k : Int) ∧ s4 = .bool false ∧ (∀ j d, j < k → LL[j]? = some d → cutOk wd d = true) ∧ Below w2.heap.size w2 wr) (fun v _ _ _ => N - (intOf v).toNat)
  case atStart => exact ⟨0, by omega, rfl, rfl, fun j d hj => absurd hj (by omega), Below.refl _ _⟩
  case round =>
    obtain ⟨k, hk, rfl, rfl, hok, hb⟩ := hrel
    have HBR := Lib.hid hb; have HOK := Lib.hid hok
    clear hb hok
    by_cases hlt : k < N
    · obtain ⟨d, hd⟩ : ∃ d, LL[k]? = some d := ⟨_, List.getElem?_eq_getElem (by have := HLL.out.2.1; omega)⟩
      obtain ⟨b', off', e', hbl, hrg⟩ := HDS.out.at hd
      obtain ⟨rfl, rfl⟩ : gr = b' ∧ 0 = off' := by have := Option.some.inj e'; exact ⟨congrArg Addr.block this, congrArg Addr.off this⟩
      obtain ⟨D, hD⟩ : ∃ D, D = dgA d.1 := ⟨_, rfl⟩
      obtain ⟨E, hE⟩ : ∃ E, E = dgA (cutP' wd d.1) := ⟨_, rfl⟩
      obtain ⟨bv, hbv⟩ : ∃ b, b = cutOk wd d := ⟨_, rfl⟩
      have HDX := Lib.hid (show D = dgA d.1 ∧ D.size = 32 ∧ D.all (·.oneCell') = true by rw [hD]; exact ⟨rfl, by rw [dgA_size, d.2], dgA_all _⟩)
      have HRX := Lib.hid (show wr.rangeAt gr (k * 32) D.toList by have := range_below hrg HBR.out; rw [Nat.zero_add] at this; rw [hD]; exact this)
      have HCUT := Lib.hid (fun (x : World) => show Calls Tryz.prog 92 #[.agg D, .int .i64 wd] x (fun e w' => e = .returned (.agg E) ∧ Below x.heap.size x w') by rw [hD, hE]; exact cut_dg x d.1 d.2 wd HWD.out.1 HWD.out.2)
      have HNE := Lib.hid (fun (u : World) => show (binOp .neq 23 (.agg E) (.agg D)).run Tryz.prog u = .ok (.bool (!bv)) u by
        have := neqd_dg ⟨cutP' wd d.1, by rw [cutP'_len, d.2]⟩ d u
        rw [hD, hE, hbv]
        rw [show cutOk wd d = decide ((⟨cutP' wd d.1, by rw [cutP'_len, d.2]⟩ : Dg) = d) by unfold cutOk; exact decide_eq_decide.2 ⟨fun h => Subtype.ext h, fun h => congrArg Subtype.val h⟩]
        exact this)
      have HDK := Lib.hid hd; have HBV := Lib.hid hbv; have HKN := Lib.hid (And.intro hk hlt)
      have h9 : decide ((k : Int) < (N : Int)) = true := by rw [decide_eq_true_eq]; omega
      have hki : (k : Int) < (N : Int) := by omega
      have hk0 : (0 : Int) ≤ (k : Int) := by omega
      have hk3 : k ≤ 1000 := by have := HLL.out.2.2.1; omega
      clear hd hbl hrg e' hD hE hbv hk hlt
      go_upto_region 4 with (first
    | (refine L_load_arr rfl 23 (.tmp 21) (by rfl) gr (k * 32) (by first | rfl | (simp only [Nat.zero_add]; rfl)) D _ HRX.out Tryz.underlying23 rfl (by rw [HDX.out.2.1]; exact info38) ?_)
    | (refine L_valueU rfl (exec_al23 (by rfl) _) ?_)
    | (refine L_storeF rfl 23 (.tmp 6) (.tmp 22) (by rfl) _ zc23 D (by rfl) (by rfl) (by rw [HDX.out.2.1]; rfl) (by rw [HDX.out.2.1]; exact info38) HDX.out.2.2 ?_))
      obtain ⟨g6, hg6⟩ : ∃ g, g = wr.heap.size := ⟨_, rfl⟩
      have HX4 := Lib.hid (below_new wr D 23)
      have HR6 := Lib.hid (show (wr.alloc (.cells D 23)).rangeAt g6 0 D.toList by rw [hg6]; exact row_range (box_new wr D 23))
      rw [← hg6]
      clear hg6
      generalize wr.alloc (.cells D 23) = w4 at *
      have HR6d := Lib.hid (range_below HR6.out (Below.refl _ _).drew)
      have hw4 : Below w4.heap.size w4 w4.drew := (Below.refl _ _).drew
      have HD4 := Lib.hid hw4
      clear hw4
      cases bv with
      | true =>
        refine wp_region_held_drew (S := fun x : World => x.rangeAt g6 0 D.toList) (by kernel_rfl) HR6d.out (fun hHeld => ?_)
        apply wpL 0 (.agg D)
        · exact fun w hSw => exec_load rfl (load23r hSw HDX.out.2.1)
        apply wpT 1
        apply wpL 3 (.agg D)
        · exact fun w hSw => exec_load rfl (load23r hSw HDX.out.2.1)
        apply wpR 2
        intro K hK
        go_simp
        refine (HCUT.out _).mono ?_
        rintro e w5 ⟨rfl, hb⟩
        have HX5 := Lib.hid hb
        clear hb
        apply bk hK
        · exact range_below hHeld HX5.out
        intro hHeld
        clear hK K
        apply wpL 4 (.bool false)
        · exact fun w hSw => exec_bin rfl (HNE.out _) (by kernel_rfl)
        refine wpAnyH_done (by kernel_rfl) ?_ _
        have HB5 := Lib.hid (show Below w2.heap.size w2 w5 from HBR.out.trans ((HX4.out.trans ((HD4.out.trans (HX5.out.mono HD4.out.size)).mono HX4.out.size)).mono HBR.out.size))
        go_wp2_with fail
        go_roundw
        case rel => exact ⟨k + 1, by have := HKN.out; omega, by push_cast; rfl, rfl, fun j d' hj hd' => by
          rcases Nat.lt_succ_iff_lt_or_eq.1 hj with h | h
          · exact HOK.out j d' h hd'
          · subst h; rw [HDK.out] at hd'; rw [← Option.some.inj hd']; exact HBV.out.symm, HB5.out⟩
        case measure => exact meas_lt (N := N) (z := (k : Int) + 1) (by push_cast; rfl) HKN.out.2
      | false =>
        refine wp_region_held_drew (S := fun x : World => x.rangeAt g6 0 D.toList) (by kernel_rfl) HR6d.out (fun hHeld => ?_)
        apply wpL 0 (.agg D)
        · exact fun w hSw => exec_load rfl (load23r hSw HDX.out.2.1)
        apply wpT 1
        apply wpL 3 (.agg D)
        · exact fun w hSw => exec_load rfl (load23r hSw HDX.out.2.1)
        apply wpR 2
        intro K hK
        go_simp
        refine (HCUT.out _).mono ?_
        rintro e w5 ⟨rfl, hb⟩
        have HX5 := Lib.hid hb
        clear hb
        apply bk hK
        · exact range_below hHeld HX5.out
        intro hHeld
        clear hK K
        apply wpL 4 (.bool true)
        · exact fun w hSw => exec_bin rfl (HNE.out _) (by kernel_rfl)
        refine wpAnyH_done (by kernel_rfl) ?_ _
        have HB5 := Lib.hid (show Below w2.heap.size w2 w5 from HBR.out.trans ((HX4.out.trans ((HD4.out.trans (HX5.out.mono HD4.out.size)).mono HX4.out.size)).mono HBR.out.size))
        have HV := Lib.hid (HNO.out k d HDK.out HBV.out.symm)
        go_wp2_with fail
        go_ret
        exact ⟨by (first | (rw [HV.out]; done) | (rw [HV.out]; rfl)), HB2.out.trans (HB5.out.mono HB2.out.size)⟩
    · have hkN : k = N := by omega
      subst hkN
      have HV := Lib.hid (HYES.out (fun j d hd => HOK.out j d (by have := (List.getElem?_eq_some_iff.1 hd).1; have := HLL.out.2.1; omega) hd))
      have h9 : decide ((k : Int) < (k : Int)) = false := by rw [decide_eq_false_iff_not]; omega
      have hki : ¬ (k : Int) < (k : Int) := by omega
      have HBW := Lib.hid (HB2.out.trans (HBR.out.mono HB2.out.size))
      have HQ7 := Lib.hid (blk_up HQ2.out HBR.out)
      clear hk hlt
      go_wp2_with fail
      change K2 _ _
      refine HK2.out _ _ ?_
      exact le_tail w wr HBW.out wd f sA sB aA aB nA nB cA cB g3 HQ7.out zi zp zq HE.out D1 D2 RA RB ⟨HD1.out.2.1, HD1.out.2.2, HD2.out.2.1, HD2.out.2.2, HRAS.out, HRR.out.1, HRBS.out, HRR.out.2⟩ x1 x2 HCA0.out HCB0.out HV.out _ _ _ _ _ _ _ _ _ _ _ _ _ _ _ _ _ _ _ _ _ _ _ _ _ _ _ _ _ _ _ _ _ _ _ _ _ _ _ _ _ _ _ _ _ _ _ _ _ _ _ _ _ _ _ _ _ _ _ _ _
end Go.Proofs.YtoboabkaojfbaaaGreatDoor
