import Derived.Test.YtoboabkaojfbaaaGreatDoorQ33
import Derived.Test.YtoboabkaojfbaaaGreatDoorQ23
import Derived.Test.YtoboabkaojfbaaaGreatDoorQ20
namespace Go.Proofs.YtoboabkaojfbaaaGreatDoor
open Go Go.RowKit
set_option maxRecDepth 100000
set_option maxHeartbeats 8000000
set_option linter.unusedVariables false
set_option linter.unusedSimpArgs false
theorem range_pre {w : World} {b o : Nat} {A B : List Value} (h : w.rangeAt b o (A ++ B)) : w.rangeAt b o A := fun j v hj => h j v (by rw [List.getElem?_append_left (List.getElem?_eq_some_iff.1 hj).1]; exact hj)
theorem range_blk {w w' : World} {b o : Nat} {L : List Value} (h : w.rangeAt b o L) (hb : Below w.heap.size w w') : w'.rangeAt b o L := range_below h hb
theorem blk_up {w w' : World} {g : Nat} {o : Obj} (h : w.heap[g]? = some o) (hb : Below w.heap.size w w') : w'.heap[g]? = some o := (hb.block g (Array.getElem?_eq_some_iff.1 h).1).trans h
theorem fo_mid (w0 w : World) (hb : Below w0.heap.size w0 w) (f : Fc) (sA sB wA wB : S3) (hF : FcAt w f sA sB wA wB) (hoa : okN f.a = true) (hob : okN f.b = true) (g1 g7 g8 : Nat) (h1 : w.heap[g1]? = some (.cells (fcA f sA sB wA wB) 35 (0, 0))) (h7 : w.heap[g7]? = some (.cells (hdA f.a.head) 25 (0, 0))) (h8 : w.heap[g8]? = some (.cells (hdA f.b.head) 25 (0, 0))) (ht : Tabs w) (u0 u3 u4 u5 u6 u9 u10 u11 u12 u13 u14 u15 u16 u17 u18 u19 u20 u21 u22 u23 u24 u25 u26 u27 u28 u29 u30 u31 u32 u33 u34 u35 u36 u37 u38 u39 u40 u41 u42 u43 u44 u45 u46 u47 u48 u49 u50 u51 u52 u53 u54 u55 u56 u57 u58 u59 u60 u61 u62 u63 u64 u65 u66 u67 u68 u69 u70 u71 u72 u73 u74 u75 u76 u77 u78 u79 u80 u81 u82 u83 u84 u85 u86 u87 u88 u89 u90 u91 u92 u93 u94 u95 u96 u97 u98 u99 u100 u101 u102 u103 u104 u105 u106 u107 u108 u109 u110 u111 u112 u113 u114 u115 u116 u117 u118 u119 u120 u121 u122 u123 u124 u125 u126 u127 u128 u129 u130 u131 u132 u133 u134 u135 u136 u137 u138 u139 u140 u141 u142 u143 : Value) :
    Code.wp Tryz.prog (dropSeq 3 fo0) (bodyPost Tryz.prog Tryz.f61 (FoRet w0 f)) ⟨#[u0, .pointer (some ⟨g1, 0, none⟩), .bool false, u3, u4, u5, u6, .pointer (some ⟨g7, 0, none⟩), .pointer (some ⟨g8, 0, none⟩), u9, u10, u11, u12, u13, u14, u15, u16, u17, u18, u19, u20, u21, u22, u23, u24, u25, u26, u27, u28, u29, u30, u31, u32, u33, u34, u35, u36, u37, u38, u39, u40, u41, u42, u43, u44, u45, u46, u47, u48, u49, u50, u51, u52, u53, u54, u55, u56, u57, u58, u59, u60, u61, u62, u63, u64, u65, u66, u67, u68, u69, u70, u71, u72, u73, u74, u75, u76, u77, u78, u79, u80, u81, u82, u83, u84, u85, u86, u87, u88, u89, u90, u91, u92, u93, u94, u95, u96, u97, u98, u99, u100, u101, u102, u103, u104, u105, u106, u107, u108, u109, u110, u111, u112, u113, u114, u115, u116, u117, u118, u119, u120, u121, u122, u123, u124, u125, u126, u127, u128, u129, u130, u131, u132, u133, u134, u135, u136, u137, u138, u139, u140, u141, u142, u143], []⟩ w := by
  obtain ⟨-, s, hs⟩ := okN_one hoa
  obtain ⟨-, t, hs'⟩ := okN_one hob
  obtain ⟨aA, nA, cA⟩ := sA
  obtain ⟨aB, nB, cB⟩ := sB
  obtain rfl : nA = 1 := by have := hF.a.1; rw [hs] at this; exact this.symm
  obtain rfl : nB = 1 := by have := hF.b.1; rw [hs'] at this; exact this.symm
  obtain ⟨ba, oa, ea, -, hra⟩ := sg_at hF.a (i := 0) (s := s) (by rw [hs]; rfl)
  obtain ⟨bb, ob, eb, -, hrb⟩ := sg_at hF.b (i := 0) (s := t) (by rw [hs']; rfl)
  simp only at ea eb
  subst ea
  subst eb
  rw [Nat.zero_mul, Nat.add_zero] at hra hrb
  obtain ⟨K1, hK1⟩ : ∃ K, K = dgA s.key.1 := ⟨_, rfl⟩
  obtain ⟨K2, hK2⟩ : ∃ K, K = dgA t.key.1 := ⟨_, rfl⟩
  have hr1 : w.rangeAt ba oa K1.toList := by rw [hK1]; have := range_pre (A := dgE s.key) (B := dgE s.tag) (by simpa [sgA, sgE] using hra); simpa [dgE, dgA] using this
  have hr2 : w.rangeAt bb ob K2.toList := by rw [hK2]; have := range_pre (A := dgE t.key) (B := dgE t.tag) (by simpa [sgA, sgE] using hrb); simpa [dgE, dgA] using this
  have HKS := Lib.hid (show K1.size = 32 ∧ K2.size = 32 by rw [hK1, hK2]; exact ⟨by rw [dgA_size, s.key.2], by rw [dgA_size, t.key.2]⟩)
  have hkk : decide (key0 f.a = key0 f.b) = decide (s.key = t.key) := by rw [key0_one hs, key0_one hs']
  have HNK := Lib.hid (fun (x : World) => show (binOp .neq 23 (.agg K1) (.agg K2)).run Tryz.prog x = .ok (.bool (!decide (s.key = t.key))) x by rw [hK1, hK2]; exact neqd_dg _ _ _)
  have c98 : w.cell? ⟨g1, 98, none⟩ = some (.slice (some ⟨ba, oa, none⟩) 1 cA) := FB.c_vA h1
  have c197 : w.cell? ⟨g1, 197, none⟩ = some (.slice (some ⟨bb, ob, none⟩) 1 cB) := FB.c_vB h1
  have c198 : w.cell? ⟨g1, 198, none⟩ = some (.int .i64 f.form) := FB.c_fm h1
  obtain ⟨fm, hfm⟩ : ∃ x, x = f.form := ⟨_, rfl⟩
  rw [← hfm] at c198
  have H7 := Lib.hid h7; have H8 := Lib.hid h8; have H1 := Lib.hid h1; have HF := Lib.hid hF; have HB := Lib.hid hb; have HT := Lib.hid ht; have HFM := Lib.hid hfm
  have HOK := Lib.hid (And.intro hoa hob)
  obtain ⟨A7, hA7⟩ : ∃ A, A = hdA f.a.head := ⟨_, rfl⟩
  obtain ⟨A8, hA8⟩ : ∃ A, A = hdA f.b.head := ⟨_, rfl⟩
  rw [← hA7] at h7
  rw [← hA8] at h8
  have HAS := Lib.hid (show A7.size = 98 ∧ A8.size = 98 by rw [hA7, hA8]; exact ⟨hdA_size _, hdA_size _⟩)
  obtain ⟨L1, hL1⟩ : ∃ K, K = dgA f.a.head.log.1 := ⟨_, rfl⟩
  obtain ⟨L2, hL2⟩ : ∃ K, K = dgA f.b.head.log.1 := ⟨_, rfl⟩
  have HLS := Lib.hid (show L1.size = 32 ∧ L2.size = 32 by rw [hL1, hL2]; exact ⟨by rw [dgA_size, f.a.head.log.2], by rw [dgA_size, f.b.head.log.2]⟩)
  have HG7 := Lib.hid (fun (x : World) (hx : x.heap[g7]? = some (.cells A7 25 (0, 0))) => show x.rangeAt g7 0 L1.toList by rw [hA7] at hx; rw [hL1]; have := Go.Proofs.YtoboabkaojfbaaaGreatDoor.HB.r_log hx; simpa [dgE, dgA] using this)
  have HG8 := Lib.hid (fun (x : World) (hx : x.heap[g8]? = some (.cells A8 25 (0, 0))) => show x.rangeAt g8 0 L2.toList by rw [hA8] at hx; rw [hL2]; have := Go.Proofs.YtoboabkaojfbaaaGreatDoor.HB.r_log hx; simpa [dgE, dgA] using this)
  have HNL := Lib.hid (fun (x : World) => show (binOp .neq 23 (.agg L1) (.agg L2)).run Tryz.prog x = .ok (.bool (!decide (f.a.head.log = f.b.head.log))) x by rw [hL1, hL2]; exact neqd_dg _ _ _)
  have HEQ := Lib.hid (fun (x : World) => show (binOp .eql 25 (.agg A7) (.agg A8)).run Tryz.prog x = .ok (.bool (decide (f.a.head = f.b.head))) x by rw [hA7, hA8]; exact eql_hd _ _ _)
  have HCA := Lib.hid (fun (x : World) => show Calls Tryz.prog 58 #[.agg A7, .agg A8] x (fun e w' => e = .returned (.bool (afterP f.a.head f.b.head)) ∧ Below x.heap.size x w') by rw [hA7, hA8]; exact after_any x _ _)
  obtain ⟨fo, hfo⟩ : ∃ x, x = formOf f.a.head f.b.head := ⟨_, rfl⟩
  have HCF := Lib.hid (fun (x : World) => show Calls Tryz.prog 59 #[.agg A7, .agg A8] x (fun e w' => e = .returned (.int .i64 fo) ∧ Below x.heap.size x w') by rw [hA7, hA8, hfo]; exact formOf_any x _ _)
  have HFO := Lib.hid hfo
  have HS0 := Lib.hid (show (fun x : World => x.cell? ⟨g1, 98, none⟩ = some (.slice (some ⟨ba, oa, none⟩) 1 cA) ∧ x.cell? ⟨g1, 197, none⟩ = some (.slice (some ⟨bb, ob, none⟩) 1 cB) ∧ x.cell? ⟨g1, 198, none⟩ = some (.int .i64 fm) ∧ x.heap[g7]? = some (.cells A7 25 (0, 0)) ∧ x.heap[g8]? = some (.cells A8 25 (0, 0)) ∧ x.rangeAt ba oa K1.toList ∧ x.rangeAt bb ob K2.toList) w.drew from ⟨c98, c197, c198, h7, h8, hr1, hr2⟩)
  have HSK := Lib.hid (fun (x y : World) (h : (fun x : World => x.cell? ⟨g1, 98, none⟩ = some (.slice (some ⟨ba, oa, none⟩) 1 cA) ∧ x.cell? ⟨g1, 197, none⟩ = some (.slice (some ⟨bb, ob, none⟩) 1 cB) ∧ x.cell? ⟨g1, 198, none⟩ = some (.int .i64 fm) ∧ x.heap[g7]? = some (.cells A7 25 (0, 0)) ∧ x.heap[g8]? = some (.cells A8 25 (0, 0)) ∧ x.rangeAt ba oa K1.toList ∧ x.rangeAt bb ob K2.toList) x) (hb : Below x.heap.size x y) => (⟨keepR hb h.1, keepR hb h.2.1, keepR hb h.2.2.1, blk_up h.2.2.2.1 hb, blk_up h.2.2.2.2.1 hb, range_below h.2.2.2.2.2.1 hb, range_below h.2.2.2.2.2.2 hb⟩ : (fun x : World => x.cell? ⟨g1, 98, none⟩ = some (.slice (some ⟨ba, oa, none⟩) 1 cA) ∧ x.cell? ⟨g1, 197, none⟩ = some (.slice (some ⟨bb, ob, none⟩) 1 cB) ∧ x.cell? ⟨g1, 198, none⟩ = some (.int .i64 fm) ∧ x.heap[g7]? = some (.cells A7 25 (0, 0)) ∧ x.heap[g8]? = some (.cells A8 25 (0, 0)) ∧ x.rangeAt ba oa K1.toList ∧ x.rangeAt bb ob K2.toList) y))
  have HX0 := Lib.hid (show Below w.heap.size w w.drew from (Below.refl _ _).drew)
  have HKK := Lib.hid hkk
  refine wp_two_k (c := dropSeq 3 fo0) ⟨_, _, rfl⟩ fun K hK => ?_
  have HKQ := Lib.hid (fun (a : Act) (x : World) (h : Code.wp Tryz.prog (dropSeq 4 fo0) (bodyPost Tryz.prog Tryz.f61 (FoRet w0 f)) a x) => hK a x (by rw [dropSeq_succ]; exact h))
  clear hK
  clear hs hs' hra hrb hr1 hr2 hK1 hK2 c98 c197 c198 hfm h1 h7 h8 hF hb ht hoa hob hA7 hA8 hL1 hL2 hfo hkk
  cases e1 : decide (s.key = t.key) with
  | false =>
    have HV := Lib.hid (show formedP f = false from formed_k HOK.out.1 HOK.out.2 (by rw [HKK.out, e1]))
    rw [e1] at HNK
    clear e1
    conv => arg 2; whnf
    go_upto_region 9 with (fail)
    refine wp_region_held_drew (S := (fun x : World => x.cell? ⟨g1, 98, none⟩ = some (.slice (some ⟨ba, oa, none⟩) 1 cA) ∧ x.cell? ⟨g1, 197, none⟩ = some (.slice (some ⟨bb, ob, none⟩) 1 cB) ∧ x.cell? ⟨g1, 198, none⟩ = some (.int .i64 fm) ∧ x.heap[g7]? = some (.cells A7 25 (0, 0)) ∧ x.heap[g8]? = some (.cells A8 25 (0, 0)) ∧ x.rangeAt ba oa K1.toList ∧ x.rangeAt bb ob K2.toList)) (by kernel_rfl) HS0.out (fun hHeld => ?_)
    apply wpT 0
    apply wpT 1
    apply wpT 2
    apply wpT 3
    apply wpT 4
    apply wpL 5 (.agg K1)
    · exact fun w hSw => exec_load rfl (load23r hSw.2.2.2.2.2.1 HKS.out.1)
    apply wpT 6
    apply wpT 7
    apply wpT 8
    apply wpT 9
    apply wpT 10
    apply wpL 11 (.agg K2)
    · exact fun w hSw => exec_load rfl (load23r hSw.2.2.2.2.2.2 HKS.out.2)
    apply wpL 12 (.bool (!false))
    · exact fun w hSw => exec_bin rfl (HNK.out w) (by kernel_rfl)
    apply wpT 13
    apply wpN 14
    apply wpN 15
    apply wpN 16
    apply wpN 17
    apply wpN 18
    apply wpT 19
    apply wpT 20
    apply wpN 21
    apply wpN 22
    apply wpN 23
    apply wpT 24
    apply wpT 25
    apply wpN 26
    apply wpN 27
    apply wpN 28
    apply wpT 29
    apply wpT 30
    apply wpN 31
    apply wpN 32
    apply wpN 33
    apply wpN 34
    apply wpN 35
    apply wpN 36
    apply wpT 37
    refine wpAnyH_done (by kernel_rfl) ?_ _
    go_wp2_with fail
    go_ret
    exact ⟨by (first | (rw [HV.out]; done) | (rw [HV.out]; rfl)), HB.out.trans (HX0.out.mono HB.out.size)⟩
  | true =>
    have HE1 := Lib.hid e1
    rw [e1] at HNK
    clear e1
    cases e2 : decide (f.a.head.log = f.b.head.log) with
    | false =>
      have HV := Lib.hid (show formedP f = false from formed_l e2)
      rw [e2] at HNL
      clear e2
      conv => arg 2; whnf
      go_upto_region 9 with (fail)
      refine wp_region_held_drew (S := (fun x : World => x.cell? ⟨g1, 98, none⟩ = some (.slice (some ⟨ba, oa, none⟩) 1 cA) ∧ x.cell? ⟨g1, 197, none⟩ = some (.slice (some ⟨bb, ob, none⟩) 1 cB) ∧ x.cell? ⟨g1, 198, none⟩ = some (.int .i64 fm) ∧ x.heap[g7]? = some (.cells A7 25 (0, 0)) ∧ x.heap[g8]? = some (.cells A8 25 (0, 0)) ∧ x.rangeAt ba oa K1.toList ∧ x.rangeAt bb ob K2.toList)) (by kernel_rfl) HS0.out (fun hHeld => ?_)
      apply wpT 0
      apply wpT 1
      apply wpT 2
      apply wpT 3
      apply wpT 4
      apply wpL 5 (.agg K1)
      · exact fun w hSw => exec_load rfl (load23r hSw.2.2.2.2.2.1 HKS.out.1)
      apply wpT 6
      apply wpT 7
      apply wpT 8
      apply wpT 9
      apply wpT 10
      apply wpL 11 (.agg K2)
      · exact fun w hSw => exec_load rfl (load23r hSw.2.2.2.2.2.2 HKS.out.2)
      apply wpL 12 (.bool (!true))
      · exact fun w hSw => exec_bin rfl (HNK.out w) (by kernel_rfl)
      apply wpT 13
      apply wpT 14
      apply wpL 15 (.agg L1)
      · exact fun w hSw => exec_load rfl (load23r (HG7.out _ hSw.2.2.2.1) HLS.out.1)
      apply wpT 16
      apply wpL 17 (.agg L2)
      · exact fun w hSw => exec_load rfl (load23r (HG8.out _ hSw.2.2.2.2.1) HLS.out.2)
      apply wpL 18 (.bool (!false))
      · exact fun w hSw => exec_bin rfl (HNL.out w) (by kernel_rfl)
      apply wpT 19
      apply wpT 20
      apply wpN 21
      apply wpN 22
      apply wpN 23
      apply wpT 24
      apply wpT 25
      apply wpN 26
      apply wpN 27
      apply wpN 28
      apply wpT 29
      apply wpT 30
      apply wpN 31
      apply wpN 32
      apply wpN 33
      apply wpN 34
      apply wpN 35
      apply wpN 36
      apply wpT 37
      refine wpAnyH_done (by kernel_rfl) ?_ _
      go_wp2_with fail
      go_ret
      exact ⟨by (first | (rw [HV.out]; done) | (rw [HV.out]; rfl)), HB.out.trans (HX0.out.mono HB.out.size)⟩
    | true =>
      have HE2 := Lib.hid e2
      rw [e2] at HNL
      clear e2
      cases e3 : decide (f.a.head = f.b.head) with
      | true =>
        have HV := Lib.hid (show formedP f = false from formed_e e3)
        rw [e3] at HEQ
        clear e3
        conv => arg 2; whnf
        go_upto_region 9 with (fail)
        refine wp_region_held_drew (S := (fun x : World => x.cell? ⟨g1, 98, none⟩ = some (.slice (some ⟨ba, oa, none⟩) 1 cA) ∧ x.cell? ⟨g1, 197, none⟩ = some (.slice (some ⟨bb, ob, none⟩) 1 cB) ∧ x.cell? ⟨g1, 198, none⟩ = some (.int .i64 fm) ∧ x.heap[g7]? = some (.cells A7 25 (0, 0)) ∧ x.heap[g8]? = some (.cells A8 25 (0, 0)) ∧ x.rangeAt ba oa K1.toList ∧ x.rangeAt bb ob K2.toList)) (by kernel_rfl) HS0.out (fun hHeld => ?_)
        apply wpT 0
        apply wpT 1
        apply wpT 2
        apply wpT 3
        apply wpT 4
        apply wpL 5 (.agg K1)
        · exact fun w hSw => exec_load rfl (load23r hSw.2.2.2.2.2.1 HKS.out.1)
        apply wpT 6
        apply wpT 7
        apply wpT 8
        apply wpT 9
        apply wpT 10
        apply wpL 11 (.agg K2)
        · exact fun w hSw => exec_load rfl (load23r hSw.2.2.2.2.2.2 HKS.out.2)
        apply wpL 12 (.bool (!true))
        · exact fun w hSw => exec_bin rfl (HNK.out w) (by kernel_rfl)
        apply wpT 13
        apply wpT 14
        apply wpL 15 (.agg L1)
        · exact fun w hSw => exec_load rfl (load23r (HG7.out _ hSw.2.2.2.1) HLS.out.1)
        apply wpT 16
        apply wpL 17 (.agg L2)
        · exact fun w hSw => exec_load rfl (load23r (HG8.out _ hSw.2.2.2.2.1) HLS.out.2)
        apply wpL 18 (.bool (!true))
        · exact fun w hSw => exec_bin rfl (HNL.out w) (by kernel_rfl)
        apply wpT 19
        apply wpT 20
        apply wpL 21 (.agg A7)
        · exact fun w hSw => exec_load rfl (load25 (row_range hSw.2.2.2.1) HAS.out.1)
        apply wpL 22 (.agg A8)
        · exact fun w hSw => exec_load rfl (load25 (row_range hSw.2.2.2.2.1) HAS.out.2)
        apply wpL 23 (.bool true)
        · exact fun w hSw => exec_bin rfl (HEQ.out w) (by kernel_rfl)
        apply wpT 24
        apply wpT 25
        apply wpN 26
        apply wpN 27
        apply wpN 28
        apply wpT 29
        apply wpT 30
        apply wpN 31
        apply wpN 32
        apply wpN 33
        apply wpN 34
        apply wpN 35
        apply wpN 36
        apply wpT 37
        refine wpAnyH_done (by kernel_rfl) ?_ _
        go_wp2_with fail
        go_ret
        exact ⟨by (first | (rw [HV.out]; done) | (rw [HV.out]; rfl)), HB.out.trans (HX0.out.mono HB.out.size)⟩
      | false =>
        have HE3 := Lib.hid e3
        rw [e3] at HEQ
        clear e3
        cases e4 : afterP f.a.head f.b.head with
        | true =>
          have HV := Lib.hid (show formedP f = false from formed_f e4)
          rw [e4] at HCA
          clear e4
          conv => arg 2; whnf
          go_upto_region 9 with (fail)
          refine wp_region_held_drew (S := (fun x : World => x.cell? ⟨g1, 98, none⟩ = some (.slice (some ⟨ba, oa, none⟩) 1 cA) ∧ x.cell? ⟨g1, 197, none⟩ = some (.slice (some ⟨bb, ob, none⟩) 1 cB) ∧ x.cell? ⟨g1, 198, none⟩ = some (.int .i64 fm) ∧ x.heap[g7]? = some (.cells A7 25 (0, 0)) ∧ x.heap[g8]? = some (.cells A8 25 (0, 0)) ∧ x.rangeAt ba oa K1.toList ∧ x.rangeAt bb ob K2.toList)) (by kernel_rfl) HS0.out (fun hHeld => ?_)
          apply wpT 0
          apply wpT 1
          apply wpT 2
          apply wpT 3
          apply wpT 4
          apply wpL 5 (.agg K1)
          · exact fun w hSw => exec_load rfl (load23r hSw.2.2.2.2.2.1 HKS.out.1)
          apply wpT 6
          apply wpT 7
          apply wpT 8
          apply wpT 9
          apply wpT 10
          apply wpL 11 (.agg K2)
          · exact fun w hSw => exec_load rfl (load23r hSw.2.2.2.2.2.2 HKS.out.2)
          apply wpL 12 (.bool (!true))
          · exact fun w hSw => exec_bin rfl (HNK.out w) (by kernel_rfl)
          apply wpT 13
          apply wpT 14
          apply wpL 15 (.agg L1)
          · exact fun w hSw => exec_load rfl (load23r (HG7.out _ hSw.2.2.2.1) HLS.out.1)
          apply wpT 16
          apply wpL 17 (.agg L2)
          · exact fun w hSw => exec_load rfl (load23r (HG8.out _ hSw.2.2.2.2.1) HLS.out.2)
          apply wpL 18 (.bool (!true))
          · exact fun w hSw => exec_bin rfl (HNL.out w) (by kernel_rfl)
          apply wpT 19
          apply wpT 20
          apply wpL 21 (.agg A7)
          · exact fun w hSw => exec_load rfl (load25 (row_range hSw.2.2.2.1) HAS.out.1)
          apply wpL 22 (.agg A8)
          · exact fun w hSw => exec_load rfl (load25 (row_range hSw.2.2.2.2.1) HAS.out.2)
          apply wpL 23 (.bool false)
          · exact fun w hSw => exec_bin rfl (HEQ.out w) (by kernel_rfl)
          apply wpT 24
          apply wpT 25
          apply wpL 26 (.agg A7)
          · exact fun w hSw => exec_load rfl (load25 (row_range hSw.2.2.2.1) HAS.out.1)
          apply wpL 27 (.agg A8)
          · exact fun w hSw => exec_load rfl (load25 (row_range hSw.2.2.2.2.1) HAS.out.2)
          apply wpR 28
          intro K hK
          go_simp
          refine (HCA.out _).mono ?_
          rintro e w4 ⟨rfl, hb⟩
          have HXw4 := Lib.hid (HX0.out.trans (hb.mono HX0.out.size))
          apply bk hK
          · exact HSK.out _ _ hHeld hb
          intro hHeld
          clear hK K hb
          apply wpT 29
          apply wpT 30
          apply wpN 31
          apply wpN 32
          apply wpN 33
          apply wpN 34
          apply wpN 35
          apply wpN 36
          apply wpT 37
          refine wpAnyH_done (by kernel_rfl) ?_ _
          go_wp2_with fail
          go_ret
          exact ⟨by (first | (rw [HV.out]; done) | (rw [HV.out]; rfl)), HB.out.trans (HXw4.out.mono HB.out.size)⟩
        | false =>
          have HE4 := Lib.hid e4
          rw [e4] at HCA
          clear e4
          by_cases e5 : fm = fo
          · have HV := Lib.hid (show formedP f = formT f from formed_t HOK.out.1 HOK.out.2 (by rw [HKK.out, HE1.out]) HE2.out HE3.out HE4.out (by rw [← HFM.out, ← HFO.out, decide_eq_true e5]))
            subst e5
            conv => arg 2; whnf
            go_upto_region 9 with (fail)
            refine wp_region_held_drew (S := (fun x : World => x.cell? ⟨g1, 98, none⟩ = some (.slice (some ⟨ba, oa, none⟩) 1 cA) ∧ x.cell? ⟨g1, 197, none⟩ = some (.slice (some ⟨bb, ob, none⟩) 1 cB) ∧ x.cell? ⟨g1, 198, none⟩ = some (.int .i64 fm) ∧ x.heap[g7]? = some (.cells A7 25 (0, 0)) ∧ x.heap[g8]? = some (.cells A8 25 (0, 0)) ∧ x.rangeAt ba oa K1.toList ∧ x.rangeAt bb ob K2.toList)) (by kernel_rfl) HS0.out (fun hHeld => ?_)
            apply wpT 0
            apply wpT 1
            apply wpT 2
            apply wpT 3
            apply wpT 4
            apply wpL 5 (.agg K1)
            · exact fun w hSw => exec_load rfl (load23r hSw.2.2.2.2.2.1 HKS.out.1)
            apply wpT 6
            apply wpT 7
            apply wpT 8
            apply wpT 9
            apply wpT 10
            apply wpL 11 (.agg K2)
            · exact fun w hSw => exec_load rfl (load23r hSw.2.2.2.2.2.2 HKS.out.2)
            apply wpL 12 (.bool (!true))
            · exact fun w hSw => exec_bin rfl (HNK.out w) (by kernel_rfl)
            apply wpT 13
            apply wpT 14
            apply wpL 15 (.agg L1)
            · exact fun w hSw => exec_load rfl (load23r (HG7.out _ hSw.2.2.2.1) HLS.out.1)
            apply wpT 16
            apply wpL 17 (.agg L2)
            · exact fun w hSw => exec_load rfl (load23r (HG8.out _ hSw.2.2.2.2.1) HLS.out.2)
            apply wpL 18 (.bool (!true))
            · exact fun w hSw => exec_bin rfl (HNL.out w) (by kernel_rfl)
            apply wpT 19
            apply wpT 20
            apply wpL 21 (.agg A7)
            · exact fun w hSw => exec_load rfl (load25 (row_range hSw.2.2.2.1) HAS.out.1)
            apply wpL 22 (.agg A8)
            · exact fun w hSw => exec_load rfl (load25 (row_range hSw.2.2.2.2.1) HAS.out.2)
            apply wpL 23 (.bool false)
            · exact fun w hSw => exec_bin rfl (HEQ.out w) (by kernel_rfl)
            apply wpT 24
            apply wpT 25
            apply wpL 26 (.agg A7)
            · exact fun w hSw => exec_load rfl (load25 (row_range hSw.2.2.2.1) HAS.out.1)
            apply wpL 27 (.agg A8)
            · exact fun w hSw => exec_load rfl (load25 (row_range hSw.2.2.2.2.1) HAS.out.2)
            apply wpR 28
            intro K hK
            go_simp
            refine (HCA.out _).mono ?_
            rintro e w4 ⟨rfl, hb⟩
            have HXw4 := Lib.hid (HX0.out.trans (hb.mono HX0.out.size))
            apply bk hK
            · exact HSK.out _ _ hHeld hb
            intro hHeld
            clear hK K hb
            apply wpT 29
            apply wpT 30
            apply wpT 31
            apply wpT 32
            apply wpL 33 (.agg A7)
            · exact fun w hSw => exec_load rfl (load25 (row_range hSw.2.2.2.1) HAS.out.1)
            apply wpL 34 (.agg A8)
            · exact fun w hSw => exec_load rfl (load25 (row_range hSw.2.2.2.2.1) HAS.out.2)
            apply wpR 35
            intro K hK
            go_simp
            refine (HCF.out _).mono ?_
            rintro e w5 ⟨rfl, hb⟩
            have HXw5 := Lib.hid (HXw4.out.trans (hb.mono HXw4.out.size))
            apply bk hK
            · exact HSK.out _ _ hHeld hb
            intro hHeld
            clear hK K hb
            apply wpT 36
            apply wpT 37
            refine wpAnyH_done (by kernel_rfl) ?_ _
            go_wp2_with fail
            refine HKQ.out _ _ (fo_tail w0 w5 (HB.out.trans (HXw5.out.mono HB.out.size)) f _ _ wA wB (HF.out.below HXw5.out) HV.out g1 g7 g8 (blk_up H1.out HXw5.out) (blk_up H7.out HXw5.out) (blk_up H8.out HXw5.out) (HT.out.below HXw5.out) _ _ _ _ _ _ _ _ _ _ _ _ _ _ _ _ _ _ _ _ _ _ _ _ _ _ _ _ _ _ _ _ _ _ _ _ _ _ _ _ _ _ _ _ _ _ _ _ _ _ _ _ _ _ _ _ _ _ _ _ _ _ _ _ _ _ _ _ _ _ _ _ _ _ _ _ _ _ _ _ _ _ _ _ _ _ _ _ _ _ _ _ _ _ _ _ _ _ _ _ _ _ _ _ _ _ _ _ _ _ _ _ _ _ _ _ _ _ _ _ _ _ _ _ _ _ _ _ _ _ _ _ _ _ _ _ _ _ _ _)
          · have HV := Lib.hid (show formedP f = false from formed_o (by rw [← HFM.out, ← HFO.out, decide_eq_false e5]))
            have e5i : (fm == fo) = false := by rw [beq_eq_false_iff_ne]; exact e5
            have e5n : (fm != fo) = true := by rw [bne_iff_ne]; exact e5
            conv => arg 2; whnf
            go_upto_region 9 with (fail)
            refine wp_region_held_drew (S := (fun x : World => x.cell? ⟨g1, 98, none⟩ = some (.slice (some ⟨ba, oa, none⟩) 1 cA) ∧ x.cell? ⟨g1, 197, none⟩ = some (.slice (some ⟨bb, ob, none⟩) 1 cB) ∧ x.cell? ⟨g1, 198, none⟩ = some (.int .i64 fm) ∧ x.heap[g7]? = some (.cells A7 25 (0, 0)) ∧ x.heap[g8]? = some (.cells A8 25 (0, 0)) ∧ x.rangeAt ba oa K1.toList ∧ x.rangeAt bb ob K2.toList)) (by kernel_rfl) HS0.out (fun hHeld => ?_)
            apply wpT 0
            apply wpT 1
            apply wpT 2
            apply wpT 3
            apply wpT 4
            apply wpL 5 (.agg K1)
            · exact fun w hSw => exec_load rfl (load23r hSw.2.2.2.2.2.1 HKS.out.1)
            apply wpT 6
            apply wpT 7
            apply wpT 8
            apply wpT 9
            apply wpT 10
            apply wpL 11 (.agg K2)
            · exact fun w hSw => exec_load rfl (load23r hSw.2.2.2.2.2.2 HKS.out.2)
            apply wpL 12 (.bool (!true))
            · exact fun w hSw => exec_bin rfl (HNK.out w) (by kernel_rfl)
            apply wpT 13
            apply wpT 14
            apply wpL 15 (.agg L1)
            · exact fun w hSw => exec_load rfl (load23r (HG7.out _ hSw.2.2.2.1) HLS.out.1)
            apply wpT 16
            apply wpL 17 (.agg L2)
            · exact fun w hSw => exec_load rfl (load23r (HG8.out _ hSw.2.2.2.2.1) HLS.out.2)
            apply wpL 18 (.bool (!true))
            · exact fun w hSw => exec_bin rfl (HNL.out w) (by kernel_rfl)
            apply wpT 19
            apply wpT 20
            apply wpL 21 (.agg A7)
            · exact fun w hSw => exec_load rfl (load25 (row_range hSw.2.2.2.1) HAS.out.1)
            apply wpL 22 (.agg A8)
            · exact fun w hSw => exec_load rfl (load25 (row_range hSw.2.2.2.2.1) HAS.out.2)
            apply wpL 23 (.bool false)
            · exact fun w hSw => exec_bin rfl (HEQ.out w) (by kernel_rfl)
            apply wpT 24
            apply wpT 25
            apply wpL 26 (.agg A7)
            · exact fun w hSw => exec_load rfl (load25 (row_range hSw.2.2.2.1) HAS.out.1)
            apply wpL 27 (.agg A8)
            · exact fun w hSw => exec_load rfl (load25 (row_range hSw.2.2.2.2.1) HAS.out.2)
            apply wpR 28
            intro K hK
            go_simp
            refine (HCA.out _).mono ?_
            rintro e w4 ⟨rfl, hb⟩
            have HXw4 := Lib.hid (HX0.out.trans (hb.mono HX0.out.size))
            apply bk hK
            · exact HSK.out _ _ hHeld hb
            intro hHeld
            clear hK K hb
            apply wpT 29
            apply wpT 30
            apply wpT 31
            apply wpT 32
            apply wpL 33 (.agg A7)
            · exact fun w hSw => exec_load rfl (load25 (row_range hSw.2.2.2.1) HAS.out.1)
            apply wpL 34 (.agg A8)
            · exact fun w hSw => exec_load rfl (load25 (row_range hSw.2.2.2.2.1) HAS.out.2)
            apply wpR 35
            intro K hK
            go_simp
            refine (HCF.out _).mono ?_
            rintro e w5 ⟨rfl, hb⟩
            have HXw5 := Lib.hid (HXw4.out.trans (hb.mono HXw4.out.size))
            apply bk hK
            · exact HSK.out _ _ hHeld hb
            intro hHeld
            clear hK K hb
            apply wpT 36
            apply wpT 37
            refine wpAnyH_done (by kernel_rfl) ?_ _
            go_wp2_with fail
            go_ret
            exact ⟨by (first | (rw [HV.out]; done) | (rw [HV.out]; rfl)), HB.out.trans (HXw5.out.mono HB.out.size)⟩
end Go.Proofs.YtoboabkaojfbaaaGreatDoor
