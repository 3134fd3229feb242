import Derived.Test.YtoboabkaojfbaaaGreatDoorQ32
import Derived.Test.YtoboabkaojfbaaaGreatDoorQ27
namespace Go.Proofs.YtoboabkaojfbaaaGreatDoor
open Go Go.RowKit
set_option maxRecDepth 100000
set_option maxHeartbeats 8000000
set_option linter.unusedVariables false
set_option linter.unusedSimpArgs false
theorem fo_tail (w0 w : World) (hb : Below w0.heap.size w0 w) (f : Fc) (sA sB wA wB : S3) (hF : FcAt w f sA sB wA wB) (hv : formedP f = formT f) (g1 g7 g8 : Nat) (h1 : w.heap[g1]? = some (.cells (fcA f sA sB wA wB) 35 (0, 0))) (h7 : w.heap[g7]? = some (.cells (hdA f.a.head) 25 (0, 0))) (h8 : w.heap[g8]? = some (.cells (hdA f.b.head) 25 (0, 0))) (ht : Tabs w) (u0 u3 u4 u5 u6 u9 u10 u11 u12 u13 u14 u15 u16 u17 u18 u19 u20 u21 u22 u23 u24 u25 u26 u27 u28 u29 u30 u31 u32 u33 u34 u35 u36 u37 u38 u39 u40 u41 u42 u43 u44 u45 u46 u47 u48 u49 u50 u51 u52 u53 u54 u55 u56 u57 u58 u59 u60 u61 u62 u63 u64 u65 u66 u67 u68 u69 u70 u71 u72 u73 u74 u75 u76 u77 u78 u79 u80 u81 u82 u83 u84 u85 u86 u87 u88 u89 u90 u91 u92 u93 u94 u95 u96 u97 u98 u99 u100 u101 u102 u103 u104 u105 u106 u107 u108 u109 u110 u111 u112 u113 u114 u115 u116 u117 u118 u119 u120 u121 u122 u123 u124 u125 u126 u127 u128 u129 u130 u131 u132 u133 u134 u135 u136 u137 u138 u139 u140 u141 u142 u143 : Value) :
    Code.wp Tryz.prog (dropSeq 4 fo0) (bodyPost Tryz.prog Tryz.f61 (FoRet w0 f)) ⟨#[u0, .pointer (some ⟨g1, 0, none⟩), .bool false, u3, u4, u5, u6, .pointer (some ⟨g7, 0, none⟩), .pointer (some ⟨g8, 0, none⟩), u9, u10, u11, u12, u13, u14, u15, u16, u17, u18, u19, u20, u21, u22, u23, u24, u25, u26, u27, u28, u29, u30, u31, u32, u33, u34, u35, u36, u37, u38, u39, u40, u41, u42, u43, u44, u45, u46, u47, u48, u49, u50, u51, u52, u53, u54, u55, u56, u57, u58, u59, u60, u61, u62, u63, u64, u65, u66, u67, u68, u69, u70, u71, u72, u73, u74, u75, u76, u77, u78, u79, u80, u81, u82, u83, u84, u85, u86, u87, u88, u89, u90, u91, u92, u93, u94, u95, u96, u97, u98, u99, u100, u101, u102, u103, u104, u105, u106, u107, u108, u109, u110, u111, u112, u113, u114, u115, u116, u117, u118, u119, u120, u121, u122, u123, u124, u125, u126, u127, u128, u129, u130, u131, u132, u133, u134, u135, u136, u137, u138, u139, u140, u141, u142, u143], []⟩ w := by
  obtain ⟨aa, na, ca⟩ := wA
  obtain ⟨ab, nb, cb⟩ := wB
  have HB := Lib.hid hb; have HT := Lib.hid ht
  have HN := Lib.hid (show f.wayA.length = na ∧ f.wayB.length = nb from ⟨hF.wa.1, hF.wb.1⟩)
  have k198 : w.cell? ⟨g1, 198, none⟩ = some (.int .i64 f.form) := FB.c_fm h1
  have k199 : w.cell? ⟨g1, 199, none⟩ = some (.int .i64 f.number) := FB.c_nu h1
  have k264 : w.cell? ⟨g1, 264, none⟩ = some (.slice aa na ca) := FB.c_wA h1
  have k265 : w.cell? ⟨g1, 265, none⟩ = some (.slice ab nb cb) := FB.c_wB h1
  have hna : na ≤ 281474976710656 := hF.wa.2.2.1
  have hnb : nb ≤ 281474976710656 := hF.wb.2.2.1
  obtain ⟨E4, hE4⟩ : ∃ E, E = dgA f.leafA.1 := ⟨_, rfl⟩
  obtain ⟨E5, hE5⟩ : ∃ E, E = dgA f.leafB.1 := ⟨_, rfl⟩
  have HR4 := Lib.hid (show w.rangeAt g1 200 E4.toList by rw [hE4]; simpa [dgE, dgA] using FB.r_la h1)
  have HR5 := Lib.hid (show w.rangeAt g1 232 E5.toList by rw [hE5]; simpa [dgE, dgA] using FB.r_lb h1)
  have HES := Lib.hid (show E4.size = 32 ∧ E5.size = 32 by rw [hE4, hE5]; exact ⟨by rw [dgA_size, f.leafA.2], by rw [dgA_size, f.leafB.2]⟩)
  have HVT := Lib.hid hv
  obtain ⟨fm, hfm⟩ : ∃ x, x = f.form := ⟨_, rfl⟩
  obtain ⟨nu, hnu⟩ : ∃ x, x = f.number := ⟨_, rfl⟩
  rw [← hfm] at k198
  rw [← hnu] at k199
  have HFN := Lib.hid (And.intro hfm hnu)
  by_cases c3 : fm = 3
  · subst c3
    have HFT := Lib.hid (show formT f = (decide (0 ≤ nu) && (decide (nu < f.a.head.size) && (!decide (f.leafA = f.leafB) && (decide (na = stepsP f.a.head.size nu) && decide (nb = stepsP f.b.head.size nu))))) by
      unfold formT; rw [if_pos HFN.out.1.symm, ← HFN.out.2, HN.out.1, HN.out.2])
    have kza : w.cell? ⟨g7, 32, none⟩ = some (.int .i64 f.a.head.size) := Go.Proofs.YtoboabkaojfbaaaGreatDoor.HB.at_size h7
    have kzb : w.cell? ⟨g8, 32, none⟩ = some (.int .i64 f.b.head.size) := Go.Proofs.YtoboabkaojfbaaaGreatDoor.HB.at_size h8
    obtain ⟨za, hza⟩ : ∃ z, z = f.a.head.size := ⟨_, rfl⟩
    obtain ⟨zb, hzb⟩ : ∃ z, z = f.b.head.size := ⟨_, rfl⟩
    rw [← hza] at kza HFT
    rw [← hzb] at kzb HFT
    have HS0 := Lib.hid (show (fun x : World => x.cell? ⟨g1, 199, none⟩ = some (.int .i64 nu) ∧ x.cell? ⟨g1, 264, none⟩ = some (.slice aa na ca) ∧ x.cell? ⟨g1, 265, none⟩ = some (.slice ab nb cb) ∧ x.cell? ⟨g7, 32, none⟩ = some (.int .i64 za) ∧ x.cell? ⟨g8, 32, none⟩ = some (.int .i64 zb) ∧ x.rangeAt g1 200 E4.toList ∧ x.rangeAt g1 232 E5.toList) w.drew from ⟨k199, k264, k265, kza, kzb, HR4.out, HR5.out⟩)
    have HSK := Lib.hid (fun (x y : World) (h : (fun x : World => x.cell? ⟨g1, 199, none⟩ = some (.int .i64 nu) ∧ x.cell? ⟨g1, 264, none⟩ = some (.slice aa na ca) ∧ x.cell? ⟨g1, 265, none⟩ = some (.slice ab nb cb) ∧ x.cell? ⟨g7, 32, none⟩ = some (.int .i64 za) ∧ x.cell? ⟨g8, 32, none⟩ = some (.int .i64 zb) ∧ x.rangeAt g1 200 E4.toList ∧ x.rangeAt g1 232 E5.toList) x) (hb : Below x.heap.size x y) => (⟨keepR hb h.1, keepR hb h.2.1, keepR hb h.2.2.1, keepR hb h.2.2.2.1, keepR hb h.2.2.2.2.1, range_below h.2.2.2.2.2.1 hb, range_below h.2.2.2.2.2.2 hb⟩ : (fun x : World => x.cell? ⟨g1, 199, none⟩ = some (.int .i64 nu) ∧ x.cell? ⟨g1, 264, none⟩ = some (.slice aa na ca) ∧ x.cell? ⟨g1, 265, none⟩ = some (.slice ab nb cb) ∧ x.cell? ⟨g7, 32, none⟩ = some (.int .i64 za) ∧ x.cell? ⟨g8, 32, none⟩ = some (.int .i64 zb) ∧ x.rangeAt g1 200 E4.toList ∧ x.rangeAt g1 232 E5.toList) y))
    have HX0 := Lib.hid (show Below w.heap.size w w.drew from (Below.refl _ _).drew)
    obtain ⟨st1, hst1⟩ : ∃ x, x = stepsP za nu := ⟨_, rfl⟩
    obtain ⟨st2, hst2⟩ : ∃ x, x = stepsP zb nu := ⟨_, rfl⟩
    have HC1 := Lib.hid (fun (x : World) (hx : Below w.heap.size w x) => show Calls Tryz.prog 106 #[.int .i64 za, .int .i64 nu] x (fun e w' => e = .returned (.int .i64 (st1 : Int)) ∧ Below x.heap.size x w') by
      have := HT.out.below hx
      rw [hst1]; exact steps_any x za nu this.1 this.2.1 this.2.2)
    have HC2 := Lib.hid (fun (x : World) (hx : Below w.heap.size w x) => show Calls Tryz.prog 106 #[.int .i64 zb, .int .i64 nu] x (fun e w' => e = .returned (.int .i64 (st2 : Int)) ∧ Below x.heap.size x w') by
      have := HT.out.below hx
      rw [hst2]; exact steps_any x zb nu this.1 this.2.1 this.2.2)
    rw [← hst1, ← hst2] at HFT
    have HNE := Lib.hid (fun (x : World) => show (binOp .neq 23 (.agg E4) (.agg E5)).run Tryz.prog x = .ok (.bool (!decide (f.leafA = f.leafB))) x by rw [hE4, hE5]; exact neqd_dg _ _ _)
    clear hE4 hE5 hfm hnu h1 h7 h8 hF hv hb ht hza hzb hst1 hst2 kza kzb k199 k264 k265 hna hnb
    cases b1 : decide (0 ≤ nu) with
    | false =>
      have HV := Lib.hid (show formedP f = false by rw [HVT.out, HFT.out, b1]; rfl)
      conv => arg 2; whnf
      go_upto_region 13 with (fail)
      refine wp_region_held_drew (S := fun x : World => x.cell? ⟨g1, 199, none⟩ = some (.int .i64 nu) ∧ x.cell? ⟨g1, 264, none⟩ = some (.slice aa na ca) ∧ x.cell? ⟨g1, 265, none⟩ = some (.slice ab nb cb) ∧ x.cell? ⟨g7, 32, none⟩ = some (.int .i64 za) ∧ x.cell? ⟨g8, 32, none⟩ = some (.int .i64 zb) ∧ x.rangeAt g1 200 E4.toList ∧ x.rangeAt g1 232 E5.toList) (by kernel_rfl) HS0.out (fun hHeld => ?_)
      apply wpT 0
      apply wpT 1
      apply wpT 2
      apply wpT 3
      apply wpN 4
      apply wpN 5
      apply wpN 6
      apply wpN 7
      apply wpN 8
      apply wpT 9
      apply wpT 10
      apply wpN 11
      apply wpN 12
      apply wpN 13
      apply wpN 14
      apply wpN 15
      apply wpT 16
      apply wpT 17
      apply wpN 18
      apply wpN 19
      apply wpN 20
      apply wpN 21
      apply wpN 22
      apply wpN 23
      apply wpN 24
      apply wpN 25
      apply wpN 26
      apply wpT 27
      apply wpT 28
      apply wpN 29
      apply wpN 30
      apply wpN 31
      apply wpN 32
      apply wpN 33
      apply wpN 34
      apply wpN 35
      apply wpN 36
      apply wpN 37
      apply wpT 38
      apply wpT 39
      refine wpAnyH_done (by kernel_rfl) ?_ _
      go_wp2_with fail
      go_ret
      exact ⟨by (first | (rw [HV.out]; done) | (rw [HV.out]; rfl)), HB.out.trans (HX0.out.mono HB.out.size)⟩
    | true =>
      cases b2 : decide (nu < za) with
      | false =>
        have HV := Lib.hid (show formedP f = false by rw [HVT.out, HFT.out, b1, b2]; rfl)
        conv => arg 2; whnf
        go_upto_region 13 with (fail)
        refine wp_region_held_drew (S := fun x : World => x.cell? ⟨g1, 199, none⟩ = some (.int .i64 nu) ∧ x.cell? ⟨g1, 264, none⟩ = some (.slice aa na ca) ∧ x.cell? ⟨g1, 265, none⟩ = some (.slice ab nb cb) ∧ x.cell? ⟨g7, 32, none⟩ = some (.int .i64 za) ∧ x.cell? ⟨g8, 32, none⟩ = some (.int .i64 zb) ∧ x.rangeAt g1 200 E4.toList ∧ x.rangeAt g1 232 E5.toList) (by kernel_rfl) HS0.out (fun hHeld => ?_)
        apply wpT 0
        apply wpT 1
        apply wpT 2
        apply wpT 3
        apply wpT 4
        apply wpT 5
        apply wpT 6
        apply wpT 7
        apply wpT 8
        apply wpT 9
        apply wpT 10
        apply wpN 11
        apply wpN 12
        apply wpN 13
        apply wpN 14
        apply wpN 15
        apply wpT 16
        apply wpT 17
        apply wpN 18
        apply wpN 19
        apply wpN 20
        apply wpN 21
        apply wpN 22
        apply wpN 23
        apply wpN 24
        apply wpN 25
        apply wpN 26
        apply wpT 27
        apply wpT 28
        apply wpN 29
        apply wpN 30
        apply wpN 31
        apply wpN 32
        apply wpN 33
        apply wpN 34
        apply wpN 35
        apply wpN 36
        apply wpN 37
        apply wpT 38
        apply wpT 39
        refine wpAnyH_done (by kernel_rfl) ?_ _
        go_wp2_with fail
        go_ret
        exact ⟨by (first | (rw [HV.out]; done) | (rw [HV.out]; rfl)), HB.out.trans (HX0.out.mono HB.out.size)⟩
      | true =>
        cases b3 : decide (f.leafA = f.leafB) with
        | true =>
          have HV := Lib.hid (show formedP f = false by rw [HVT.out, HFT.out, b1, b2, b3]; rfl)
          rw [b3] at HNE
          clear b3
          conv => arg 2; whnf
          go_upto_region 13 with (fail)
          refine wp_region_held_drew (S := fun x : World => x.cell? ⟨g1, 199, none⟩ = some (.int .i64 nu) ∧ x.cell? ⟨g1, 264, none⟩ = some (.slice aa na ca) ∧ x.cell? ⟨g1, 265, none⟩ = some (.slice ab nb cb) ∧ x.cell? ⟨g7, 32, none⟩ = some (.int .i64 za) ∧ x.cell? ⟨g8, 32, none⟩ = some (.int .i64 zb) ∧ x.rangeAt g1 200 E4.toList ∧ x.rangeAt g1 232 E5.toList) (by kernel_rfl) HS0.out (fun hHeld => ?_)
          apply wpT 0
          apply wpT 1
          apply wpT 2
          apply wpT 3
          apply wpT 4
          apply wpT 5
          apply wpT 6
          apply wpT 7
          apply wpT 8
          apply wpT 9
          apply wpT 10
          apply wpT 11
          apply wpL 12 (.agg E4)
          · exact fun w hSw => exec_load rfl (load23r hSw.2.2.2.2.2.1 HES.out.1)
          apply wpT 13
          apply wpL 14 (.agg E5)
          · exact fun w hSw => exec_load rfl (load23r hSw.2.2.2.2.2.2 HES.out.2)
          apply wpL 15 (.bool (!true))
          · exact fun w hSw => exec_bin rfl (HNE.out w) (by kernel_rfl)
          apply wpT 16
          apply wpT 17
          apply wpN 18
          apply wpN 19
          apply wpN 20
          apply wpN 21
          apply wpN 22
          apply wpN 23
          apply wpN 24
          apply wpN 25
          apply wpN 26
          apply wpT 27
          apply wpT 28
          apply wpN 29
          apply wpN 30
          apply wpN 31
          apply wpN 32
          apply wpN 33
          apply wpN 34
          apply wpN 35
          apply wpN 36
          apply wpN 37
          apply wpT 38
          apply wpT 39
          refine wpAnyH_done (by kernel_rfl) ?_ _
          go_wp2_with fail
          go_ret
          exact ⟨by (first | (rw [HV.out]; done) | (rw [HV.out]; rfl)), HB.out.trans (HX0.out.mono HB.out.size)⟩
        | false =>
          have HB3 := Lib.hid b3
          rw [b3] at HNE
          clear b3
          by_cases b4 : na = st1
          · by_cases b5 : nb = st2
            · have HV := Lib.hid (show formedP f = true by rw [HVT.out, HFT.out, b1, b2, HB3.out, decide_eq_true b4, decide_eq_true b5]; rfl)
              subst b4
              subst b5
              conv => arg 2; whnf
              go_upto_region 13 with (fail)
              refine wp_region_held_drew (S := fun x : World => x.cell? ⟨g1, 199, none⟩ = some (.int .i64 nu) ∧ x.cell? ⟨g1, 264, none⟩ = some (.slice aa na ca) ∧ x.cell? ⟨g1, 265, none⟩ = some (.slice ab nb cb) ∧ x.cell? ⟨g7, 32, none⟩ = some (.int .i64 za) ∧ x.cell? ⟨g8, 32, none⟩ = some (.int .i64 zb) ∧ x.rangeAt g1 200 E4.toList ∧ x.rangeAt g1 232 E5.toList) (by kernel_rfl) HS0.out (fun hHeld => ?_)
              apply wpT 0
              apply wpT 1
              apply wpT 2
              apply wpT 3
              apply wpT 4
              apply wpT 5
              apply wpT 6
              apply wpT 7
              apply wpT 8
              apply wpT 9
              apply wpT 10
              apply wpT 11
              apply wpL 12 (.agg E4)
              · exact fun w hSw => exec_load rfl (load23r hSw.2.2.2.2.2.1 HES.out.1)
              apply wpT 13
              apply wpL 14 (.agg E5)
              · exact fun w hSw => exec_load rfl (load23r hSw.2.2.2.2.2.2 HES.out.2)
              apply wpL 15 (.bool (!false))
              · exact fun w hSw => exec_bin rfl (HNE.out w) (by kernel_rfl)
              apply wpT 16
              apply wpT 17
              apply wpT 18
              apply wpT 19
              apply wpT 20
              apply wpT 21
              apply wpT 22
              apply wpT 23
              apply wpT 24
              apply wpR 25
              intro K hK
              go_simp
              refine (HC1.out _ HX0.out).mono ?_
              rintro e w4 ⟨rfl, hb⟩
              have HXw4 := Lib.hid (HX0.out.trans (hb.mono HX0.out.size))
              apply bk hK
              · exact HSK.out _ _ hHeld hb
              intro hHeld
              clear hK K hb
              apply wpT 26
              apply wpT 27
              apply wpT 28
              apply wpT 29
              apply wpT 30
              apply wpT 31
              apply wpT 32
              apply wpT 33
              apply wpT 34
              apply wpT 35
              apply wpR 36
              intro K hK
              go_simp
              refine (HC2.out _ HXw4.out).mono ?_
              rintro e w5 ⟨rfl, hb⟩
              have HXw5 := Lib.hid (HXw4.out.trans (hb.mono HXw4.out.size))
              apply bk hK
              · exact HSK.out _ _ hHeld hb
              intro hHeld
              clear hK K hb
              apply wpT 37
              apply wpT 38
              apply wpT 39
              refine wpAnyH_done (by kernel_rfl) ?_ _
              go_wp2_with fail
              go_ret
              exact ⟨by (first | (rw [HV.out]; done) | (rw [HV.out]; rfl)), HB.out.trans (HXw5.out.mono HB.out.size)⟩
            · have HV := Lib.hid (show formedP f = false by rw [HVT.out, HFT.out, b1, b2, HB3.out, decide_eq_false b5]; simp)
              have b5i : ((nb : Int) == (st2 : Int)) = false := by rw [beq_eq_false_iff_ne]; omega
              have b5n : (nb == st2) = false := by simpa using b5
              subst b4
              conv => arg 2; whnf
              go_upto_region 13 with (fail)
              refine wp_region_held_drew (S := fun x : World => x.cell? ⟨g1, 199, none⟩ = some (.int .i64 nu) ∧ x.cell? ⟨g1, 264, none⟩ = some (.slice aa na ca) ∧ x.cell? ⟨g1, 265, none⟩ = some (.slice ab nb cb) ∧ x.cell? ⟨g7, 32, none⟩ = some (.int .i64 za) ∧ x.cell? ⟨g8, 32, none⟩ = some (.int .i64 zb) ∧ x.rangeAt g1 200 E4.toList ∧ x.rangeAt g1 232 E5.toList) (by kernel_rfl) HS0.out (fun hHeld => ?_)
              apply wpT 0
              apply wpT 1
              apply wpT 2
              apply wpT 3
              apply wpT 4
              apply wpT 5
              apply wpT 6
              apply wpT 7
              apply wpT 8
              apply wpT 9
              apply wpT 10
              apply wpT 11
              apply wpL 12 (.agg E4)
              · exact fun w hSw => exec_load rfl (load23r hSw.2.2.2.2.2.1 HES.out.1)
              apply wpT 13
              apply wpL 14 (.agg E5)
              · exact fun w hSw => exec_load rfl (load23r hSw.2.2.2.2.2.2 HES.out.2)
              apply wpL 15 (.bool (!false))
              · exact fun w hSw => exec_bin rfl (HNE.out w) (by kernel_rfl)
              apply wpT 16
              apply wpT 17
              apply wpT 18
              apply wpT 19
              apply wpT 20
              apply wpT 21
              apply wpT 22
              apply wpT 23
              apply wpT 24
              apply wpR 25
              intro K hK
              go_simp
              refine (HC1.out _ HX0.out).mono ?_
              rintro e w4 ⟨rfl, hb⟩
              have HXw4 := Lib.hid (HX0.out.trans (hb.mono HX0.out.size))
              apply bk hK
              · exact HSK.out _ _ hHeld hb
              intro hHeld
              clear hK K hb
              apply wpT 26
              apply wpT 27
              apply wpT 28
              apply wpT 29
              apply wpT 30
              apply wpT 31
              apply wpT 32
              apply wpT 33
              apply wpT 34
              apply wpT 35
              apply wpR 36
              intro K hK
              go_simp
              refine (HC2.out _ HXw4.out).mono ?_
              rintro e w5 ⟨rfl, hb⟩
              have HXw5 := Lib.hid (HXw4.out.trans (hb.mono HXw4.out.size))
              apply bk hK
              · exact HSK.out _ _ hHeld hb
              intro hHeld
              clear hK K hb
              apply wpT 37
              apply wpT 38
              apply wpT 39
              refine wpAnyH_done (by kernel_rfl) ?_ _
              go_wp2_with fail
              go_ret
              exact ⟨by (first | (rw [HV.out]; done) | (rw [HV.out]; rfl)), HB.out.trans (HXw5.out.mono HB.out.size)⟩
          · have HV := Lib.hid (show formedP f = false by rw [HVT.out, HFT.out, b1, b2, HB3.out, decide_eq_false b4]; simp)
            have b4i : ((na : Int) == (st1 : Int)) = false := by rw [beq_eq_false_iff_ne]; omega
            have b4n : (na == st1) = false := by simpa using b4
            conv => arg 2; whnf
            go_upto_region 13 with (fail)
            refine wp_region_held_drew (S := fun x : World => x.cell? ⟨g1, 199, none⟩ = some (.int .i64 nu) ∧ x.cell? ⟨g1, 264, none⟩ = some (.slice aa na ca) ∧ x.cell? ⟨g1, 265, none⟩ = some (.slice ab nb cb) ∧ x.cell? ⟨g7, 32, none⟩ = some (.int .i64 za) ∧ x.cell? ⟨g8, 32, none⟩ = some (.int .i64 zb) ∧ x.rangeAt g1 200 E4.toList ∧ x.rangeAt g1 232 E5.toList) (by kernel_rfl) HS0.out (fun hHeld => ?_)
            apply wpT 0
            apply wpT 1
            apply wpT 2
            apply wpT 3
            apply wpT 4
            apply wpT 5
            apply wpT 6
            apply wpT 7
            apply wpT 8
            apply wpT 9
            apply wpT 10
            apply wpT 11
            apply wpL 12 (.agg E4)
            · exact fun w hSw => exec_load rfl (load23r hSw.2.2.2.2.2.1 HES.out.1)
            apply wpT 13
            apply wpL 14 (.agg E5)
            · exact fun w hSw => exec_load rfl (load23r hSw.2.2.2.2.2.2 HES.out.2)
            apply wpL 15 (.bool (!false))
            · exact fun w hSw => exec_bin rfl (HNE.out w) (by kernel_rfl)
            apply wpT 16
            apply wpT 17
            apply wpT 18
            apply wpT 19
            apply wpT 20
            apply wpT 21
            apply wpT 22
            apply wpT 23
            apply wpT 24
            apply wpR 25
            intro K hK
            go_simp
            refine (HC1.out _ HX0.out).mono ?_
            rintro e w4 ⟨rfl, hb⟩
            have HXw4 := Lib.hid (HX0.out.trans (hb.mono HX0.out.size))
            apply bk hK
            · exact HSK.out _ _ hHeld hb
            intro hHeld
            clear hK K hb
            apply wpT 26
            apply wpT 27
            apply wpT 28
            apply wpN 29
            apply wpN 30
            apply wpN 31
            apply wpN 32
            apply wpN 33
            apply wpN 34
            apply wpN 35
            apply wpN 36
            apply wpN 37
            apply wpT 38
            apply wpT 39
            refine wpAnyH_done (by kernel_rfl) ?_ _
            go_wp2_with fail
            go_ret
            exact ⟨by (first | (rw [HV.out]; done) | (rw [HV.out]; rfl)), HB.out.trans (HXw4.out.mono HB.out.size)⟩
  · have HFT := Lib.hid (show formT f = (decide (nu = 0) && (decide (f.leafA = zD) && (decide (f.leafB = zD) && decide (na + nb = 0)))) by
      unfold formT; rw [if_neg (by rw [← HFN.out.1]; exact c3), ← HFN.out.2, HN.out.1, HN.out.2])
    have d3 : (fm == 3) = false := by simp; omega
    have d3n : (fm != 3) = true := by simp; omega
    obtain ⟨Z, hZ⟩ : ∃ Z, Z = dgA zDg.1 := ⟨_, rfl⟩
    have HBZ := Lib.hid (fun (ρ : Operand → Value) (o : Oper) (k : Nat) (hk : o.dst = some k) (ho : o.op = .build 23 #[]) (w : World) => show (execOp ρ o).run Tryz.prog w = .ok (.value (.agg Z)) w by rw [hZ]; exact exec_build23z ho w)
    have q4 := Lib.hid (fun (w : World) => show (binOp .eql 23 (.agg E4) (.agg Z)).run Tryz.prog w = .ok (.bool (decide (f.leafA = zD))) w by rw [hE4, hZ]; exact eqd_dg _ _ _)
    have q5 := Lib.hid (fun (w : World) => show (binOp .eql 23 (.agg E5) (.agg Z)).run Tryz.prog w = .ok (.bool (decide (f.leafB = zD))) w by rw [hE5, hZ]; exact eqd_dg _ _ _)
    have hwl : IntKind.i64.wrap ((na : Int) + (nb : Int)) = (na : Int) + (nb : Int) := IntWalk.i64_in _ (by omega)
    clear hE4 hE5 hZ hfm hnu h1 h7 h8 hF hv hb ht
    by_cases c0 : nu = 0
    · subst c0
      cases e4 : decide (f.leafA = zD) with
      | false =>
        have HV := Lib.hid (show formedP f = false by rw [HVT.out, HFT.out, e4]; rfl)
        rw [e4] at q4
        clear e4
        conv => arg 2; whnf
        go_upto_region 12 with (fail)
        refine wp_region_lit ?_
        apply plT 0
        apply plT 0
        apply plT 0
        apply plT 0
        apply plT 0
        apply plL 0 (.agg E4)
        · exact exec_load rfl (load23r HR4.out HES.out.1)
        apply plL 0 (.agg Z)
        · exact HBZ.out _ _ 86 rfl rfl _
        apply plL 0 (.bool false)
        · exact exec_bin rfl (q4.out _) (by kernel_rfl)
        go_wp2_with fail
        go_ret
        exact ⟨by (first | (rw [HV.out]; done) | (rw [HV.out]; rfl)), HB.out⟩
      | true =>
        have HE4 := Lib.hid e4
        rw [e4] at q4
        clear e4
        cases e5 : decide (f.leafB = zD) with
        | false =>
          have HV := Lib.hid (show formedP f = false by rw [HVT.out, HFT.out, HE4.out, e5]; rfl)
          rw [e5] at q5
          clear e5
          conv => arg 2; whnf
          go_upto_region 12 with (fail)
          refine wp_region_lit ?_
          apply plT 0
          apply plT 0
          apply plT 0
          apply plT 0
          apply plT 0
          apply plL 0 (.agg E4)
          · exact exec_load rfl (load23r HR4.out HES.out.1)
          apply plL 0 (.agg Z)
          · exact HBZ.out _ _ 86 rfl rfl _
          apply plL 0 (.bool true)
          · exact exec_bin rfl (q4.out _) (by kernel_rfl)
          apply plT 0
          apply plT 0
          apply plT 0
          apply plL 0 (.agg E5)
          · exact exec_load rfl (load23r HR5.out HES.out.2)
          apply plL 0 (.agg Z)
          · exact HBZ.out _ _ 92 rfl rfl _
          apply plL 0 (.bool false)
          · exact exec_bin rfl (q5.out _) (by kernel_rfl)
          go_wp2_with fail
          go_ret
          exact ⟨by (first | (rw [HV.out]; done) | (rw [HV.out]; rfl)), HB.out⟩
        | true =>
          have HV := Lib.hid (show formedP f = decide (na + nb = 0) by rw [HVT.out, HFT.out, HE4.out, e5]; rfl)
          rw [e5] at q5
          clear e5
          by_cases c6 : na + nb = 0
          · have HV := Lib.hid (show formedP f = true by rw [HV.out, decide_eq_true c6])
            obtain rfl : na = 0 := by omega
            obtain rfl : nb = 0 := by omega
            conv => arg 2; whnf
            go_upto_region 12 with (fail)
            refine wp_region_lit ?_
            apply plT 0
            apply plT 0
            apply plT 0
            apply plT 0
            apply plT 0
            apply plL 0 (.agg E4)
            · exact exec_load rfl (load23r HR4.out HES.out.1)
            apply plL 0 (.agg Z)
            · exact HBZ.out _ _ 86 rfl rfl _
            apply plL 0 (.bool true)
            · exact exec_bin rfl (q4.out _) (by kernel_rfl)
            apply plT 0
            apply plT 0
            apply plT 0
            apply plL 0 (.agg E5)
            · exact exec_load rfl (load23r HR5.out HES.out.2)
            apply plL 0 (.agg Z)
            · exact HBZ.out _ _ 92 rfl rfl _
            apply plL 0 (.bool true)
            · exact exec_bin rfl (q5.out _) (by kernel_rfl)
            go_wp2_with fail
            go_ret
            exact ⟨by (first | (rw [HV.out]; done) | (rw [HV.out]; rfl)), HB.out⟩
          · have HV := Lib.hid (show formedP f = false by rw [HV.out, decide_eq_false c6])
            have d6 : (((na : Int) + (nb : Int)) == 0) = false := by simp; omega
            have d6n : ¬ ((na : Int) + (nb : Int) = 0) := by omega
            conv => arg 2; whnf
            go_upto_region 12 with (fail)
            refine wp_region_lit ?_
            apply plT 0
            apply plT 0
            apply plT 0
            apply plT 0
            apply plT 0
            apply plL 0 (.agg E4)
            · exact exec_load rfl (load23r HR4.out HES.out.1)
            apply plL 0 (.agg Z)
            · exact HBZ.out _ _ 86 rfl rfl _
            apply plL 0 (.bool true)
            · exact exec_bin rfl (q4.out _) (by kernel_rfl)
            apply plT 0
            apply plT 0
            apply plT 0
            apply plL 0 (.agg E5)
            · exact exec_load rfl (load23r HR5.out HES.out.2)
            apply plL 0 (.agg Z)
            · exact HBZ.out _ _ 92 rfl rfl _
            apply plL 0 (.bool true)
            · exact exec_bin rfl (q5.out _) (by kernel_rfl)
            go_wp2_with fail
            go_ret
            exact ⟨by (first | (rw [HV.out]; done) | (rw [HV.out]; rfl)), HB.out⟩
    · have HV := Lib.hid (show formedP f = false by rw [HVT.out, HFT.out, decide_eq_false c0]; rfl)
      have d0 : (nu == 0) = false := by simp; omega
      conv => arg 2; whnf
      go_wp2_with fail
      go_ret
      exact ⟨by (first | (rw [HV.out]; done) | (rw [HV.out]; rfl)), HB.out⟩
end Go.Proofs.YtoboabkaojfbaaaGreatDoor
