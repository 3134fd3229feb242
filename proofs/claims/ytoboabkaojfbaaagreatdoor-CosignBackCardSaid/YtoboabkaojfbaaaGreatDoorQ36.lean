import Derived.Test.YtoboabkaojfbaaaGreatDoorQ35
namespace Go.Proofs.YtoboabkaojfbaaaGreatDoor
open Go Go.RowKit
set_option maxRecDepth 100000
set_option maxHeartbeats 8000000
set_option linter.unusedVariables false
set_option linter.unusedSimpArgs false
/-! Notes and proofs held against each other. -/
theorem note_eq (x y : Nt) : decide (x = y) = (decide (x.head = y.head) && decide (x.signs = y.signs)) := by
  obtain ⟨a, b⟩ := x
  obtain ⟨c, d⟩ := y
  simp only [Nt.mk.injEq, Bool.decide_and]
theorem sameNote_any (w : World) (x y : Nt) (s t : S3) (hs : RS 64 sgE w s.a s.n s.c x.signs) (ht : RS 64 sgE w t.a t.n t.c y.signs) :
    Calls Tryz.prog 69 #[.agg (ntA x.head s.v), .agg (ntA y.head t.v)] w fun e w' => e = .returned (.bool (decide (x = y))) ∧ Below w.heap.size w w' := by
  obtain ⟨a1, n1, c1⟩ := s
  obtain ⟨a2, n2, c2⟩ := t
  obtain ⟨X, hX⟩ : ∃ X, X = ntA x.head (S3.v ⟨a1, n1, c1⟩) := ⟨_, rfl⟩
  obtain ⟨Y, hY⟩ : ∃ Y, Y = ntA y.head (S3.v ⟨a2, n2, c2⟩) := ⟨_, rfl⟩
  rw [← hX, ← hY]
  obtain ⟨A, hA⟩ : ∃ A, A = hdA x.head := ⟨_, rfl⟩
  obtain ⟨B, hB⟩ : ∃ B, B = hdA y.head := ⟨_, rfl⟩
  have HAS := Lib.hid (show A.size = 98 ∧ B.size = 98 by rw [hA, hB]; exact ⟨hdA_size _, hdA_size _⟩)
  have HEQ := Lib.hid (fun (u : World) => show (binOp .eql 25 (.agg A) (.agg B)).run Tryz.prog u = .ok (.bool (decide (x.head = y.head))) u by rw [hA, hB]; exact eql_hd _ _ _)
  have HS := Lib.hid (And.intro hs ht); have HXY := Lib.hid (And.intro hX hY); have HAB := Lib.hid (And.intro hA hB)
  have HNE := Lib.hid (note_eq x y)
  clear hs ht hX hY hA hB
  go_enter Tryz.func69, Tryz.ntmps69
  go_upto_region 1 with (fail)
  obtain ⟨g2, hg2⟩ : ∃ g, g = w.heap.size := ⟨_, rfl⟩
  obtain ⟨g3, hg3⟩ : ∃ g, g = w.heap.size + 1 := ⟨_, rfl⟩
  have HQ2 := Lib.hid (show ((w.alloc (.cells X 28)).alloc (.cells Y 28)).heap[g2]? = some (.cells X 28 (0, 0)) by rw [hg2]; exact heap_alloc2_old w _ _)
  have HQ3 := Lib.hid (show ((w.alloc (.cells X 28)).alloc (.cells Y 28)).heap[g3]? = some (.cells Y 28 (0, 0)) by rw [hg3]; exact heap_alloc2_new w _ _)
  have HB1 := Lib.hid (show Below w.heap.size w ((w.alloc (.cells X 28)).alloc (.cells Y 28)) from ((Below.refl _ _).alloc (Nat.le_refl _) _).alloc (by simp) _)
  first
    | rw [← hg3, ← hg2]
    | rw [← hg2, ← hg3]
  clear hg2 hg3
  generalize (w.alloc (.cells X 28)).alloc (.cells Y 28) = w1 at *
  have HR1 := Lib.hid (show w1.rangeAt g2 0 A.toList by have := HQ2.out; rw [HXY.out.1] at this; rw [HAB.out.1]; exact nt_head this)
  have HR2 := Lib.hid (show w1.rangeAt g3 0 B.toList by have := HQ3.out; rw [HXY.out.2] at this; rw [HAB.out.2]; exact nt_head this)
  have k1 : w1.cell? ⟨g2, 98, none⟩ = some (.slice a1 n1 c1) := by have := HQ2.out; rw [HXY.out.1] at this; exact nt_signs this
  have k2 : w1.cell? ⟨g3, 98, none⟩ = some (.slice a2 n2 c2) := by have := HQ3.out; rw [HXY.out.2] at this; exact nt_signs this
  cases e1 : decide (x.head = y.head) with
  | false =>
    have HV := Lib.hid (show decide (x = y) = false by rw [HNE.out, e1]; rfl)
    rw [e1] at HEQ
    clear e1
    refine wp_region_lit ?_
    apply plT 0
    apply plL 0 (.agg A)
    · exact exec_load rfl (load25 HR1.out HAS.out.1)
    apply plT 0
    apply plL 0 (.agg B)
    · exact exec_load rfl (load25 HR2.out HAS.out.2)
    apply plL 0 (.bool false)
    · exact exec_bin rfl (HEQ.out _) (by kernel_rfl)
    go_wp2_with fail
    go_ret
    exact ⟨by (first | (rw [HV.out]; done) | (rw [HV.out]; rfl)), HB1.out⟩
  | true =>
    have HV := Lib.hid (show decide (x = y) = decide (x.signs = y.signs) by rw [HNE.out, e1]; rfl)
    rw [e1] at HEQ
    clear e1
    have HC := Lib.hid (sames_sg w1 a1 a2 n1 n2 c1 c2 x.signs y.signs (HS.out.1.below HB1.out) (HS.out.2.below HB1.out))
    refine wp_region_lit ?_
    apply plT 0
    apply plL 0 (.agg A)
    · exact exec_load rfl (load25 HR1.out HAS.out.1)
    apply plT 0
    apply plL 0 (.agg B)
    · exact exec_load rfl (load25 HR2.out HAS.out.2)
    apply plL 0 (.bool true)
    · exact exec_bin rfl (HEQ.out _) (by kernel_rfl)
    go_wp2_with (go_at_call 114; (with_reducible refine HC.out.mono ?_); rintro e w2 ⟨rfl, hb⟩; have HX2 := Lib.hid hb; clear hb)
    go_ret
    exact ⟨by (first | (rw [HV.out]; done) | (rw [HV.out]; rfl)), HB1.out.trans (HX2.out.mono HB1.out.size)⟩
end Go.Proofs.YtoboabkaojfbaaaGreatDoor
namespace Go.Proofs.YtoboabkaojfbaaaGreatDoor
open Go Go.RowKit
set_option maxRecDepth 100000
set_option maxHeartbeats 8000000
set_option linter.unusedVariables false
set_option linter.unusedSimpArgs false
/-! The law's sameFaces. -/
theorem fc_eq (f g : Fc) : decide (f = g) = (decide (f.a = g.a) && (decide (f.b = g.b) && (decide (f.form = g.form) && (decide (f.number = g.number) && (decide (f.leafA = g.leafA) && (decide (f.leafB = g.leafB) && (decide (f.wayA = g.wayA) && decide (f.wayB = g.wayB)))))))) := by
  obtain ⟨a, b, c, d, e, i, j, k⟩ := f
  obtain ⟨a', b', c', d', e', i', j', k'⟩ := g
  simp only [Fc.mk.injEq, Bool.decide_and]
theorem sameFc_any (w : World) (f g : Fc) (sA sB wA wB tA tB vA vB : S3) (hF : FcAt w f sA sB wA wB) (hG : FcAt w g tA tB vA vB) :
    Calls Tryz.prog 16 #[.agg (fcA f sA sB wA wB), .agg (fcA g tA tB vA vB)] w fun e w' => e = .returned (.bool (decide (f = g))) ∧ Below w.heap.size w w' := by
  obtain ⟨X, hX⟩ : ∃ X, X = fcA f sA sB wA wB := ⟨_, rfl⟩
  obtain ⟨Y, hY⟩ : ∃ Y, Y = fcA g tA tB vA vB := ⟨_, rfl⟩
  rw [← hX, ← hY]
  have HXY := Lib.hid (And.intro hX hY); have HFG := Lib.hid (And.intro hF hG); have HNE := Lib.hid (fc_eq f g)
  obtain ⟨N1, hN1⟩ : ∃ D, D = ntA f.a.head sA.v := ⟨_, rfl⟩
  obtain ⟨N2, hN2⟩ : ∃ D, D = ntA g.a.head tA.v := ⟨_, rfl⟩
  obtain ⟨M1, hM1⟩ : ∃ D, D = ntA f.b.head sB.v := ⟨_, rfl⟩
  obtain ⟨M2, hM2⟩ : ∃ D, D = ntA g.b.head tB.v := ⟨_, rfl⟩
  obtain ⟨E1, hE1⟩ : ∃ D, D = dgA f.leafA.1 := ⟨_, rfl⟩
  obtain ⟨E2, hE2⟩ : ∃ D, D = dgA g.leafA.1 := ⟨_, rfl⟩
  obtain ⟨F1, hF1⟩ : ∃ D, D = dgA f.leafB.1 := ⟨_, rfl⟩
  obtain ⟨F2, hF2⟩ : ∃ D, D = dgA g.leafB.1 := ⟨_, rfl⟩
  have HZ := Lib.hid (show N1.size = 99 ∧ N2.size = 99 ∧ M1.size = 99 ∧ M2.size = 99 ∧ E1.size = 32 ∧ E2.size = 32 ∧ F1.size = 32 ∧ F2.size = 32 by
    rw [hN1, hN2, hM1, hM2, hE1, hE2, hF1, hF2]
    exact ⟨ntA_size _ _, ntA_size _ _, ntA_size _ _, ntA_size _ _, by rw [dgA_size, f.leafA.2], by rw [dgA_size, g.leafA.2], by rw [dgA_size, f.leafB.2], by rw [dgA_size, g.leafB.2]⟩)
  have HNA := Lib.hid (fun (u : World) (hu : Below w.heap.size w u) => show Calls Tryz.prog 69 #[.agg N1, .agg N2] u (fun e w' => e = .returned (.bool (decide (f.a = g.a))) ∧ Below u.heap.size u w') by rw [hN1, hN2]; exact sameNote_any u f.a g.a sA tA (HFG.out.1.a.below hu) (HFG.out.2.a.below hu))
  have HNB := Lib.hid (fun (u : World) (hu : Below w.heap.size w u) => show Calls Tryz.prog 69 #[.agg M1, .agg M2] u (fun e w' => e = .returned (.bool (decide (f.b = g.b))) ∧ Below u.heap.size u w') by rw [hM1, hM2]; exact sameNote_any u f.b g.b sB tB (HFG.out.1.b.below hu) (HFG.out.2.b.below hu))
  have HEA := Lib.hid (fun (u : World) => show (binOp .neq 23 (.agg E1) (.agg E2)).run Tryz.prog u = .ok (.bool (!decide (f.leafA = g.leafA))) u by rw [hE1, hE2]; exact neqd_dg _ _ _)
  have HEB := Lib.hid (fun (u : World) => show (binOp .neq 23 (.agg F1) (.agg F2)).run Tryz.prog u = .ok (.bool (!decide (f.leafB = g.leafB))) u by rw [hF1, hF2]; exact neqd_dg _ _ _)
  have HD := Lib.hid (show N1.toList = (ntA f.a.head sA.v).toList ∧ N2.toList = (ntA g.a.head tA.v).toList ∧ M1.toList = (ntA f.b.head sB.v).toList ∧ M2.toList = (ntA g.b.head tB.v).toList ∧ E1.toList = dgE f.leafA ∧ E2.toList = dgE g.leafA ∧ F1.toList = dgE f.leafB ∧ F2.toList = dgE g.leafB by
    rw [hN1, hN2, hM1, hM2, hE1, hE2, hF1, hF2]; exact ⟨rfl, rfl, rfl, rfl, by simp [dgE, dgA], by simp [dgE, dgA], by simp [dgE, dgA], by simp [dgE, dgA]⟩)
  obtain ⟨fm, hfm⟩ : ∃ x, x = f.form := ⟨_, rfl⟩
  obtain ⟨gm, hgm⟩ : ∃ x, x = g.form := ⟨_, rfl⟩
  obtain ⟨fn, hfn⟩ : ∃ x, x = f.number := ⟨_, rfl⟩
  obtain ⟨gn, hgn⟩ : ∃ x, x = g.number := ⟨_, rfl⟩
  rw [← hfm, ← hgm, ← hfn, ← hgn] at HNE
  have HI := Lib.hid (And.intro hfm (And.intro hgm (And.intro hfn hgn)))
  clear hX hY hF hG hN1 hN2 hM1 hM2 hE1 hE2 hF1 hF2 hfm hgm hfn hgn
  go_enter Tryz.func16, Tryz.ntmps16
  go_upto_region 1 with (fail)
  obtain ⟨g2, hg2⟩ : ∃ g, g = w.heap.size := ⟨_, rfl⟩
  obtain ⟨g3, hg3⟩ : ∃ g, g = w.heap.size + 1 := ⟨_, rfl⟩
  have HQ2 := Lib.hid (show ((w.alloc (.cells X 35)).alloc (.cells Y 35)).heap[g2]? = some (.cells X 35 (0, 0)) by rw [hg2]; exact heap_alloc2_old w _ _)
  have HQ3 := Lib.hid (show ((w.alloc (.cells X 35)).alloc (.cells Y 35)).heap[g3]? = some (.cells Y 35 (0, 0)) by rw [hg3]; exact heap_alloc2_new w _ _)
  have HB1 := Lib.hid (show Below w.heap.size w ((w.alloc (.cells X 35)).alloc (.cells Y 35)) from ((Below.refl _ _).alloc (Nat.le_refl _) _).alloc (by simp) _)
  first
    | rw [← hg3, ← hg2]
    | rw [← hg2, ← hg3]
  clear hg2 hg3
  generalize (w.alloc (.cells X 35)).alloc (.cells Y 35) = w1 at *
  have HP := Lib.hid (fun (u : World) (hu : Below w1.heap.size w1 u) => show u.heap[g2]? = some (.cells (fcA f sA sB wA wB) 35 (0, 0)) ∧ u.heap[g3]? = some (.cells (fcA g tA tB vA vB) 35 (0, 0)) ∧ Below w.heap.size w u from ⟨by rw [← HXY.out.1]; exact blk_up HQ2.out hu, by rw [← HXY.out.2]; exact blk_up HQ3.out hu, HB1.out.trans (hu.mono HB1.out.size)⟩)
  have HX1 := Lib.hid (Below.refl w1.heap.size w1)
  have HG := Lib.hid (fun (u : World) (hu : Below w1.heap.size w1 u) => show u.rangeAt g2 0 N1.toList ∧ u.rangeAt g3 0 N2.toList ∧ u.rangeAt g2 99 M1.toList ∧ u.rangeAt g3 99 M2.toList ∧ u.rangeAt g2 200 E1.toList ∧ u.rangeAt g3 200 E2.toList ∧ u.rangeAt g2 232 F1.toList ∧ u.rangeAt g3 232 F2.toList by
    obtain ⟨p, q, -⟩ := HP.out u hu
    obtain ⟨d1, d2, d3, d4, d5, d6, d7, d8⟩ := HD.out
    rw [d1, d2, d3, d4, d5, d6, d7, d8]
    exact ⟨FB.r_noteA p, FB.r_noteA q, FB.r_noteB p, FB.r_noteB q, FB.r_la p, FB.r_la q, FB.r_lb p, FB.r_lb q⟩)
  cases e1 : decide (f.a = g.a) with
  | false =>
    have HV := Lib.hid (show decide (f = g) = false by rw [HNE.out, e1]; rfl)
    rw [e1] at HNA
    clear e1
    refine wp_region_lit ?_
    apply plT 0
    apply plL 0 (.agg N1)
    · exact exec_load rfl (load28 (HG.out _ HX1.out).1 HZ.out.1)
    apply plT 0
    apply plL 0 (.agg N2)
    · exact exec_load rfl (load28 (HG.out _ HX1.out).2.1 HZ.out.2.1)
    refine wpList_step (fun K hK => ?_)
    rw [if_pos (by rfl)]
    go_simp
    refine (HNA.out _ (HP.out _ HX1.out).2.2).mono ?_
    rintro e w2 ⟨rfl, hb⟩
    have HX2 := Lib.hid hb
    clear hb
    refine hK _ _ ?_
    clear hK K
    go_wp2_with fail
    go_ret
    exact ⟨by (first | (rw [HV.out]; done) | (rw [HV.out]; rfl)), (HP.out _ HX2.out).2.2⟩
  | true =>
    have HE1 := Lib.hid e1
    rw [e1] at HNA
    clear e1
    cases e2 : decide (f.b = g.b) with
    | false =>
      have HV := Lib.hid (show decide (f = g) = false by rw [HNE.out, HE1.out, e2]; rfl)
      rw [e2] at HNB
      clear e2
      refine wp_region_lit ?_
      apply plT 0
      apply plL 0 (.agg N1)
      · exact exec_load rfl (load28 (HG.out _ HX1.out).1 HZ.out.1)
      apply plT 0
      apply plL 0 (.agg N2)
      · exact exec_load rfl (load28 (HG.out _ HX1.out).2.1 HZ.out.2.1)
      refine wpList_step (fun K hK => ?_)
      rw [if_pos (by rfl)]
      go_simp
      refine (HNA.out _ (HP.out _ HX1.out).2.2).mono ?_
      rintro e w2 ⟨rfl, hb⟩
      have HX2 := Lib.hid hb
      clear hb
      refine hK _ _ ?_
      clear hK K
      apply plT 0
      apply plT 0
      apply plT 0
      apply plL 0 (.agg M1)
      · exact exec_load rfl (load28 (HG.out _ HX2.out).2.2.1 HZ.out.2.2.1)
      apply plT 0
      apply plL 0 (.agg M2)
      · exact exec_load rfl (load28 (HG.out _ HX2.out).2.2.2.1 HZ.out.2.2.2.1)
      refine wpList_step (fun K hK => ?_)
      rw [if_pos (by rfl)]
      go_simp
      refine (HNB.out _ (HP.out _ HX2.out).2.2).mono ?_
      rintro e w3 ⟨rfl, hb⟩
      have HX3 := Lib.hid (HX2.out.trans (hb.mono HX2.out.size))
      clear hb
      refine hK _ _ ?_
      clear hK K
      have k1 : w3.cell? ⟨g2, 198, none⟩ = some (.int .i64 fm) := by rw [HI.out.1]; exact FB.c_fm (HP.out _ HX3.out).1
      have k2 : w3.cell? ⟨g3, 198, none⟩ = some (.int .i64 gm) := by rw [HI.out.2.1]; exact FB.c_fm (HP.out _ HX3.out).2.1
      have k3 : w3.cell? ⟨g2, 199, none⟩ = some (.int .i64 fn) := by rw [HI.out.2.2.1]; exact FB.c_nu (HP.out _ HX3.out).1
      have k4 : w3.cell? ⟨g3, 199, none⟩ = some (.int .i64 gn) := by rw [HI.out.2.2.2]; exact FB.c_nu (HP.out _ HX3.out).2.1
      go_wp2_with fail
      go_ret
      exact ⟨by (first | (rw [HV.out]; done) | (rw [HV.out]; rfl)), (HP.out _ HX3.out).2.2⟩
    | true =>
      have HE2 := Lib.hid e2
      rw [e2] at HNB
      clear e2
      by_cases e3 : fm = gm
      · by_cases e4 : fn = gn
        · subst e3
          subst e4
          cases e5 : decide (f.leafA = g.leafA) with
          | false =>
            have HV := Lib.hid (show decide (f = g) = false by rw [HNE.out, HE1.out, HE2.out, decide_eq_true rfl, decide_eq_true rfl, e5]; rfl)
            rw [e5] at HEA
            clear e5
            refine wp_region_lit ?_
            apply plT 0
            apply plL 0 (.agg N1)
            · exact exec_load rfl (load28 (HG.out _ HX1.out).1 HZ.out.1)
            apply plT 0
            apply plL 0 (.agg N2)
            · exact exec_load rfl (load28 (HG.out _ HX1.out).2.1 HZ.out.2.1)
            refine wpList_step (fun K hK => ?_)
            rw [if_pos (by rfl)]
            go_simp
            refine (HNA.out _ (HP.out _ HX1.out).2.2).mono ?_
            rintro e w2 ⟨rfl, hb⟩
            have HX2 := Lib.hid hb
            clear hb
            refine hK _ _ ?_
            clear hK K
            apply plT 0
            apply plT 0
            apply plT 0
            apply plL 0 (.agg M1)
            · exact exec_load rfl (load28 (HG.out _ HX2.out).2.2.1 HZ.out.2.2.1)
            apply plT 0
            apply plL 0 (.agg M2)
            · exact exec_load rfl (load28 (HG.out _ HX2.out).2.2.2.1 HZ.out.2.2.2.1)
            refine wpList_step (fun K hK => ?_)
            rw [if_pos (by rfl)]
            go_simp
            refine (HNB.out _ (HP.out _ HX2.out).2.2).mono ?_
            rintro e w3 ⟨rfl, hb⟩
            have HX3 := Lib.hid (HX2.out.trans (hb.mono HX2.out.size))
            clear hb
            refine hK _ _ ?_
            clear hK K
            have k1 : w3.cell? ⟨g2, 198, none⟩ = some (.int .i64 fm) := by rw [HI.out.1]; exact FB.c_fm (HP.out _ HX3.out).1
            have k2 : w3.cell? ⟨g3, 198, none⟩ = some (.int .i64 fm) := by rw [HI.out.2.1]; exact FB.c_fm (HP.out _ HX3.out).2.1
            have k3 : w3.cell? ⟨g2, 199, none⟩ = some (.int .i64 fn) := by rw [HI.out.2.2.1]; exact FB.c_nu (HP.out _ HX3.out).1
            have k4 : w3.cell? ⟨g3, 199, none⟩ = some (.int .i64 fn) := by rw [HI.out.2.2.2]; exact FB.c_nu (HP.out _ HX3.out).2.1
            apply plT 0
            apply plT 0
            apply plT 0
            apply plT 0
            apply plT 0
            apply plT 0
            apply plT 0
            apply plL 0 (.bool false)
            · exact (by go_simp; first | done | (simp only [bne_self_eq_false]; done) | (rw [bne_self_eq_false]))
            apply plT 0
            apply plT 0
            apply plT 0
            apply plT 0
            apply plT 0
            apply plT 0
            apply plL 0 (.bool false)
            · exact (by go_simp; first | done | (simp only [bne_self_eq_false]; done) | (rw [bne_self_eq_false]))
            apply plT 0
            apply plT 0
            apply plT 0
            apply plL 0 (.agg E1)
            · exact exec_load rfl (load23r (HG.out _ HX3.out).2.2.2.2.1 HZ.out.2.2.2.2.1)
            apply plT 0
            apply plL 0 (.agg E2)
            · exact exec_load rfl (load23r (HG.out _ HX3.out).2.2.2.2.2.1 HZ.out.2.2.2.2.2.1)
            apply plL 0 (.bool (!false))
            · exact exec_bin rfl (HEA.out _) (by kernel_rfl)
            go_wp2_with fail
            go_ret
            exact ⟨by (first | (rw [HV.out]; done) | (rw [HV.out]; rfl)), (HP.out _ HX3.out).2.2⟩
          | true =>
            have HE5 := Lib.hid e5
            rw [e5] at HEA
            clear e5
            cases e6 : decide (f.leafB = g.leafB) with
            | false =>
              have HV := Lib.hid (show decide (f = g) = false by rw [HNE.out, HE1.out, HE2.out, decide_eq_true rfl, decide_eq_true rfl, HE5.out, e6]; rfl)
              rw [e6] at HEB
              clear e6
              refine wp_region_lit ?_
              apply plT 0
              apply plL 0 (.agg N1)
              · exact exec_load rfl (load28 (HG.out _ HX1.out).1 HZ.out.1)
              apply plT 0
              apply plL 0 (.agg N2)
              · exact exec_load rfl (load28 (HG.out _ HX1.out).2.1 HZ.out.2.1)
              refine wpList_step (fun K hK => ?_)
              rw [if_pos (by rfl)]
              go_simp
              refine (HNA.out _ (HP.out _ HX1.out).2.2).mono ?_
              rintro e w2 ⟨rfl, hb⟩
              have HX2 := Lib.hid hb
              clear hb
              refine hK _ _ ?_
              clear hK K
              apply plT 0
              apply plT 0
              apply plT 0
              apply plL 0 (.agg M1)
              · exact exec_load rfl (load28 (HG.out _ HX2.out).2.2.1 HZ.out.2.2.1)
              apply plT 0
              apply plL 0 (.agg M2)
              · exact exec_load rfl (load28 (HG.out _ HX2.out).2.2.2.1 HZ.out.2.2.2.1)
              refine wpList_step (fun K hK => ?_)
              rw [if_pos (by rfl)]
              go_simp
              refine (HNB.out _ (HP.out _ HX2.out).2.2).mono ?_
              rintro e w3 ⟨rfl, hb⟩
              have HX3 := Lib.hid (HX2.out.trans (hb.mono HX2.out.size))
              clear hb
              refine hK _ _ ?_
              clear hK K
              have k1 : w3.cell? ⟨g2, 198, none⟩ = some (.int .i64 fm) := by rw [HI.out.1]; exact FB.c_fm (HP.out _ HX3.out).1
              have k2 : w3.cell? ⟨g3, 198, none⟩ = some (.int .i64 fm) := by rw [HI.out.2.1]; exact FB.c_fm (HP.out _ HX3.out).2.1
              have k3 : w3.cell? ⟨g2, 199, none⟩ = some (.int .i64 fn) := by rw [HI.out.2.2.1]; exact FB.c_nu (HP.out _ HX3.out).1
              have k4 : w3.cell? ⟨g3, 199, none⟩ = some (.int .i64 fn) := by rw [HI.out.2.2.2]; exact FB.c_nu (HP.out _ HX3.out).2.1
              apply plT 0
              apply plT 0
              apply plT 0
              apply plT 0
              apply plT 0
              apply plT 0
              apply plT 0
              apply plL 0 (.bool false)
              · exact (by go_simp; first | done | (simp only [bne_self_eq_false]; done) | (rw [bne_self_eq_false]))
              apply plT 0
              apply plT 0
              apply plT 0
              apply plT 0
              apply plT 0
              apply plT 0
              apply plL 0 (.bool false)
              · exact (by go_simp; first | done | (simp only [bne_self_eq_false]; done) | (rw [bne_self_eq_false]))
              apply plT 0
              apply plT 0
              apply plT 0
              apply plL 0 (.agg E1)
              · exact exec_load rfl (load23r (HG.out _ HX3.out).2.2.2.2.1 HZ.out.2.2.2.2.1)
              apply plT 0
              apply plL 0 (.agg E2)
              · exact exec_load rfl (load23r (HG.out _ HX3.out).2.2.2.2.2.1 HZ.out.2.2.2.2.2.1)
              apply plL 0 (.bool (!true))
              · exact exec_bin rfl (HEA.out _) (by kernel_rfl)
              apply plT 0
              apply plT 0
              apply plT 0
              apply plL 0 (.agg F1)
              · exact exec_load rfl (load23r (HG.out _ HX3.out).2.2.2.2.2.2.1 HZ.out.2.2.2.2.2.2.1)
              apply plT 0
              apply plL 0 (.agg F2)
              · exact exec_load rfl (load23r (HG.out _ HX3.out).2.2.2.2.2.2.2 HZ.out.2.2.2.2.2.2.2)
              apply plL 0 (.bool (!false))
              · exact exec_bin rfl (HEB.out _) (by kernel_rfl)
              go_wp2_with fail
              go_ret
              exact ⟨by (first | (rw [HV.out]; done) | (rw [HV.out]; rfl)), (HP.out _ HX3.out).2.2⟩
            | true =>
              have HV := Lib.hid (show decide (f = g) = (decide (f.wayA = g.wayA) && decide (f.wayB = g.wayB)) by rw [HNE.out, HE1.out, HE2.out, decide_eq_true rfl, decide_eq_true rfl, HE5.out, e6]; rfl)
              rw [e6] at HEB
              clear e6
              obtain ⟨aa, na, ca⟩ := wA
              obtain ⟨ab, nb, cb⟩ := wB
              obtain ⟨xa, ma, da⟩ := vA
              obtain ⟨xb, mb, db⟩ := vB
              have HWA := Lib.hid (fun (u : World) (hu : Below w.heap.size w u) => sames_dg u aa xa na ma ca da f.wayA g.wayA (HFG.out.1.wa.below hu) (HFG.out.2.wa.below hu))
              have HWB := Lib.hid (fun (u : World) (hu : Below w.heap.size w u) => sames_dg u ab xb nb mb cb db f.wayB g.wayB (HFG.out.1.wb.below hu) (HFG.out.2.wb.below hu))
              refine wp_region_lit ?_
              apply plT 0
              apply plL 0 (.agg N1)
              · exact exec_load rfl (load28 (HG.out _ HX1.out).1 HZ.out.1)
              apply plT 0
              apply plL 0 (.agg N2)
              · exact exec_load rfl (load28 (HG.out _ HX1.out).2.1 HZ.out.2.1)
              refine wpList_step (fun K hK => ?_)
              rw [if_pos (by rfl)]
              go_simp
              refine (HNA.out _ (HP.out _ HX1.out).2.2).mono ?_
              rintro e w2 ⟨rfl, hb⟩
              have HX2 := Lib.hid hb
              clear hb
              refine hK _ _ ?_
              clear hK K
              apply plT 0
              apply plT 0
              apply plT 0
              apply plL 0 (.agg M1)
              · exact exec_load rfl (load28 (HG.out _ HX2.out).2.2.1 HZ.out.2.2.1)
              apply plT 0
              apply plL 0 (.agg M2)
              · exact exec_load rfl (load28 (HG.out _ HX2.out).2.2.2.1 HZ.out.2.2.2.1)
              refine wpList_step (fun K hK => ?_)
              rw [if_pos (by rfl)]
              go_simp
              refine (HNB.out _ (HP.out _ HX2.out).2.2).mono ?_
              rintro e w3 ⟨rfl, hb⟩
              have HX3 := Lib.hid (HX2.out.trans (hb.mono HX2.out.size))
              clear hb
              refine hK _ _ ?_
              clear hK K
              have k1 : w3.cell? ⟨g2, 198, none⟩ = some (.int .i64 fm) := by rw [HI.out.1]; exact FB.c_fm (HP.out _ HX3.out).1
              have k2 : w3.cell? ⟨g3, 198, none⟩ = some (.int .i64 fm) := by rw [HI.out.2.1]; exact FB.c_fm (HP.out _ HX3.out).2.1
              have k3 : w3.cell? ⟨g2, 199, none⟩ = some (.int .i64 fn) := by rw [HI.out.2.2.1]; exact FB.c_nu (HP.out _ HX3.out).1
              have k4 : w3.cell? ⟨g3, 199, none⟩ = some (.int .i64 fn) := by rw [HI.out.2.2.2]; exact FB.c_nu (HP.out _ HX3.out).2.1
              apply plT 0
              apply plT 0
              apply plT 0
              apply plT 0
              apply plT 0
              apply plT 0
              apply plT 0
              apply plL 0 (.bool false)
              · exact (by go_simp; first | done | (simp only [bne_self_eq_false]; done) | (rw [bne_self_eq_false]))
              apply plT 0
              apply plT 0
              apply plT 0
              apply plT 0
              apply plT 0
              apply plT 0
              apply plL 0 (.bool false)
              · exact (by go_simp; first | done | (simp only [bne_self_eq_false]; done) | (rw [bne_self_eq_false]))
              apply plT 0
              apply plT 0
              apply plT 0
              apply plL 0 (.agg E1)
              · exact exec_load rfl (load23r (HG.out _ HX3.out).2.2.2.2.1 HZ.out.2.2.2.2.1)
              apply plT 0
              apply plL 0 (.agg E2)
              · exact exec_load rfl (load23r (HG.out _ HX3.out).2.2.2.2.2.1 HZ.out.2.2.2.2.2.1)
              apply plL 0 (.bool (!true))
              · exact exec_bin rfl (HEA.out _) (by kernel_rfl)
              apply plT 0
              apply plT 0
              apply plT 0
              apply plL 0 (.agg F1)
              · exact exec_load rfl (load23r (HG.out _ HX3.out).2.2.2.2.2.2.1 HZ.out.2.2.2.2.2.2.1)
              apply plT 0
              apply plL 0 (.agg F2)
              · exact exec_load rfl (load23r (HG.out _ HX3.out).2.2.2.2.2.2.2 HZ.out.2.2.2.2.2.2.2)
              apply plL 0 (.bool (!true))
              · exact exec_bin rfl (HEB.out _) (by kernel_rfl)
              have k5 : w3.cell? ⟨g2, 264, none⟩ = some (.slice aa na ca) := FB.c_wA (HP.out _ HX3.out).1
              have k6 : w3.cell? ⟨g3, 264, none⟩ = some (.slice xa ma da) := FB.c_wA (HP.out _ HX3.out).2.1
              cases e7 : decide (f.wayA = g.wayA) with
              | false =>
                have HV2 := Lib.hid (show decide (f = g) = false by rw [HV.out, e7]; rfl)
                rw [e7] at HWA
                clear e7
                go_wp2_with (go_at_call 70; (with_reducible refine (HWA.out _ (HP.out _ HX3.out).2.2).mono ?_); rintro e w4 ⟨rfl, hb⟩; have HX4 := Lib.hid (HX3.out.trans (hb.mono HX3.out.size)); clear hb)
                go_ret
                exact ⟨by (first | (rw [HV2.out]; done) | (rw [HV2.out]; rfl)), (HP.out _ HX4.out).2.2⟩
              | true =>
                have HV2 := Lib.hid (show decide (f = g) = decide (f.wayB = g.wayB) by rw [HV.out, e7]; rfl)
                rw [e7] at HWA
                clear e7
                have TOK := Lib.hid True.intro
                go_wp2_with (first
                  | (go_at_call 70; (with_reducible refine (HWA.out _ (HP.out _ HX3.out).2.2).mono ?_); rintro e w4 ⟨rfl, hb⟩; have HX4 := Lib.hid (HX3.out.trans (hb.mono HX3.out.size)); clear hb HWA; have k7 : w4.cell? ⟨g2, 265, none⟩ = some (.slice ab nb cb) := (FB.c_wB (HP.out _ HX4.out).1); have k8 : w4.cell? ⟨g3, 265, none⟩ = some (.slice xb mb db) := (FB.c_wB (HP.out _ HX4.out).2.1))
                  | (go_at_call 70; (with_reducible refine (HWB.out _ (HP.out _ HX4.out).2.2).mono ?_); rintro e w5 ⟨rfl, hb⟩; have HX5 := Lib.hid (HX4.out.trans (hb.mono HX4.out.size)); clear hb))
                go_ret
                exact ⟨by (first | (rw [HV2.out]; done) | (rw [HV2.out]; rfl)), (HP.out _ HX5.out).2.2⟩
        · have HV := Lib.hid (show decide (f = g) = false by rw [HNE.out, HE1.out, HE2.out, decide_eq_true e3, decide_eq_false e4]; rfl)
          have q1 : (fn == gn) = false := by rw [beq_eq_false_iff_ne]; exact e4
          have q2 : (fn != gn) = true := by rw [bne_iff_ne]; exact e4
          subst e3
          refine wp_region_lit ?_
          apply plT 0
          apply plL 0 (.agg N1)
          · exact exec_load rfl (load28 (HG.out _ HX1.out).1 HZ.out.1)
          apply plT 0
          apply plL 0 (.agg N2)
          · exact exec_load rfl (load28 (HG.out _ HX1.out).2.1 HZ.out.2.1)
          refine wpList_step (fun K hK => ?_)
          rw [if_pos (by rfl)]
          go_simp
          refine (HNA.out _ (HP.out _ HX1.out).2.2).mono ?_
          rintro e w2 ⟨rfl, hb⟩
          have HX2 := Lib.hid hb
          clear hb
          refine hK _ _ ?_
          clear hK K
          apply plT 0
          apply plT 0
          apply plT 0
          apply plL 0 (.agg M1)
          · exact exec_load rfl (load28 (HG.out _ HX2.out).2.2.1 HZ.out.2.2.1)
          apply plT 0
          apply plL 0 (.agg M2)
          · exact exec_load rfl (load28 (HG.out _ HX2.out).2.2.2.1 HZ.out.2.2.2.1)
          refine wpList_step (fun K hK => ?_)
          rw [if_pos (by rfl)]
          go_simp
          refine (HNB.out _ (HP.out _ HX2.out).2.2).mono ?_
          rintro e w3 ⟨rfl, hb⟩
          have HX3 := Lib.hid (HX2.out.trans (hb.mono HX2.out.size))
          clear hb
          refine hK _ _ ?_
          clear hK K
          have k1 : w3.cell? ⟨g2, 198, none⟩ = some (.int .i64 fm) := by rw [HI.out.1]; exact FB.c_fm (HP.out _ HX3.out).1
          have k2 : w3.cell? ⟨g3, 198, none⟩ = some (.int .i64 fm) := by rw [HI.out.2.1]; exact FB.c_fm (HP.out _ HX3.out).2.1
          have k3 : w3.cell? ⟨g2, 199, none⟩ = some (.int .i64 fn) := by rw [HI.out.2.2.1]; exact FB.c_nu (HP.out _ HX3.out).1
          have k4 : w3.cell? ⟨g3, 199, none⟩ = some (.int .i64 gn) := by rw [HI.out.2.2.2]; exact FB.c_nu (HP.out _ HX3.out).2.1
          go_wp2_with fail
          go_ret
          exact ⟨by (first | (rw [HV.out]; done) | (rw [HV.out]; rfl)), (HP.out _ HX3.out).2.2⟩
      · have HV := Lib.hid (show decide (f = g) = false by rw [HNE.out, HE1.out, HE2.out, decide_eq_false e3]; rfl)
        have q1 : (fm == gm) = false := by rw [beq_eq_false_iff_ne]; exact e3
        have q2 : (fm != gm) = true := by rw [bne_iff_ne]; exact e3
        refine wp_region_lit ?_
        apply plT 0
        apply plL 0 (.agg N1)
        · exact exec_load rfl (load28 (HG.out _ HX1.out).1 HZ.out.1)
        apply plT 0
        apply plL 0 (.agg N2)
        · exact exec_load rfl (load28 (HG.out _ HX1.out).2.1 HZ.out.2.1)
        refine wpList_step (fun K hK => ?_)
        rw [if_pos (by rfl)]
        go_simp
        refine (HNA.out _ (HP.out _ HX1.out).2.2).mono ?_
        rintro e w2 ⟨rfl, hb⟩
        have HX2 := Lib.hid hb
        clear hb
        refine hK _ _ ?_
        clear hK K
        apply plT 0
        apply plT 0
        apply plT 0
        apply plL 0 (.agg M1)
        · exact exec_load rfl (load28 (HG.out _ HX2.out).2.2.1 HZ.out.2.2.1)
        apply plT 0
        apply plL 0 (.agg M2)
        · exact exec_load rfl (load28 (HG.out _ HX2.out).2.2.2.1 HZ.out.2.2.2.1)
        refine wpList_step (fun K hK => ?_)
        rw [if_pos (by rfl)]
        go_simp
        refine (HNB.out _ (HP.out _ HX2.out).2.2).mono ?_
        rintro e w3 ⟨rfl, hb⟩
        have HX3 := Lib.hid (HX2.out.trans (hb.mono HX2.out.size))
        clear hb
        refine hK _ _ ?_
        clear hK K
        have k1 : w3.cell? ⟨g2, 198, none⟩ = some (.int .i64 fm) := by rw [HI.out.1]; exact FB.c_fm (HP.out _ HX3.out).1
        have k2 : w3.cell? ⟨g3, 198, none⟩ = some (.int .i64 gm) := by rw [HI.out.2.1]; exact FB.c_fm (HP.out _ HX3.out).2.1
        have k3 : w3.cell? ⟨g2, 199, none⟩ = some (.int .i64 fn) := by rw [HI.out.2.2.1]; exact FB.c_nu (HP.out _ HX3.out).1
        have k4 : w3.cell? ⟨g3, 199, none⟩ = some (.int .i64 gn) := by rw [HI.out.2.2.2]; exact FB.c_nu (HP.out _ HX3.out).2.1
        go_wp2_with fail
        go_ret
        exact ⟨by (first | (rw [HV.out]; done) | (rw [HV.out]; rfl)), (HP.out _ HX3.out).2.2⟩
end Go.Proofs.YtoboabkaojfbaaaGreatDoor
