import Derived.Test.YtoboabkaojfbaaaGreatDoorQ42
import Derived.Test.YtoboabkaojfbaaaGreatDoorQ38
import Derived.Test.YtoboabkaojfbaaaGreatDoorQ39
import Derived.Test.YtoboabkaojfbaaaGreatDoorQ47
namespace Go.Proofs.YtoboabkaojfbaaaGreatDoor
open Go Go.RowKit
set_option maxRecDepth 100000
set_option maxHeartbeats 8000000
set_option linter.unusedVariables false
set_option linter.unusedSimpArgs false
/-! cosign.Accuses -/

noncomputable def ac0 : Code := Tryz.f29.body.getD .skip
theorem accP_ok {wd : Int} {f : Fc} {k : List UInt8} {s t : Sg} (h : (formedP f && (decide (f.form ≠ 3) || leadsP wd f)) = true) (hs : f.a.signs = [s]) (ht : f.b.signs = [t]) : accP wd f k = if checkP f.a.head s k ≠ 0 then checkP f.a.head s k else checkP f.b.head t k := by
  unfold accP; rw [if_pos h, hs, ht]
theorem accP_no {wd : Int} {f : Fc} {k : List UInt8} (h : (formedP f && (decide (f.form ≠ 3) || leadsP wd f)) = false) : accP wd f k = 170 := by
  unfold accP; rw [if_neg (by rw [h]; decide)]
/-- The second sign's check. -/
theorem acc_end (w0 w : World) (hb : Below w0.heap.size w0 w) (wd : Int) (f : Fc) (sA wA wB : S3) (aa : Option Addr) (na ca : Nat) (hF : FcAt w f sA ⟨aa, na, ca⟩ wA wB) (a : Option Addr) (n c : Nat) (k : List UInt8) (hk : R8 w a n c k) (ht : Tabs w) (g4 : Nat) (hQ : w.heap[g4]? = some (.cells (fcA f sA ⟨aa, na, ca⟩ wA wB) 35 (0, 0))) (hokb : okN f.b = true) (hv : ∀ t, f.b.signs = [t] → accP wd f k = checkP f.b.head t k) (u1 u3 u5 u6 u7 u8 u9 u10 u11 u12 u13 u14 u15 u16 u17 u18 u19 u20 u21 u22 u23 u24 u25 u26 u27 u28 u29 u30 u31 u32 u33 u34 u35 u36 u37 u38 u39 u40 u41 u42 u43 u44 : Value) :
    Code.wp Tryz.prog (dropSeq 3 ac0) (bodyPost Tryz.prog Tryz.f29 (fun e w' => e = .returned (.int .i64 ((accP wd f k : Nat) : Int)) ∧ Below w0.heap.size w0 w')) ⟨#[.int .i64 wd, u1, .slice a n c, u3, .pointer (some ⟨g4, 0, none⟩), u5, u6, u7, u8, u9, u10, u11, u12, u13, u14, u15, u16, u17, u18, u19, u20, u21, u22, u23, u24, u25, u26, u27, u28, u29, u30, u31, u32, u33, u34, u35, u36, u37, u38, u39, u40, u41, u42, u43, u44], []⟩ w := by
  obtain ⟨s, hs⟩ := (okN_one hokb).2
  obtain ⟨b, o', e, hbl, hrg⟩ := sg_at hF.b (i := 0) (s := s) (by rw [hs]; rfl)
  rw [Nat.zero_mul, Nat.add_zero] at hrg
  have hn1 : na = 1 := by have := hF.b.1; rw [hs] at this; exact this.symm
  simp only at e
  subst e
  subst hn1
  obtain ⟨H, hH⟩ : ∃ H, H = hdA f.b.head := ⟨_, rfl⟩
  obtain ⟨G, hG⟩ : ∃ G, G = sgA s := ⟨_, rfl⟩
  have HH := Lib.hid (show H = hdA f.b.head ∧ H.size = 98 from ⟨hH, by rw [hH]; exact hdA_size _⟩)
  have HG := Lib.hid (show G = sgA s ∧ G.size = 64 from ⟨hG, by rw [hG]; exact sgA_size _⟩)
  obtain ⟨v, hvv⟩ : ∃ v : Int, v = ((checkP f.b.head s k : Nat) : Int) := ⟨_, rfl⟩
  have HCK := Lib.hid (fun (x : World) (hx : Below w.heap.size w x) => show Calls Tryz.prog 84 #[.agg H, .agg G, .slice a n c] x (fun e w' => e = .returned (.int .i64 v) ∧ Below x.heap.size x w') by
    have hT := ht.below hx
    rw [hH, hG, hvv]; exact check_any x f.b.head s a n c k (hk.below hx) hT.2.1 (by have := hT.1; omega))
  have HB := Lib.hid hb
  have HS := Lib.hid (show w.drew.rangeAt g4 99 H.toList ∧ w.drew.cell? ⟨g4, 197, none⟩ = some (.slice (some ⟨b, o', none⟩) 1 ca) ∧ w.drew.rangeAt b o' G.toList by
    have hd : Below w.heap.size w w.drew := (Below.refl _ _).drew
    refine ⟨range_below (by rw [hH]; have := FB.r_hb hQ; simpa [hdA] using this) hd, keepR hd (FB.c_vB hQ), range_below (by rw [hG]; exact hrg) hd⟩)
  have HV := Lib.hid (show ((accP wd f k : Nat) : Int) = v by rw [hv s hs, hvv])
  clear hs hrg hbl hF hH hG hvv hk ht hQ hokb hv hb
  conv => arg 2; whnf
  go_upto_region 6 with (fail)
  refine wp_region_held_drew (S := fun x : World => x.rangeAt g4 99 H.toList ∧ x.cell? ⟨g4, 197, none⟩ = some (.slice (some ⟨b, o', none⟩) 1 ca) ∧ x.rangeAt b o' G.toList) (by kernel_rfl) HS.out (fun hHeld => ?_)
  apply wpT 0
  apply wpT 1
  apply wpL 2 (.agg H)
  · exact fun w hSw => exec_load rfl (load25 hSw.1 HH.out.2)
  apply wpT 3
  apply wpT 4
  apply wpT 5
  apply wpT 6
  apply wpL 7 (.agg G)
  · exact fun w hSw => exec_load rfl (load_sg hSw.2.2 HG.out.2)
  apply wpT 8
  apply wpR 9
  intro K hK
  go_simp
  refine (HCK.out _ (Below.refl _ _).drew).mono ?_
  rintro e w1 ⟨rfl, hb⟩
  have HX := Lib.hid hb
  clear hb
  apply bk hK
  · exact ⟨range_below hHeld.1 HX.out, keepR HX.out hHeld.2.1, range_below hHeld.2.2 HX.out⟩
  intro hHeld
  clear hK K
  apply wpT 10
  refine wpAnyH_done (by kernel_rfl) ?_ _
  have HX1 := Lib.hid (show Below w.heap.size w w1 from (show Below w.heap.size w w.drew from (Below.refl _ _).drew).trans (HX.out.mono (Nat.le_refl _)))
  go_wp2_with fail
  go_ret
  exact ⟨by rw [HV.out]; rfl, HB.out.trans (HX1.out.mono HB.out.size)⟩
/-- Both. -/
theorem acc_mid (w0 w : World) (hb : Below w0.heap.size w0 w) (wd : Int) (f : Fc) (sB wA wB : S3) (aa : Option Addr) (na ca : Nat) (hF : FcAt w f ⟨aa, na, ca⟩ sB wA wB) (a : Option Addr) (n c : Nat) (k : List UInt8) (hk : R8 w a n c k) (ht : Tabs w) (g4 : Nat) (hQ : w.heap[g4]? = some (.cells (fcA f ⟨aa, na, ca⟩ sB wA wB) 35 (0, 0))) (hoka : okN f.a = true) (hokb : okN f.b = true) (hok : (formedP f && (decide (f.form ≠ 3) || leadsP wd f)) = true) (u1 u3 u5 u6 u7 u8 u9 u10 u11 u12 u13 u14 u15 u16 u17 u18 u19 u20 u21 u22 u23 u24 u25 u26 u27 u28 u29 u30 u31 u32 u33 u34 u35 u36 u37 u38 u39 u40 u41 u42 u43 u44 : Value) :
    Code.wp Tryz.prog (dropSeq 2 ac0) (bodyPost Tryz.prog Tryz.f29 (fun e w' => e = .returned (.int .i64 ((accP wd f k : Nat) : Int)) ∧ Below w0.heap.size w0 w')) ⟨#[.int .i64 wd, u1, .slice a n c, u3, .pointer (some ⟨g4, 0, none⟩), u5, u6, u7, u8, u9, u10, u11, u12, u13, u14, u15, u16, u17, u18, u19, u20, u21, u22, u23, u24, u25, u26, u27, u28, u29, u30, u31, u32, u33, u34, u35, u36, u37, u38, u39, u40, u41, u42, u43, u44], []⟩ w := by
  refine wp_two_k (c := dropSeq 2 ac0) ⟨_, _, rfl⟩ fun K3 hK3 => ?_
  have HK3 := Lib.hid (fun (a : Act) (x : World) (h : Code.wp Tryz.prog (dropSeq 3 ac0) (bodyPost Tryz.prog Tryz.f29 (fun e w' => e = .returned (.int .i64 ((accP wd f k : Nat) : Int)) ∧ Below w0.heap.size w0 w')) a x) => hK3 a x (by rw [dropSeq_succ]; exact h))
  clear hK3
  obtain ⟨s, hs⟩ := (okN_one hoka).2
  obtain ⟨b, o', e, hbl, hrg⟩ := sg_at hF.a (i := 0) (s := s) (by rw [hs]; rfl)
  rw [Nat.zero_mul, Nat.add_zero] at hrg
  have hn1 : na = 1 := by have := hF.a.1; rw [hs] at this; exact this.symm
  simp only at e
  subst e
  subst hn1
  obtain ⟨H, hH⟩ : ∃ H, H = hdA f.a.head := ⟨_, rfl⟩
  obtain ⟨G, hG⟩ : ∃ G, G = sgA s := ⟨_, rfl⟩
  have HH := Lib.hid (show H = hdA f.a.head ∧ H.size = 98 from ⟨hH, by rw [hH]; exact hdA_size _⟩)
  have HG := Lib.hid (show G = sgA s ∧ G.size = 64 from ⟨hG, by rw [hG]; exact sgA_size _⟩)
  obtain ⟨v, hvv⟩ : ∃ v : Int, v = ((checkP f.a.head s k : Nat) : Int) := ⟨_, rfl⟩
  have HCK := Lib.hid (fun (x : World) (hx : Below w.heap.size w x) => show Calls Tryz.prog 84 #[.agg H, .agg G, .slice a n c] x (fun e w' => e = .returned (.int .i64 v) ∧ Below x.heap.size x w') by
    have hT := ht.below hx
    rw [hH, hG, hvv]; exact check_any x f.a.head s a n c k (hk.below hx) hT.2.1 (by have := hT.1; omega))
  have HB := Lib.hid hb
  have HS := Lib.hid (show w.drew.rangeAt g4 0 H.toList ∧ w.drew.cell? ⟨g4, 98, none⟩ = some (.slice (some ⟨b, o', none⟩) 1 ca) ∧ w.drew.rangeAt b o' G.toList by
    have hd : Below w.heap.size w w.drew := (Below.refl _ _).drew
    refine ⟨range_below (by rw [hH]; have := FB.r_ha hQ; simpa [hdA] using this) hd, keepR hd (FB.c_vA hQ), range_below (by rw [hG]; exact hrg) hd⟩)
  have HV := Lib.hid (fun (t : Sg) (ht : f.b.signs = [t]) => show accP wd f k = if checkP f.a.head s k ≠ 0 then checkP f.a.head s k else checkP f.b.head t k from accP_ok hok hs ht)
  have HVV := Lib.hid hvv; have HOKB := Lib.hid hokb
  have HALL := Lib.hid (And.intro hF (And.intro hk (And.intro ht hQ)))
  clear hs hrg hbl hF hH hG hvv hk ht hQ hoka hokb hok hb
  conv => arg 2; whnf
  go_upto_region 3 with (fail)
  refine wp_region_held_drew (S := fun x : World => x.rangeAt g4 0 H.toList ∧ x.cell? ⟨g4, 98, none⟩ = some (.slice (some ⟨b, o', none⟩) 1 ca) ∧ x.rangeAt b o' G.toList) (by kernel_rfl) HS.out (fun hHeld => ?_)
  apply wpT 0
  apply wpT 1
  apply wpL 2 (.agg H)
  · exact fun w hSw => exec_load rfl (load25 hSw.1 HH.out.2)
  apply wpT 3
  apply wpT 4
  apply wpT 5
  apply wpT 6
  apply wpL 7 (.agg G)
  · exact fun w hSw => exec_load rfl (load_sg hSw.2.2 HG.out.2)
  apply wpT 8
  apply wpR 9
  intro K hK
  go_simp
  refine (HCK.out _ (Below.refl _ _).drew).mono ?_
  rintro e w1 ⟨rfl, hb⟩
  have HX := Lib.hid hb
  clear hb
  apply bk hK
  · exact ⟨range_below hHeld.1 HX.out, keepR HX.out hHeld.2.1, range_below hHeld.2.2 HX.out⟩
  intro hHeld
  clear hK K
  apply wpT 10
  refine wpAnyH_done (by kernel_rfl) ?_ _
  have HX1 := Lib.hid (show Below w.heap.size w w1 from (show Below w.heap.size w w.drew from (Below.refl _ _).drew).trans (HX.out.mono (Nat.le_refl _)))
  by_cases c0 : v = 0
  · have HC0 := Lib.hid (show checkP f.a.head s k = 0 by have := HVV.out; omega)
    subst c0
    go_wp2_with fail
    change K3 _ _
    refine HK3.out _ _ ?_
    obtain ⟨hF, hk, ht, hQ⟩ := HALL.out
    obtain ⟨bb, bn, bc⟩ := sB
    refine acc_end w0 w1 (HB.out.trans (HX1.out.mono HB.out.size)) wd f ⟨some ⟨b, o', none⟩, 1, ca⟩ wA wB bb bn bc (hF.below HX1.out) a n c k (hk.below HX1.out) (ht.below HX1.out) g4 (blk_up hQ HX1.out) HOKB.out (fun t htt => by rw [HV.out t htt, HC0.out]; rfl) _ _ _ _ _ _ _ _ _ _ _ _ _ _ _ _ _ _ _ _ _ _ _ _ _ _ _ _ _ _ _ _ _ _ _ _ _ _ _ _ _ _
  · have HC0 := Lib.hid (show ((accP wd f k : Nat) : Int) = v by
      obtain ⟨t, htt⟩ := (okN_one HOKB.out).2
      rw [HV.out t htt, if_pos (by have := HVV.out; omega)]; exact HVV.out.symm)
    have d1 : (v == 0) = false := by rw [beq_eq_false_iff_ne]; exact c0
    have d1n : (v != 0) = true := by rw [bne_iff_ne]; exact c0
    go_wp2_with fail
    go_ret
    exact ⟨by rw [HC0.out]; rfl, HB.out.trans (HX1.out.mono HB.out.size)⟩
theorem acc_any (w : World) (wd : Int) (h0 : -9223372036854775808 ≤ wd) (h1 : wd ≤ 9223372036854775807) (f : Fc) (sA sB wA wB : S3) (hF : FcAt w f sA sB wA wB) (a : Option Addr) (n c : Nat) (k : List UInt8) (hk : R8 w a n c k) (ht : Tabs w) :
    Calls Tryz.prog 29 #[.int .i64 wd, .agg (fcA f sA sB wA wB), .slice a n c] w fun e w' => e = .returned (.int .i64 ((accP wd f k : Nat) : Int)) ∧ Below w.heap.size w w' := by
  obtain ⟨A, hA⟩ : ∃ A, A = fcA f sA sB wA wB := ⟨_, rfl⟩
  have HA := Lib.hid (show A = fcA f sA sB wA wB ∧ A.size = 266 from ⟨hA, by rw [hA]; exact fcA_size _ _ _ _ _⟩)
  rw [← hA]
  have HF := Lib.hid hF; have HT := Lib.hid ht; have HK := Lib.hid hk
  have HC61 := Lib.hid (fun (x : World) (hx : Below w.heap.size w x) => show Calls Tryz.prog 61 #[.agg A] x (fun e w' => e = .returned (.bool (formedP f)) ∧ Below x.heap.size x w') by rw [hA]; exact formed_any x f sA sB wA wB (HF.out.below hx) (HT.out.below hx))
  have HC62 := Lib.hid (fun (x : World) (hx : Below w.heap.size w x) (hfm : formedP f = true) (h3 : f.form = 3) => show Calls Tryz.prog 62 #[.int .i64 wd, .agg A] x (fun e w' => e = .returned (.bool (leadsP wd f)) ∧ Below x.heap.size x w') by rw [hA]; exact leads_any x wd h0 h1 f sA sB wA wB (HF.out.below hx) hfm h3 (HT.out.below hx))
  clear hA hF ht hk h0 h1
  go_enter Tryz.func29, Tryz.ntmps29
  go_upto_region 1 with (fail)
  rename_i K2 hK2 Kc hKc
  have HK2 := Lib.hid (fun (a : Act) (x : World) (h : Code.wp Tryz.prog (dropSeq 2 ac0) (bodyPost Tryz.prog Tryz.f29 (fun e w' => e = .returned (.int .i64 ((accP wd f k : Nat) : Int)) ∧ Below w.heap.size w w')) a x) => hK2 a x h)
  clear hK2
  obtain ⟨g4, hg4⟩ : ∃ g, g = w.heap.size := ⟨_, rfl⟩
  rw [← hg4]
  have HQ1 := Lib.hid (show (w.alloc (.cells A 35)).heap[g4]? = some (.cells A 35 (0, 0)) by rw [hg4]; exact box_new w A 35)
  have HB1 := Lib.hid (below_new w A 35)
  clear hg4
  generalize w.alloc (.cells A 35) = w1 at *
  have HC := Lib.hid (HC61.out w1 HB1.out)
  have HCL := Lib.hid (fun (x : World) (hx : Below w1.heap.size w1 x) => HC62.out x (HB1.out.trans (hx.mono HB1.out.size)))
  clear HC61 HC62
  cases hfp : formedP f with
  | false =>
    have HV := Lib.hid (show accP wd f k = 170 from accP_no (by rw [hfp]; rfl))
    rw [hfp] at HC
    clear hfp
    go_wp2_with (first
    | (refine L_load_arr rfl 35 (.tmp 4) (by rfl) g4 0 (by rfl) A _ (row_range HQ1.out) Tryz.underlying35 rfl (by rw [HA.out.2]; exact info35) ?_)
    | (go_at_call 61; (with_reducible refine HC.out.mono ?_); rintro e w2 ⟨rfl, hb⟩; have HX2 := Lib.hid hb; clear hb))
    go_ret
    exact ⟨by rw [HV.out]; rfl, HB1.out.trans (HX2.out.mono HB1.out.size)⟩
  | true =>
    have HFF := Lib.hid (formed_facts hfp)
    have HFP := Lib.hid hfp
    rw [hfp] at HC
    clear hfp
    obtain ⟨fm, hfm⟩ : ∃ x, x = f.form := ⟨_, rfl⟩
    have HFM := Lib.hid hfm
    have HK198 := Lib.hid (fun (x : World) (hx : Below w1.heap.size w1 x) => show x.cell? ⟨g4, 198, none⟩ = some (.int .i64 fm) by
      rw [hfm]; have := blk_up HQ1.out hx; rw [HA.out.1] at this; exact FB.c_fm this)
    clear hfm
    by_cases c3 : fm = 3
    · subst c3
      cases hlv : leadsP wd f with
      | false =>
        have HV := Lib.hid (show accP wd f k = 170 from accP_no (by rw [HFP.out, hlv, ← HFM.out]; rfl))
        have HCM := Lib.hid (fun (x : World) (hx : Below w1.heap.size w1 x) => show Calls Tryz.prog 62 #[.int .i64 wd, .agg A] x (fun e w' => e = .returned (.bool false) ∧ Below x.heap.size x w') by have := HCL.out x hx HFP.out HFM.out.symm; rwa [hlv] at this)
        clear hlv
        go_wp2_with (first
    | (refine L_load_arr rfl 35 (.tmp 4) (by rfl) g4 0 (by rfl) A _ (row_range HQ1.out) Tryz.underlying35 rfl (by rw [HA.out.2]; exact info35) ?_)
    | (go_at_call 61; (with_reducible refine HC.out.mono ?_); rintro e w2 ⟨rfl, hb⟩; have HX2 := Lib.hid hb; have k198 := HK198.out w2 hb; have HRW := Lib.hid (row_range (blk_up HQ1.out hb)); clear hb)
    | (refine L_load_arrW 35 (.tmp 4) (by rfl) g4 0 (by rfl) A _ HRW.out Tryz.underlying35 rfl (by rw [HA.out.2]; exact info35) (by rfl) ?_)
    | (go_at_call 62; (with_reducible refine (HCM.out _ HX2.out).mono ?_); rintro e w3 ⟨rfl, hb⟩; have HX3 := Lib.hid hb; clear hb))
        go_ret
        exact ⟨by rw [HV.out]; rfl, HB1.out.trans ((HX2.out.trans (HX3.out.mono HX2.out.size)).mono HB1.out.size)⟩
      | true =>
        have HOK := Lib.hid (show (formedP f && (decide (f.form ≠ 3) || leadsP wd f)) = true by rw [HFP.out, hlv]; simp)
        have HCM := Lib.hid (fun (x : World) (hx : Below w1.heap.size w1 x) => show Calls Tryz.prog 62 #[.int .i64 wd, .agg A] x (fun e w' => e = .returned (.bool true) ∧ Below x.heap.size x w') by have := HCL.out x hx HFP.out HFM.out.symm; rwa [hlv] at this)
        clear hlv
        go_wp2_with (first
    | (refine L_load_arr rfl 35 (.tmp 4) (by rfl) g4 0 (by rfl) A _ (row_range HQ1.out) Tryz.underlying35 rfl (by rw [HA.out.2]; exact info35) ?_)
    | (go_at_call 61; (with_reducible refine HC.out.mono ?_); rintro e w2 ⟨rfl, hb⟩; have HX2 := Lib.hid hb; have k198 := HK198.out w2 hb; have HRW := Lib.hid (row_range (blk_up HQ1.out hb)); clear hb)
    | (refine L_load_arrW 35 (.tmp 4) (by rfl) g4 0 (by rfl) A _ HRW.out Tryz.underlying35 rfl (by rw [HA.out.2]; exact info35) (by rfl) ?_)
    | (go_at_call 62; (with_reducible refine (HCM.out _ HX2.out).mono ?_); rintro e w3 ⟨rfl, hb⟩; have HX3 := Lib.hid hb; clear hb))
        change K2 _ _
        refine HK2.out _ _ ?_
        have hbw := HB1.out.trans ((HX2.out.trans (HX3.out.mono HX2.out.size)).mono HB1.out.size)
        obtain ⟨qa, qn, qc⟩ := sA
        refine acc_mid w w3 hbw wd f sB wA wB qa qn qc (HF.out.below hbw) a n c k (HK.out.below hbw) (HT.out.below hbw) g4 ?_ HFF.out.1 HFF.out.2.1 HOK.out _ _ _ _ _ _ _ _ _ _ _ _ _ _ _ _ _ _ _ _ _ _ _ _ _ _ _ _ _ _ _ _ _ _ _ _ _ _ _ _ _ _
        have := blk_up HQ1.out (HX2.out.trans (HX3.out.mono HX2.out.size)); rwa [HA.out.1] at this
    · have HOK := Lib.hid (show (formedP f && (decide (f.form ≠ 3) || leadsP wd f)) = true by rw [HFP.out, ← HFM.out, decide_eq_true (show fm ≠ 3 from c3)]; rfl)
      have d3 : (fm == 3) = false := by rw [beq_eq_false_iff_ne]; exact c3
      have d3n : (fm != 3) = true := by rw [bne_iff_ne]; exact c3
      go_wp2_with (first
    | (refine L_load_arr rfl 35 (.tmp 4) (by rfl) g4 0 (by rfl) A _ (row_range HQ1.out) Tryz.underlying35 rfl (by rw [HA.out.2]; exact info35) ?_)
    | (go_at_call 61; (with_reducible refine HC.out.mono ?_); rintro e w2 ⟨rfl, hb⟩; have HX2 := Lib.hid hb; have k198 := HK198.out w2 hb; have HRW := Lib.hid (row_range (blk_up HQ1.out hb)); clear hb))
      change K2 _ _
      refine HK2.out _ _ ?_
      have hbw := HB1.out.trans (HX2.out.mono HB1.out.size)
      obtain ⟨qa, qn, qc⟩ := sA
      refine acc_mid w w2 hbw wd f sB wA wB qa qn qc (HF.out.below hbw) a n c k (HK.out.below hbw) (HT.out.below hbw) g4 ?_ HFF.out.1 HFF.out.2.1 HOK.out _ _ _ _ _ _ _ _ _ _ _ _ _ _ _ _ _ _ _ _ _ _ _ _ _ _ _ _ _ _ _ _ _ _ _ _ _ _ _ _ _ _
      have := blk_up HQ1.out HX2.out; rwa [HA.out.1] at this
end Go.Proofs.YtoboabkaojfbaaaGreatDoor
namespace Go.Proofs.YtoboabkaojfbaaaGreatDoor
open Go Go.RowKit
set_option maxRecDepth 100000
set_option maxHeartbeats 8000000
set_option linter.unusedVariables false
set_option linter.unusedSimpArgs false
/-! The law's known: Faces of one note twice -/

theorem built31q (n : Int) : Tryz.prog.built 31 [(0, .int .i64 n)] = some (LB n zDg zDg nilS nilS).toArray := by
  rw [built_fill (z := .agg (LB 0 zDg zDg nilS nilS).toArray) (sz := 67) (by' := 120) (places := [(0, 1), (1, 32), (33, 32), (65, 1), (66, 1)]) (by kernel_rfl) (by kernel_rfl) (by kernel_rfl)]
  exact fill_part (([(0, 1), (1, 32), (33, 32), (65, 1), (66, 1)] : List (Nat × Nat)).toArray[·]?) 0 0 (.int .i64 n) [] [] [.int .i64 0] (dgE zDg ++ (dgE zDg ++ [nilS, nilS])) [.int .i64 n] rfl rfl rfl rfl
theorem exec_build31q {ρ : Operand → Value} {o : Oper} {n : Int} (ho : o.op = .build 31 #[(0, .const (.int .i64 n))]) (hc : ρ (.const (.int .i64 n)) = .int .i64 n) (w : World) : (execOp ρ o).run Tryz.prog w = .ok (.value (.agg (LB n zDg zDg nilS nilS).toArray)) w := by
  have hb : (Instr.build 31 #[(0, .int .i64 n)]).run Tryz.prog w = .ok (.agg (LB n zDg zDg nilS nilS).toArray) w := run_build w 31 #[(0, .int .i64 n)] _ (built31q n)
  unfold execOp
  simp only [ho, List.map_toArray, List.map_cons, List.map_nil, hc, Sem.run_bind, hb, Result.andThen_ok, Sem.run_pure]
theorem lv_nil (w : World) (n : Int) : LvAt w ⟨n, zD, zD, [], []⟩ ⟨none, 0, 0⟩ ⟨none, 0, 0⟩ := ⟨⟨rfl, Nat.le_refl _, by decide, fun i x h => by simp at h⟩, ⟨rfl, Nat.le_refl _, by decide, fun i x h => by simp at h⟩⟩
/-- Faces, with the cells of what it answers named. -/
theorem faces_n (w : World) (x y : Nt) (aX aY : Option Addr) (nX cX nY cY : Nat) (hx : RS 64 sgE w aX nX cX x.signs) (hy : RS 64 sgE w aY nY cY y.signs) (key : Dg) (n : Int) (ht : Tabs w) (F : Fc) (e : Nat) (hr : facesP 32 x y key ⟨n, zD, zD, [], []⟩ = (F, e)) (X Y K L : Array Value) (hX : X = ntA x.head (.slice aX nX cX)) (hY : Y = ntA y.head (.slice aY nY cY)) (hK : K = dgA key.1) (hL : L = lvA ⟨n, zD, zD, [], []⟩ ⟨none, 0, 0⟩ ⟨none, 0, 0⟩) :
    Calls Tryz.prog 14 #[.int .i64 32, .agg X, .agg Y, .agg K, .agg L] w fun en w' => ∃ (sA sB wA wB : S3) (A : Array Value), en = .returned (.tuple #[.agg A, .int .i64 ((e : Nat) : Int)]) ∧ (A = fcA F sA sB wA wB ∧ A.size = 266 ∧ A.all (·.oneCell') = true) ∧ FcOwn w' w.heap.size F sA sB wA wB ∧ Below w.heap.size w w' := by
  subst hX; subst hY; subst hK; subst hL
  refine (faces_any w 32 (by decide) (by decide) x y aX aY nX cX nY cY hx hy key ⟨n, zD, zD, [], []⟩ none none 0 0 0 0 (lv_nil w n) (by decide) ht).mono ?_
  rintro en w' ⟨sA, sB, wA, wB, h1, h2, h3⟩
  rw [hr] at h1 h2
  exact ⟨sA, sB, wA, wB, _, h1, ⟨rfl, fcA_size _ _ _ _ _, fcA_one _ _ _ _ _⟩, h2, h3⟩
theorem kn_e (w0 w : World) (ht : Tabs w0) (ga g2 g3 g4 p q : Nat) (hI : KnB w0 w ga g2 g3 g4 p q) (g5 g9 : Nat) (C5 : Array Value) (h5 : w.heap[g5]? = some (.cells C5 35 (0, 0))) (hs5 : C5.size = 266) (hl5 : w0.heap.size ≤ g5) (h59 : g9 ≠ g5) (Bx : Nat) (tA tB vA vB : S3) (h9 : w.heap[g9]? = some (.cells (fcA kF tA tB vA vB) 35 (0, 0))) (hO : FcOwn w Bx kF tA tB vA vB) (u0 u6 u7 u8 u10 u11 u12 u13 u14 u15 u16 u17 u18 u19 u20 u21 u22 u23 u24 u25 u26 u27 u28 u29 u30 u31 u32 u33 u34 u35 u36 u37 u38 u39 u40 u41 u42 u43 u44 u45 u46 u47 u48 u49 u50 u51 u52 u53 u54 u55 u56 u57 u58 u59 u60 u61 u62 u63 u64 u65 u66 u67 u68 u69 u70 u71 u72 u73 u74 u75 u76 u77 u78 u79 u80 u81 u82 u83 u84 u85 u86 u87 u88 u89 u90 u91 u92 u93 u94 u95 u96 u97 u98 u99 u100 u101 u102 u103 u104 u105 u106 u107 u108 u109 u110 u111 u112 u113 u114 u115 u116 u117 u118 u119 u120 u121 u122 u123 u124 u125 u126 u127 u128 u129 u130 u131 u132 u133 u134 u135 u136 u137 u138 u139 u140 u141 u142 u143 u144 u145 u146 u147 u148 u149 u150 u151 u152 u153 u154 u155 u156 u157 u158 u159 u160 u161 u162 u163 u164 u165 u166 u167 u168 u169 u170 u171 u172 u173 u174 u175 u176 u177 u178 u179 u180 u181 u182 u183 u184 u185 u186 u187 u188 u189 u190 u191 u192 u193 u194 u195 u196 u197 u198 u199 u200 u201 u202 u203 u204 u205 u206 : Value) :
    Code.wp Tryz.prog (dropSeq 12 kn0) (bodyPost Tryz.prog Tryz.f20 (KnRet w0)) ⟨#[u0, .slice (some ⟨ga, 0, none⟩) 1 1, .pointer (some ⟨g2, 0, none⟩), .pointer (some ⟨g3, 0, none⟩), .pointer (some ⟨g4, 0, none⟩), .pointer (some ⟨g5, 0, none⟩), u6, u7, u8, .pointer (some ⟨g9, 0, none⟩), u10, u11, u12, u13, u14, u15, u16, u17, u18, u19, u20, u21, u22, u23, u24, u25, u26, u27, u28, u29, u30, u31, u32, u33, u34, u35, u36, u37, u38, u39, u40, u41, u42, u43, u44, u45, u46, u47, u48, u49, u50, u51, u52, u53, u54, u55, u56, u57, u58, u59, u60, u61, u62, u63, u64, u65, u66, u67, u68, u69, u70, u71, u72, u73, u74, u75, u76, u77, u78, u79, u80, u81, u82, u83, u84, u85, u86, u87, u88, u89, u90, u91, u92, u93, u94, u95, u96, u97, u98, u99, u100, u101, u102, u103, u104, u105, u106, u107, u108, u109, u110, u111, u112, u113, u114, u115, u116, u117, u118, u119, u120, u121, u122, u123, u124, u125, u126, u127, u128, u129, u130, u131, u132, u133, u134, u135, u136, u137, u138, u139, u140, u141, u142, u143, u144, u145, u146, u147, u148, u149, u150, u151, u152, u153, u154, u155, u156, u157, u158, u159, u160, u161, u162, u163, u164, u165, u166, u167, u168, u169, u170, u171, u172, u173, u174, u175, u176, u177, u178, u179, u180, u181, u182, u183, u184, u185, u186, u187, u188, u189, u190, u191, u192, u193, u194, u195, u196, u197, u198, u199, u200, u201, u202, u203, u204, u205, u206], []⟩ w := by
  obtain ⟨NA, hNA⟩ : ∃ A, A = ntA kA (.slice (some ⟨p, 0, none⟩) 1 1) := ⟨_, rfl⟩
  obtain ⟨NZ, hNZ⟩ : ∃ A, A = ntA zHd (.slice none 0 0) := ⟨_, rfl⟩
  obtain ⟨KK, hKK⟩ : ∃ A, A = dgA (idP [7]).1 := ⟨_, rfl⟩
  obtain ⟨Z, hZ⟩ : ∃ A, A = dgA zD.1 := ⟨_, rfl⟩
  obtain ⟨L0, hL0⟩ : ∃ A, A = lvA ⟨0, zD, zD, [], []⟩ ⟨none, 0, 0⟩ ⟨none, 0, 0⟩ := ⟨_, rfl⟩
  have HS := Lib.hid (show NA.size = 99 ∧ KK.size = 32 by rw [hNA, hKK]; exact ⟨ntA_size _ _, by rw [dgA_size, (idP [7]).2]⟩)
  have HF1 := Lib.hid (fun (x : World) (hx : KnB w0 x ga g2 g3 g4 p q) => show Calls Tryz.prog 14 #[.int .i64 32, .agg NA, .agg NA, .agg KK, .agg L0] x (fun en w' => ∃ (sA sB wA wB : S3) (A : Array Value), en = .returned (.tuple #[.agg A, .int .i64 170]) ∧ (A = fcA zFc sA sB wA wB ∧ A.size = 266 ∧ A.all (·.oneCell') = true) ∧ FcOwn w' x.heap.size zFc sA sB wA wB ∧ Below x.heap.size x w') from
    faces_n x kNa kNa _ _ _ _ _ _ (rs_one hx.sa) (rs_one hx.sa) (idP [7]) 0 (ht.below hx.hb) zFc 170 k_same NA NA KK L0 hNA hNA hKK hL0)
  have HF2 := Lib.hid (fun (x : World) (hx : KnB w0 x ga g2 g3 g4 p q) => show Calls Tryz.prog 14 #[.int .i64 32, .agg NZ, .agg NA, .agg Z, .agg L0] x (fun en w' => ∃ (sA sB wA wB : S3) (A : Array Value), en = .returned (.tuple #[.agg A, .int .i64 8]) ∧ (A = fcA zFc sA sB wA wB ∧ A.size = 266 ∧ A.all (·.oneCell') = true) ∧ FcOwn w' x.heap.size zFc sA sB wA wB ∧ Below x.heap.size x w') from
    faces_n x ⟨zHd, []⟩ kNa none _ 0 0 _ _ ⟨rfl, Nat.le_refl _, by decide, fun i x h => by simp at h⟩ (rs_one hx.sa) zD 0 (ht.below hx.hb) zFc 8 k_void NZ NA Z L0 hNZ hNA hZ hL0)
  have HZ := Lib.hid (fun (ρ : Operand → Value) (o : Oper) (ho : o.op = .build 23 #[]) (w : World) => show (execOp ρ o).run Tryz.prog w = .ok (.value (.agg Z)) w by rw [hZ]; exact exec_build23z ho w)
  have HN := Lib.hid (fun (ρ : Operand → Value) (o : Oper) (ho : o.op = .build 28 #[]) (w : World) => show (execOp ρ o).run Tryz.prog w = .ok (.value (.agg NZ)) w by rw [hNZ]; exact exec_build28 ho w)
  have HLZ := Lib.hid (fun (ρ : Operand → Value) (o : Oper) (ho : o.op = .build 31 #[]) (w : World) => show (execOp ρ o).run Tryz.prog w = .ok (.value (.agg L0)) w by rw [hL0]; exact exec_build31 ho w)
  have HI := Lib.hid hI
  have HL2 := Lib.hid (fun (x : World) (hx : KnB w0 x ga g2 g3 g4 p q) => show x.rangeAt g2 0 NA.toList ∧ x.rangeAt g4 0 KK.toList by rw [hNA, hKK]; exact ⟨row_range hx.b2, row_range hx.b4⟩)
  have H5 := Lib.hid (And.intro h5 (And.intro hs5 hl5)); have H9 := Lib.hid h9; have HO := Lib.hid hO; have HT := Lib.hid ht; have H59 := Lib.hid h59
  clear hNA hNZ hKK hZ hL0 hI h5 hs5 hl5 h9 hO ht h59
  conv => arg 2; whnf
  go_upto_region 16 with (first
    | (refine L_load_arr rfl 28 (.tmp 2) (by rfl) g2 0 (by rfl) NA _ (HL2.out _ HI.out).1 Tryz.underlying28 rfl (by rw [HS.out.1]; exact info28) ?_)
    | (refine L_load_arr rfl 23 (.tmp 4) (by rfl) g4 0 (by rfl) KK _ (HL2.out _ HI.out).2 Tryz.underlying23 rfl (by rw [HS.out.2]; exact info38) ?_)
    | (refine L_value rfl (HLZ.out _ _ (by rfl) _) ?_)
    | (go_at_call 14; (with_reducible refine (HF1.out _ HI.out).mono ?_); rintro en w1 ⟨sA, sB, wA, wB, A, rfl, hA, ho, hb⟩; have HX1 := Lib.hid hb; have HA := Lib.hid hA; have HO1 := Lib.hid ho; clear hb hA ho)
    | (refine wpList_store_mid rfl 35 (.tmp 5) (.tmp 140) (by rfl) g5 0 A (by rfl) (by rfl) (by rw [HA.out.2.1]; exact (by have := there_block (blk_up H5.out.1 HX1.out); rwa [H5.out.2.1] at this)) (by rw [HA.out.2.1]; exact info35) HA.out.2.2 ?_))
  have HI2 := Lib.hid ((HI.out.below HX1.out).set35 (x' := w1.setCells g5 0 A.toList) (blk_up H5.out.1 HX1.out) H5.out.2.2 (setCells_grown _ _ _ _))
  have HQ5 := Lib.hid (show (w1.setCells g5 0 A.toList).heap[g5]? = some (.cells A 35 (0, 0)) by have := setCells_all (blk_up H5.out.1 HX1.out) A.toList (by rw [Array.length_toList, HA.out.2.1, H5.out.2.1]); simpa using this)
  have HQ9 := Lib.hid (blk_keep (setCells_grown g5 A.toList 0 w1) (blk_up H9.out HX1.out) H59.out)
  have HO2 := Lib.hid ((HO.out.below HX1.out).kept (blk_up H5.out.1 HX1.out) (by decide) (by decide) (setCells_grown g5 A.toList 0 w1))
  have HOF := Lib.hid (HO1.out.kept (blk_up H5.out.1 HX1.out) (by decide) (by decide) (setCells_grown g5 A.toList 0 w1))
  generalize w1.setCells g5 0 A.toList = w2 at *
  clear HX1 HO1 HI H5 H9 HO
  go_upto_region 17 with (first
    | (refine L_value rfl (HN.out _ _ (by rfl) _) ?_)
    | (refine L_load_arr rfl 28 (.tmp 2) (by rfl) g2 0 (by rfl) NA _ (HL2.out _ HI2.out).1 Tryz.underlying28 rfl (by rw [HS.out.1]; exact info28) ?_)
    | (refine L_value rfl (HZ.out _ _ (by rfl) _) ?_)
    | (refine L_value rfl (HLZ.out _ _ (by rfl) _) ?_)
    | (go_at_call 14; (with_reducible refine (HF2.out _ HI2.out).mono ?_); rintro en w3 ⟨sA', sB', wA', wB', A', rfl, -, -, hb⟩; have HX3 := Lib.hid hb; clear hb))
  have HI3 := Lib.hid (HI2.out.below HX3.out)
  have HQ53 := Lib.hid (blk_up HQ5.out HX3.out)
  have HAT := Lib.hid (show FcAt w3 zFc sA sB wA wB from (HOF.out.below HX3.out).at ⟨by decide, by decide, by decide, by decide⟩)
  have HEF := Lib.hid (show Calls Tryz.prog 22 #[.agg A] w3 (fun en w' => ∃ a c, en = .returned (.tuple #[.slice a 0 c, .int .i64 170]) ∧ Below w3.heap.size w3 w') by
    rw [HA.out.1]
    refine (encF_any w3 zFc sA sB wA wB HAT.out (HT.out.below HI3.out.hb)).mono ?_
    rintro en w' ⟨a, n, c, h1, h2, h3⟩
    rw [k_zero] at h1 h2
    have hn : n = 0 := by have := h2.1; simpa using this.symm
    subst hn
    exact ⟨a, c, h1, h3⟩)
  go_upto_region 18 with (first
    | (refine L_load_arr rfl 35 (.tmp 5) (by rfl) g5 0 (by rfl) A _ (row_range HQ53.out) Tryz.underlying35 rfl (by rw [HA.out.2.1]; exact info35) ?_)
    | (go_at_call 22; (with_reducible refine HEF.out.mono ?_); rintro en w4 ⟨ea, ec, rfl, hb⟩; have HX4 := Lib.hid hb; clear hb))
  rename_i K16 hK16 Kc hKc
  have HK16 := Lib.hid (fun (a : Act) (x : World) (h : Code.wp Tryz.prog (dropSeq 16 kn0) (bodyPost Tryz.prog Tryz.f20 (KnRet w0)) a x) => hK16 a x h)
  clear hK16
  have HQ54 := Lib.hid (blk_up HQ53.out HX4.out)
  have k198 : w4.cell? ⟨g5, 198, none⟩ = some (.int .i64 0) := by have := HQ54.out; rw [HA.out.1] at this; exact FB.c_fm this
  go_wp2_with fail
  change K16 _ _
  refine HK16.out _ _ ?_
  have hb2 : Below w2.heap.size w2 w4 := HX3.out.trans (HX4.out.mono HX3.out.size)
  have hbw := HI2.out.hb.trans (hb2.mono HI2.out.hb.size)
  exact kn_f w0 w4 hbw (HT.out.below hbw) g9 tA tB vA vB (blk_up HQ9.out hb2) (at_small (HO2.out.below hb2) k_formed) _ _ _ _ _ _ _ _ _ _ _ _ _ _ _ _ _ _ _ _ _ _ _ _ _ _ _ _ _ _ _ _ _ _ _ _ _ _ _ _ _ _ _ _ _ _ _ _ _ _ _ _ _ _ _ _ _ _ _ _ _ _ _ _ _ _ _ _ _ _ _ _ _ _ _ _ _ _ _ _ _ _ _ _ _ _ _ _ _ _ _ _ _ _ _ _ _ _ _ _ _ _ _ _ _ _ _ _ _ _ _ _ _ _ _ _ _ _ _ _ _ _ _ _ _ _ _ _ _ _ _ _ _ _ _ _ _ _ _ _ _ _ _ _ _ _ _ _ _ _ _ _ _ _ _ _ _ _ _ _ _ _ _ _ _ _ _ _ _ _ _ _ _ _ _ _ _ _ _ _ _ _ _ _ _ _ _ _ _ _ _ _ _ _ _ _ _ _ _ _ _ _ _ _ _ _
end Go.Proofs.YtoboabkaojfbaaaGreatDoor
