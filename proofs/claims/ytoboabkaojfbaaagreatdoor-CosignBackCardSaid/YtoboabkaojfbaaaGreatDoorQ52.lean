import Derived.Test.YtoboabkaojfbaaaGreatDoorQ51
import Derived.ProofKit
import Derived.OpenShut
import Derived.Deep.Slices
import Derived.Test.YtoboabkaojfbaaaGreatDoorQ39
namespace Go.Proofs.YtoboabkaojfbaaaGreatDoor
open Go Go.RowKit
set_option maxRecDepth 100000
set_option maxHeartbeats 8000000
set_option linter.unusedVariables false
set_option linter.unusedSimpArgs false
/-! CosignBack's walk -/

noncomputable def bk0 : Code := Tryz.f9.body.getD .skip
theorem back_tail (w0 w : World) (hb : Below w0.heap.size w0 w) (ht : Tabs w0) (a : Option Addr) (n c : Nat) (raw : List UInt8) (hr : R8 w a n c raw) (u0 u2 u3 u4 u5 u6 u7 u8 u9 u10 u11 u12 u13 u14 u15 u16 u17 u18 u19 u20 u21 u22 u23 u24 u25 u26 u27 u28 u29 u30 u31 u32 u33 u34 u35 u36 u37 u38 u39 u40 u41 u42 u43 u44 u45 u46 u47 u48 u49 u50 u51 u52 u53 u54 u55 u56 u57 u58 u59 u60 u61 u62 u63 u64 u65 u66 u67 u68 u69 u70 u71 u72 u73 : Value) :
    Code.wp Tryz.prog (dropSeq 3 bk0) (bodyPost Tryz.prog Tryz.f9 (fun e w' => e = .returned (.bool true) ∧ Below w0.heap.size w0 w')) ⟨#[u0, .slice a n c, u2, u3, u4, u5, u6, u7, u8, u9, u10, u11, u12, u13, u14, u15, u16, u17, u18, u19, u20, u21, u22, u23, u24, u25, u26, u27, u28, u29, u30, u31, u32, u33, u34, u35, u36, u37, u38, u39, u40, u41, u42, u43, u44, u45, u46, u47, u48, u49, u50, u51, u52, u53, u54, u55, u56, u57, u58, u59, u60, u61, u62, u63, u64, u65, u66, u67, u68, u69, u70, u71, u72, u73], []⟩ w := by
  obtain ⟨Z, hZ⟩ : ∃ Z, Z = (FB zHd nilS zHd nilS 0 0 zDg zDg nilS nilS).toArray := ⟨_, rfl⟩
  have HZ := Lib.hid hZ
  have HBZ := Lib.hid (fun (ρ : Operand → Value) (o : Oper) (ho : o.op = .build 35 #[]) (w : World) => show (execOp ρ o).run Tryz.prog w = .ok (.value (.agg Z)) w by rw [hZ]; exact exec_build35 ho w)
  have HKN := Lib.hid (fun (x : World) (hx : Below w0.heap.size w0 x) => show Calls Tryz.prog 20 #[] x (fun e w' => e = .returned (.bool true) ∧ Below x.heap.size x w') from known_any x (ht.below hx))
  have HB := Lib.hid hb; have HT := Lib.hid ht; have HR := Lib.hid hr
  have HNL := Lib.hid (show raw.length = n from hr.1)
  clear hZ hb ht hr
  cases hd : decF raw with
  | none =>
    by_cases hlen : 9000 < n
    · have HDF := Lib.hid (decF_n w a n c raw HR.out (HT.out.below HB.out) none hd 170 (by rw [if_pos (by rw [HNL.out]; exact hlen)]))
      have d1 : decide ((9000 : Int) < (n : Int)) = true := by rw [decide_eq_true_eq]; omega
      have d1' : (9000 : Int) < (n : Int) := by omega
      clear hd hlen
      conv => arg 2; whnf
      go_upto_region 7 with (first
    | (go_at_call 39; (with_reducible refine HDF.out.mono ?_); rintro en w1 ⟨tA, tB, vA, vB, D, rfl, hD, ho, hb⟩; have HX1 := Lib.hid hb; have HD := Lib.hid hD; have HO1 := Lib.hid ho; clear hb hD ho)
    | (refine L_valueU rfl (exec_al35 (by rfl) _) ?_)
    | (refine L_storeF rfl 35 (.tmp 9) (.tmp 36) (by rfl) _ zc35 D (by rfl) (by rfl) (by rw [HD.out.2.1]; rfl) (by rw [HD.out.2.1]; exact info35) HD.out.2.2 ?_))
      obtain ⟨g9, hg9⟩ : ∃ g, g = w1.heap.size := ⟨_, rfl⟩
      have HX2 := Lib.hid (HX1.out.trans ((below_new w1 D 35).mono HX1.out.size))
      have HQ9 := Lib.hid (show (w1.alloc (.cells D 35)).heap[g9]? = some (.cells D 35 (0, 0)) by rw [hg9]; exact box_new w1 _ _)
      have HO2 := Lib.hid (HO1.out.below (below_new w1 D 35))
      rw [← hg9]
      clear hg9
      generalize w1.alloc (.cells D 35) = w2 at *
      have HB2 := Lib.hid (HB.out.trans (HX2.out.mono HB.out.size))
      have HS16 := Lib.hid (show Calls Tryz.prog 16 #[.agg D, .agg Z] w2 (fun e w' => e = .returned (.bool true) ∧ Below w2.heap.size w2 w') by
        rw [HD.out.1, HZ.out]
        have := sameFc_any w2 zFc zFc tA tB vA vB ⟨none, 0, 0⟩ ⟨none, 0, 0⟩ ⟨none, 0, 0⟩ ⟨none, 0, 0⟩ (HO2.out.at ⟨by decide, by decide, by decide, by decide⟩) ((zFc_own w2 0).at ⟨by decide, by decide, by decide, by decide⟩)
        rw [decide_eq_true rfl] at this
        exact this)
      go_wp2_with (first
    | (refine L_load_arrW 35 (.tmp 9) (by rfl) g9 0 (by rfl) D _ (row_range HQ9.out) Tryz.underlying35 rfl (by rw [HD.out.2.1]; exact info35) (by rfl) ?_)
    | (refine L_valueW (HBZ.out _ _ (by rfl) _) (by rfl) ?_)
    | (go_at_call 16; (with_reducible refine HS16.out.mono ?_); rintro e w3 ⟨rfl, hb⟩; have HX3 := Lib.hid hb; clear hb)
    | (go_at_call 20; (with_reducible refine (HKN.out _ (HB2.out.trans (HX3.out.mono HB2.out.size))).mono ?_); rintro e w4 ⟨rfl, hb⟩; have HX4 := Lib.hid hb; clear hb))
      go_ret
      exact ⟨rfl, HB2.out.trans ((HX3.out.trans (HX4.out.mono HX3.out.size)).mono HB2.out.size)⟩
    · have HDF := Lib.hid (decF_n w a n c raw HR.out (HT.out.below HB.out) none hd 8 (by rw [if_neg (by rw [HNL.out]; exact hlen)]; rfl))
      clear hd hlen
      conv => arg 2; whnf
      go_upto_region 7 with (first
    | (go_at_call 39; (with_reducible refine HDF.out.mono ?_); rintro en w1 ⟨tA, tB, vA, vB, D, rfl, hD, ho, hb⟩; have HX1 := Lib.hid hb; have HD := Lib.hid hD; have HO1 := Lib.hid ho; clear hb hD ho)
    | (refine L_valueU rfl (exec_al35 (by rfl) _) ?_)
    | (refine L_storeF rfl 35 (.tmp 9) (.tmp 36) (by rfl) _ zc35 D (by rfl) (by rfl) (by rw [HD.out.2.1]; rfl) (by rw [HD.out.2.1]; exact info35) HD.out.2.2 ?_))
      obtain ⟨g9, hg9⟩ : ∃ g, g = w1.heap.size := ⟨_, rfl⟩
      have HX2 := Lib.hid (HX1.out.trans ((below_new w1 D 35).mono HX1.out.size))
      have HQ9 := Lib.hid (show (w1.alloc (.cells D 35)).heap[g9]? = some (.cells D 35 (0, 0)) by rw [hg9]; exact box_new w1 _ _)
      have HO2 := Lib.hid (HO1.out.below (below_new w1 D 35))
      rw [← hg9]
      clear hg9
      generalize w1.alloc (.cells D 35) = w2 at *
      have HB2 := Lib.hid (HB.out.trans (HX2.out.mono HB.out.size))
      have HS16 := Lib.hid (show Calls Tryz.prog 16 #[.agg D, .agg Z] w2 (fun e w' => e = .returned (.bool true) ∧ Below w2.heap.size w2 w') by
        rw [HD.out.1, HZ.out]
        have := sameFc_any w2 zFc zFc tA tB vA vB ⟨none, 0, 0⟩ ⟨none, 0, 0⟩ ⟨none, 0, 0⟩ ⟨none, 0, 0⟩ (HO2.out.at ⟨by decide, by decide, by decide, by decide⟩) ((zFc_own w2 0).at ⟨by decide, by decide, by decide, by decide⟩)
        rw [decide_eq_true rfl] at this
        exact this)
      go_wp2_with (first
    | (refine L_load_arrW 35 (.tmp 9) (by rfl) g9 0 (by rfl) D _ (row_range HQ9.out) Tryz.underlying35 rfl (by rw [HD.out.2.1]; exact info35) (by rfl) ?_)
    | (refine L_valueW (HBZ.out _ _ (by rfl) _) (by rfl) ?_)
    | (go_at_call 16; (with_reducible refine HS16.out.mono ?_); rintro e w3 ⟨rfl, hb⟩; have HX3 := Lib.hid hb; clear hb)
    | (go_at_call 20; (with_reducible refine (HKN.out _ (HB2.out.trans (HX3.out.mono HB2.out.size))).mono ?_); rintro e w4 ⟨rfl, hb⟩; have HX4 := Lib.hid hb; clear hb))
      go_ret
      exact ⟨rfl, HB2.out.trans ((HX3.out.trans (HX4.out.mono HX3.out.size)).mono HB2.out.size)⟩
  | some g =>
    have HGF := Lib.hid (decF_enc hd)
    have hlen : ¬ 9000 < raw.length := by intro h; unfold decF at hd; rw [if_pos h] at hd; cases hd
    have HDF := Lib.hid (decF_n w a n c raw HR.out (HT.out.below HB.out) (some g) hd 0 (by rw [if_neg hlen]; rfl))
    clear hd hlen
    conv => arg 2; whnf
    go_upto_region 7 with (first
    | (go_at_call 39; (with_reducible refine HDF.out.mono ?_); rintro en w1 ⟨tA, tB, vA, vB, D, rfl, hD, ho, hb⟩; have HX1 := Lib.hid hb; have HD := Lib.hid hD; have HO1 := Lib.hid ho; clear hb hD ho)
    | (refine L_valueU rfl (exec_al35 (by rfl) _) ?_)
    | (refine L_storeF rfl 35 (.tmp 9) (.tmp 36) (by rfl) _ zc35 D (by rfl) (by rfl) (by rw [HD.out.2.1]; rfl) (by rw [HD.out.2.1]; exact info35) HD.out.2.2 ?_))
    obtain ⟨g9, hg9⟩ : ∃ g, g = w1.heap.size := ⟨_, rfl⟩
    have HX2 := Lib.hid (HX1.out.trans ((below_new w1 D 35).mono HX1.out.size))
    have HQ9 := Lib.hid (show (w1.alloc (.cells D 35)).heap[g9]? = some (.cells D 35 (0, 0)) by rw [hg9]; exact box_new w1 _ _)
    have HO2 := Lib.hid (HO1.out.below (below_new w1 D 35))
    rw [← hg9]
    clear hg9
    generalize w1.alloc (.cells D 35) = w2 at *
    have HB2 := Lib.hid (HB.out.trans (HX2.out.mono HB.out.size))
    have HEN := Lib.hid (encF_n w2 g tA tB vA vB (at_small HO2.out HGF.out.1) (HT.out.below HB2.out) D HD.out.1 true HGF.out.1 0 rfl)
    go_upto_region 10 with (first
    | (refine L_load_arr rfl 35 (.tmp 9) (by rfl) g9 0 (by rfl) D _ (row_range HQ9.out) Tryz.underlying35 rfl (by rw [HD.out.2.1]; exact info35) ?_)
    | (go_at_call 22; (with_reducible refine HEN.out.mono ?_); rintro en w3 ⟨ea, en, ec, rfl, -, hr8, hb⟩; have HX3 := Lib.hid hb; have HR8 := Lib.hid hr8; clear hb hr8))
    have HS24 := Lib.hid (show Calls Tryz.prog 24 #[.slice ea en ec, .slice a n c] w3 (fun e w' => e = .returned (.bool true) ∧ Below w3.heap.size w3 w') by
      have h8 : R8 w3 ea en ec (encF g) := by simpa using HR8.out
      have := same_any24 w3 ea a en n ec c (encF g) raw h8 (HR.out.below (HX2.out.trans (HX3.out.mono HX2.out.size)))
      rwa [decide_eq_true HGF.out.2] at this)
    have HB3 := Lib.hid (HB2.out.trans (HX3.out.mono HB2.out.size))
    go_wp2_with (first
    | (go_at_call 24; (with_reducible refine HS24.out.mono ?_); rintro e w4 ⟨rfl, hb⟩; have HX4 := Lib.hid hb; clear hb)
    | (go_at_call 20; (with_reducible refine (HKN.out _ (HB3.out.trans (HX4.out.mono HB3.out.size))).mono ?_); rintro e w5 ⟨rfl, hb⟩; have HX5 := Lib.hid hb; clear hb))
    go_ret
    exact ⟨rfl, HB3.out.trans ((HX4.out.trans (HX5.out.mono HX4.out.size)).mono HB3.out.size)⟩
theorem back_any (w : World) (f : Fc) (sA sB wA wB : S3) (hF : FcAt w f sA sB wA wB) (a : Option Addr) (n c : Nat) (raw : List UInt8) (hr : R8 w a n c raw) (ht : Tabs w) :
    Calls Tryz.prog 9 #[.agg (fcA f sA sB wA wB), .slice a n c] w fun e w' => e = .returned (.bool true) ∧ Below w.heap.size w w' := by
  obtain ⟨A, hA⟩ : ∃ A, A = fcA f sA sB wA wB := ⟨_, rfl⟩
  have HA := Lib.hid (show A = fcA f sA sB wA wB ∧ A.size = 266 from ⟨hA, by rw [hA]; exact fcA_size _ _ _ _ _⟩)
  rw [← hA]
  have HF := Lib.hid hF; have HR := Lib.hid hr; have HT := Lib.hid ht
  clear hA hF hr ht
  go_enter Tryz.func9, Tryz.ntmps9
  go_upto_region 1 with (fail)
  obtain ⟨g2, hg2⟩ : ∃ g, g = w.heap.size := ⟨_, rfl⟩
  have HB := Lib.hid (below_new w A 35)
  have HQ2 := Lib.hid (show (w.alloc (.cells A 35)).heap[g2]? = some (.cells A 35 (0, 0)) by rw [hg2]; exact box_new w _ _)
  rw [← hg2]
  clear hg2
  generalize w.alloc (.cells A 35) = w6 at *
  cases hfp : formedP f with
  | false =>
    have HEN := Lib.hid (encF_n w6 f sA sB wA wB (HF.out.below HB.out) (HT.out.below HB.out) A HA.out.1 false hfp 170 rfl)
    clear hfp
    go_upto_region 2 with (first
    | (refine L_load_arr rfl 35 (.tmp 2) (by rfl) g2 0 (by rfl) A _ (row_range HQ2.out) Tryz.underlying35 rfl (by rw [HA.out.2]; exact info35) ?_)
    | (go_at_call 22; (with_reducible refine HEN.out.mono ?_); rintro en w7 ⟨ea, en, ec, rfl, -, hr8, hb⟩; have HX7 := Lib.hid hb; have HR8 := Lib.hid hr8; clear hb hr8))
    rename_i K3 hK3 Kc hKc
    have HK3 := Lib.hid (fun (a : Act) (x : World) (h : Code.wp Tryz.prog (dropSeq 3 bk0) (bodyPost Tryz.prog Tryz.f9 (fun e w' => e = .returned (.bool true) ∧ Below w.heap.size w w')) a x) => hK3 a x h)
    clear hK3
    go_wp2_with fail
    change K3 _ _
    refine HK3.out _ _ ?_
    have hb7 := HB.out.trans (HX7.out.mono HB.out.size)
    exact back_tail w w7 hb7 HT.out a n c raw (HR.out.below hb7) _ _ _ _ _ _ _ _ _ _ _ _ _ _ _ _ _ _ _ _ _ _ _ _ _ _ _ _ _ _ _ _ _ _ _ _ _ _ _ _ _ _ _ _ _ _ _ _ _ _ _ _ _ _ _ _ _ _ _ _ _ _ _ _ _ _ _ _ _ _ _ _ _
  | true =>
    have HFP := Lib.hid hfp
    have HEN := Lib.hid (encF_n w6 f sA sB wA wB (HF.out.below HB.out) (HT.out.below HB.out) A HA.out.1 true hfp 0 rfl)
    clear hfp
    go_upto_region 2 with (first
    | (refine L_load_arr rfl 35 (.tmp 2) (by rfl) g2 0 (by rfl) A _ (row_range HQ2.out) Tryz.underlying35 rfl (by rw [HA.out.2]; exact info35) ?_)
    | (go_at_call 22; (with_reducible refine HEN.out.mono ?_); rintro en w7 ⟨ea, en, ec, rfl, -, hr8, hb⟩; have HX7 := Lib.hid hb; have HR8 := Lib.hid hr8; clear hb hr8))
    rename_i K3 hK3 Kc hKc
    have HK3 := Lib.hid (fun (a : Act) (x : World) (h : Code.wp Tryz.prog (dropSeq 3 bk0) (bodyPost Tryz.prog Tryz.f9 (fun e w' => e = .returned (.bool true) ∧ Below w.heap.size w w')) a x) => hK3 a x h)
    clear hK3
    have HB7 := Lib.hid (HB.out.trans (HX7.out.mono HB.out.size))
    have HDF := Lib.hid (decF_n w7 ea en ec (encF f) HR8.out (HT.out.below HB7.out) (some f) (enc_dec f HFP.out) 0 (by rw [if_neg (by have := encF_len f HFP.out; omega)]; rfl))
    go_upto_region 4 with (first
    | (go_at_call 39; (with_reducible refine HDF.out.mono ?_); rintro en w1 ⟨tA, tB, vA, vB, D, rfl, hD, ho, hb⟩; have HX1 := Lib.hid hb; have HD := Lib.hid hD; have HO1 := Lib.hid ho; clear hb hD ho)
    | (refine L_valueU rfl (exec_al35 (by rfl) _) ?_)
    | (refine L_storeF rfl 35 (.tmp 7) (.tmp 23) (by rfl) _ zc35 D (by rfl) (by rfl) (by rw [HD.out.2.1]; rfl) (by rw [HD.out.2.1]; exact info35) HD.out.2.2 ?_))
    obtain ⟨g7, hg7⟩ : ∃ g, g = w1.heap.size := ⟨_, rfl⟩
    have HX2 := Lib.hid (HX1.out.trans ((below_new w1 D 35).mono HX1.out.size))
    have HQ9 := Lib.hid (show (w1.alloc (.cells D 35)).heap[g7]? = some (.cells D 35 (0, 0)) by rw [hg7]; exact box_new w1 _ _)
    have HO2 := Lib.hid (HO1.out.below (below_new w1 D 35))
    rw [← hg7]
    clear hg7
    generalize w1.alloc (.cells D 35) = w2 at *
    have HB2 := Lib.hid (HB7.out.trans (HX2.out.mono HB7.out.size))
    have HQ22 := Lib.hid (blk_up HQ2.out (HX7.out.trans (HX2.out.mono HX7.out.size)))
    have HS16 := Lib.hid (show Calls Tryz.prog 16 #[.agg A, .agg D] w2 (fun e w' => e = .returned (.bool true) ∧ Below w2.heap.size w2 w') by
      rw [HD.out.1, HA.out.1]
      have := sameFc_any w2 f f sA sB wA wB tA tB vA vB (HF.out.below HB2.out) (at_small HO2.out HFP.out)
      rw [decide_eq_true rfl] at this
      exact this)
    go_wp2_with (first
    | (refine L_load_arrW 35 (.tmp 2) (by rfl) g2 0 (by rfl) A _ (row_range HQ22.out) Tryz.underlying35 rfl (by rw [HA.out.2]; exact info35) (by rfl) ?_)
    | (refine L_load_arrW 35 (.tmp 7) (by rfl) g7 0 (by rfl) D _ (row_range HQ9.out) Tryz.underlying35 rfl (by rw [HD.out.2.1]; exact info35) (by rfl) ?_)
    | (go_at_call 16; (with_reducible refine HS16.out.mono ?_); rintro e w3 ⟨rfl, hb⟩; have HX3 := Lib.hid hb; clear hb))
    change K3 _ _
    refine HK3.out _ _ ?_
    have hb7 := HB2.out.trans (HX3.out.mono HB2.out.size)
    exact back_tail w w3 hb7 HT.out a n c raw (HR.out.below hb7) _ _ _ _ _ _ _ _ _ _ _ _ _ _ _ _ _ _ _ _ _ _ _ _ _ _ _ _ _ _ _ _ _ _ _ _ _ _ _ _ _ _ _ _ _ _ _ _ _ _ _ _ _ _ _ _ _ _ _ _ _ _ _ _ _ _ _ _ _ _ _ _ _
end Go.Proofs.YtoboabkaojfbaaaGreatDoor
namespace Go.Proofs.YtoboabkaojfbaaaGreatDoor
open Go Go.RowKit
set_option maxRecDepth 100000
set_option maxHeartbeats 8000000
set_option linter.unusedVariables false
set_option linter.unusedSimpArgs false
/-! Arguments opened: heads, notes, proofs -/
open Go.ChangeShapes Go.WideShapes Go.ChangeAt
theorem c3 : Tryz.prog.cellsOf 3 = 1 := by kernel_rfl
theorem c23 : Tryz.prog.cellsOf 23 = 32 := by kernel_rfl
theorem c25 : Tryz.prog.cellsOf 25 = 98 := by kernel_rfl
theorem c26 : Tryz.prog.cellsOf 26 = 1 := by kernel_rfl
theorem c28 : Tryz.prog.cellsOf 28 = 99 := by kernel_rfl
theorem c29 : Tryz.prog.cellsOf 29 = 1 := by kernel_rfl
theorem c35 : Tryz.prog.cellsOf 35 = 266 := by kernel_rfl
theorem c63 : Tryz.prog.cellsOf 63 = 64 := by kernel_rfl
theorem c31 : Tryz.prog.cellsOf 31 = 67 := by kernel_rfl
theorem by63 : Tryz.prog.bytesOf 63 = 64 := by kernel_rfl
theorem by23 : Tryz.prog.bytesOf 23 = 32 := by kernel_rfl
theorem cut_at {α : Type} (l : List α) (off n : Nat) : l.drop off = (l.drop off).take n ++ l.drop (off + n) := by
  rw [← List.drop_drop, List.take_append_drop]
theorem weightsAll_mem {H : Type} {P : Program} {e : TypeId} : ∀ {l : List (DataW H)} {d : DataW H}, d ∈ l → ∀ n ∈ d.weights P e, n ∈ DataW.weightsAll P e l
  | d' :: r, d, hd, n, hn => by
    simp only [DataW.weightsAll, List.mem_append]
    rcases List.mem_cons.1 hd with rfl | h
    · exact Or.inl hn
    · exact Or.inr (weightsAll_mem h n hn)
theorem l2 {α : Type} {l : List α} (h : l.length = 2) : ∃ a b, l = [a, b] := by
  match l, h with
  | [a, b], _ => exact ⟨a, b, rfl⟩
theorem l5 {α : Type} {l : List α} (h : l.length = 5) : ∃ a b c d e, l = [a, b, c, d, e] := by
  match l, h with
  | [a, b, c, d, e], _ => exact ⟨a, b, c, d, e, rfl⟩
theorem l8 {α : Type} {l : List α} (h : l.length = 8) : ∃ a b c d e f g i, l = [a, b, c, d, e, f, g, i] := by
  match l, h with
  | [a, b, c, d, e, f, g, i], _ => exact ⟨a, b, c, d, e, f, g, i, rfl⟩
section
variable {H : Type} {enc : TypeId × Value → H} {W : World} {fuel : Nat} {cs : List Value} {x : DataW H × List MemPlace}
theorem spot_row {x : Addr} {n : Nat} (h : ∀ i, i < n → ∃ v, W.cell? (x.add i) = some v) (hn : 0 < n) : ∃ b off, x = ⟨b, off, none⟩ := by
  obtain ⟨b, off, spot⟩ := x
  obtain ⟨v, h0⟩ := h 0 hn
  have : spot = none := by simpa [Addr.add] using World.cell?_spot h0
  exact ⟨b, off, by rw [this]⟩
theorem open_dg (h : DataW.trod enc Tryz.prog W 0 (fun _ => true) true fuel 23 cs = some x) : ∃ d : Dg, cs = dgE d := by
  obtain ⟨xs, m, -, rfl, hl, hxl, hf⟩ := DataW.trod_array Tryz.underlying23 h
  rw [c23] at hl
  have each : ∀ i, i < 32 → ∃ c : UInt8, cs[i]? = some (b8 c) := by
    intro i hi
    have h1 := hf i hi
    rw [show Tryz.prog.cellsOf 5 = 1 by kernel_rfl, Nat.mul_one, List.getElem?_eq_getElem (by omega)] at h1
    obtain ⟨z, hz, -, hw⟩ := DataW.trod_int Tryz.underlying5 h1
    have h2 := congrArg (fun l : List Value => l[0]?) hz
    simp only [List.getElem?_cons_zero] at h2
    rw [List.getElem?_take_of_lt (by decide), List.getElem?_drop, Nat.add_zero] at h2
    have hb := bounds_u8 hw
    refine ⟨UInt8.ofNat z.toNat, by rw [h2]; unfold b8; congr 2; simp; omega⟩
  obtain ⟨f, hf2⟩ := Go.Deep.choose_lt each
  refine ⟨⟨(List.range 32).map f, by simp⟩, ?_⟩
  apply List.ext_getElem?
  intro i
  unfold dgE
  by_cases hi : i < 32
  · rw [hf2 i hi]; simp [hi]
  · rw [List.getElem?_eq_none (by omega), List.getElem?_eq_none (by simp; omega)]
theorem open_i (h : DataW.trod enc Tryz.prog W 0 (fun _ => true) true fuel 3 cs = some x) : ∃ z : Int, cs = [.int .i64 z] := by
  obtain ⟨z, hz, -, -⟩ := DataW.trod_int Tryz.underlying3 h
  exact ⟨z, hz⟩
theorem open_hd (h : DataW.trod enc Tryz.prog W 0 (fun _ => true) true fuel 25 cs = some x) : ∃ d : Hd, cs = hdE d := by
  obtain ⟨xs, m, -, rfl, hl, hxl, hf⟩ := DataW.trod_struct Tryz.underlying25 h
  rw [c25] at hl
  obtain ⟨z0, z1, z2, z3, z4, rfl⟩ := l5 hxl
  have g0 : DataW.trod enc Tryz.prog W 0 (fun _ => true) true m 23 ((cs.drop 0).take (Tryz.prog.cellsOf 23)) = some z0 := hf 0 _ rfl
  have g1 : DataW.trod enc Tryz.prog W 0 (fun _ => true) true m 3 ((cs.drop 32).take (Tryz.prog.cellsOf 3)) = some z1 := hf 1 _ rfl
  have g2 : DataW.trod enc Tryz.prog W 0 (fun _ => true) true m 23 ((cs.drop 33).take (Tryz.prog.cellsOf 23)) = some z2 := hf 2 _ rfl
  have g3 : DataW.trod enc Tryz.prog W 0 (fun _ => true) true m 23 ((cs.drop 65).take (Tryz.prog.cellsOf 23)) = some z3 := hf 3 _ rfl
  have g4 : DataW.trod enc Tryz.prog W 0 (fun _ => true) true m 3 ((cs.drop 97).take (Tryz.prog.cellsOf 3)) = some z4 := hf 4 _ rfl
  rw [c23] at g0 g2 g3
  rw [c3] at g1 g4
  obtain ⟨d0, e0⟩ := open_dg g0
  obtain ⟨i1, e1⟩ := open_i g1
  obtain ⟨d2, e2⟩ := open_dg g2
  obtain ⟨d3, e3⟩ := open_dg g3
  obtain ⟨i4, e4⟩ := open_i g4
  have a0 := cut_at cs 0 32
  have a1 := cut_at cs 32 1
  have a2 := cut_at cs 33 32
  have a3 := cut_at cs 65 32
  have a4 := cut_at cs 97 1
  rw [e0] at a0; rw [e1] at a1; rw [e2] at a2; rw [e3] at a3; rw [e4] at a4
  have a5 : cs.drop (97 + 1) = [] := List.drop_eq_nil_of_le (by omega)
  rw [a5] at a4
  refine ⟨⟨d0, i1, d2, d3, i4⟩, ?_⟩
  show cs = HB d0 i1 d2 d3 i4
  rw [show cs = cs.drop 0 from rfl, a0, show (0 + 32) = 32 from rfl, a1, show (32 + 1) = 33 from rfl, a2, show (33 + 32) = 65 from rfl, a3, show (65 + 32) = 97 from rfl, a4]
  simp [HB]
theorem open_sg (h : DataW.trod enc Tryz.prog W 0 (fun _ => true) true fuel 63 cs = some x) : ∃ d : Sg, cs = sgE d := by
  obtain ⟨xs, m, -, rfl, hl, hxl, hf⟩ := DataW.trod_struct Tryz.underlying63 h
  rw [c63] at hl
  obtain ⟨z0, z1, rfl⟩ := l2 hxl
  have g0 : DataW.trod enc Tryz.prog W 0 (fun _ => true) true m 23 ((cs.drop 0).take (Tryz.prog.cellsOf 23)) = some z0 := hf 0 _ rfl
  have g1 : DataW.trod enc Tryz.prog W 0 (fun _ => true) true m 23 ((cs.drop 32).take (Tryz.prog.cellsOf 23)) = some z1 := hf 1 _ rfl
  rw [c23] at g0 g1
  obtain ⟨d0, e0⟩ := open_dg g0
  obtain ⟨d1, e1⟩ := open_dg g1
  have a0 := cut_at cs 0 32
  have a1 := cut_at cs 32 32
  rw [e0] at a0; rw [e1] at a1
  have a5 : cs.drop (32 + 32) = [] := List.drop_eq_nil_of_le (by omega)
  rw [a5] at a1
  refine ⟨⟨d0, d1⟩, ?_⟩
  rw [show cs = cs.drop 0 from rfl, a0, show (0 + 32) = 32 from rfl, a1]
  simp [sgE]
/-- A slice of elements of s cells. -/
theorem open_rs {α : Type} [Inhabited α] (enc' : α → List Value) (s : Nat) (hs : 0 < s) (he : ∀ y, (enc' y).length = s) {t e : TypeId} (b : Nat) (hb1 : 1 ≤ b) (hu : Tryz.prog.underlying t = some (.slice e)) (hc : Tryz.prog.cellsOf e = s) (hby : Tryz.prog.bytesOf e = b)
    (op : ∀ {fuel : Nat} {cs : List Value} {x : DataW H × List MemPlace}, DataW.trod enc Tryz.prog W 0 (fun _ => true) true fuel e cs = some x → ∃ y, cs = enc' y)
    (h : DataW.trod enc Tryz.prog W 0 (fun _ => true) true fuel t cs = some x) (hw : ∀ n ∈ x.1.weights Tryz.prog t, n ≤ reachBytes) :
    ∃ a n c l, cs = [.slice a n c] ∧ RS s enc' W a n c l ∧ n * b ≤ 140737488351232 := by
  rcases Go.Deep.open_slice hu h with ⟨rfl, _⟩ | ⟨a, len, cap, m, n, D, Pl, rfl, hb, hl, hm, hmm, rfl, hx⟩
  · exact ⟨none, 0, 0, [], rfl, ⟨rfl, Nat.le_refl _, by decide, fun i y hy => by simp at hy⟩, by omega⟩
  · simp only [if_true] at hmm
    have hmm' := hmm.symm
    subst hmm'
    rw [hc] at hx
    have hw0 := hw _ (by simp only [DataW.weights, hu]; exact List.mem_cons_self)
    simp only [List.length_map, List.length_range, hby, reachBytes] at hw0
    have hbm : cap * b ≤ 140737488351232 ∧ len * b ≤ cap * b := by
      refine ⟨?_, Nat.mul_le_mul_right _ hl⟩
      have e : len + (cap - len) = cap := by omega
      first
        | exact hw0
        | (rw [e] at hw0; exact hw0)
    have hlen : len ≤ 281474976710656 := by
      have : len * 1 ≤ len * b := Nat.mul_le_mul_left _ hb1
      omega
    have each : ∀ i, i < len → ∃ y : α, ∀ j v, (enc' y)[j]? = some v → W.cell? (a.add (i * s + j)) = some v := by
      intro i hi
      obtain ⟨cs', h1, h2⟩ := hx i (by omega)
      obtain ⟨_, h3, h4⟩ := World.cells?_some h1
      obtain ⟨y, rfl⟩ := op h2
      refine ⟨y, fun j v hv => ?_⟩
      have hj : j < s := by have := (List.getElem?_eq_some_iff.1 hv).1; rwa [he] at this
      rw [← Go.Deep.add_add, h4 j hj, hv]
    obtain ⟨f, hf⟩ := Go.Deep.choose_lt each
    refine ⟨some a, len, cap, (List.range len).map f, rfl, ⟨by simp, hl, hlen, fun i y hi => ?_⟩, by omega⟩
    have hil : i < len := by have := (List.getElem?_eq_some_iff.1 hi).1; simpa using this
    obtain rfl : f i = y := by simpa [hil] using hi
    obtain ⟨b', off, rfl⟩ := spot_row (W := W) (x := a) (n := 1) (fun j hj => ⟨_, by
      have h0 : (enc' (f 0))[0]? = some ((enc' (f 0))[0]'(by rw [he]; exact hs)) := List.getElem?_eq_getElem _
      have := hf 0 (by omega) 0 _ h0
      simpa [show j = 0 by omega] using this⟩) (by omega)
    refine ⟨b', off, rfl, fun j v hv => ?_⟩
    have := hf i hil j v hv
    rwa [Addr.add_lit, ← Nat.add_assoc] at this
instance : Inhabited Dg := ⟨zDg⟩
theorem open_nt (h : DataW.trod enc Tryz.prog W 0 (fun _ => true) true fuel 28 cs = some x) (hw : ∀ n ∈ x.1.weights Tryz.prog 28, n ≤ reachBytes) : ∃ (d : Nt) (a : Option Addr) (n c : Nat), cs = hdE d.head ++ [.slice a n c] ∧ RS 64 sgE W a n c d.signs := by
  obtain ⟨xs, m, -, rfl, hl, hxl, hf⟩ := DataW.trod_struct Tryz.underlying28 h
  rw [c28] at hl
  obtain ⟨z0, z1, rfl⟩ := l2 hxl
  have g0 : DataW.trod enc Tryz.prog W 0 (fun _ => true) true m 25 ((cs.drop 0).take (Tryz.prog.cellsOf 25)) = some z0 := hf 0 _ rfl
  have g1 : DataW.trod enc Tryz.prog W 0 (fun _ => true) true m 26 ((cs.drop 98).take (Tryz.prog.cellsOf 26)) = some z1 := hf 1 _ rfl
  rw [c25] at g0
  rw [c26] at g1
  simp only [List.map_cons, List.map_nil, DataW.weights, Tryz.underlying28, DataW.weightsEach, List.mem_append, List.append_nil] at hw
  obtain ⟨d0, e0⟩ := open_hd g0
  obtain ⟨a, n, c, l, e1, hr, -⟩ := open_rs sgE 64 (by decide) sgE_len 64 (by decide) Tryz.underlying26 c63 by63 (fun h => open_sg h) g1 (fun q hq => hw q (Or.inr hq))
  have a0 := cut_at cs 0 98
  have a1 := cut_at cs 98 1
  rw [e0] at a0; rw [e1] at a1
  have a5 : cs.drop (98 + 1) = [] := List.drop_eq_nil_of_le (by omega)
  rw [a5] at a1
  refine ⟨⟨d0, l⟩, a, n, c, ?_, hr⟩
  rw [show cs = cs.drop 0 from rfl, a0, show (0 + 98) = 98 from rfl, a1]
  simp
theorem open_fc (h : DataW.trod enc Tryz.prog W 0 (fun _ => true) true fuel 35 cs = some x) (hw : ∀ n ∈ x.1.weights Tryz.prog 35, n ≤ reachBytes) : ∃ (f : Fc) (sA sB wA wB : S3), cs.toArray = fcA f sA sB wA wB ∧ FcAt W f sA sB wA wB ∧ wA.n * 32 ≤ 140737488351232 ∧ wB.n * 32 ≤ 140737488351232 := by
  obtain ⟨xs, m, -, rfl, hl, hxl, hf⟩ := DataW.trod_struct Tryz.underlying35 h
  rw [c35] at hl
  obtain ⟨z0, z1, z2, z3, z4, z5, z6, z7, rfl⟩ := l8 hxl
  have g0 : DataW.trod enc Tryz.prog W 0 (fun _ => true) true m 28 ((cs.drop 0).take (Tryz.prog.cellsOf 28)) = some z0 := hf 0 _ rfl
  have g1 : DataW.trod enc Tryz.prog W 0 (fun _ => true) true m 28 ((cs.drop 99).take (Tryz.prog.cellsOf 28)) = some z1 := hf 1 _ rfl
  have g2 : DataW.trod enc Tryz.prog W 0 (fun _ => true) true m 3 ((cs.drop 198).take (Tryz.prog.cellsOf 3)) = some z2 := hf 2 _ rfl
  have g3 : DataW.trod enc Tryz.prog W 0 (fun _ => true) true m 3 ((cs.drop 199).take (Tryz.prog.cellsOf 3)) = some z3 := hf 3 _ rfl
  have g4 : DataW.trod enc Tryz.prog W 0 (fun _ => true) true m 23 ((cs.drop 200).take (Tryz.prog.cellsOf 23)) = some z4 := hf 4 _ rfl
  have g5 : DataW.trod enc Tryz.prog W 0 (fun _ => true) true m 23 ((cs.drop 232).take (Tryz.prog.cellsOf 23)) = some z5 := hf 5 _ rfl
  have g6 : DataW.trod enc Tryz.prog W 0 (fun _ => true) true m 29 ((cs.drop 264).take (Tryz.prog.cellsOf 29)) = some z6 := hf 6 _ rfl
  have g7 : DataW.trod enc Tryz.prog W 0 (fun _ => true) true m 29 ((cs.drop 265).take (Tryz.prog.cellsOf 29)) = some z7 := hf 7 _ rfl
  rw [c28] at g0 g1
  rw [c3] at g2 g3
  rw [c23] at g4 g5
  rw [c29] at g6 g7
  simp only [List.map_cons, List.map_nil, DataW.weights, Tryz.underlying35, DataW.weightsEach, List.mem_append, List.append_nil] at hw
  obtain ⟨x0, a0, n0, k0, e0, r0⟩ := open_nt g0 (fun q hq => hw q (by simp only [hq, true_or, or_true]))
  obtain ⟨x1, a1, n1, k1, e1, r1⟩ := open_nt g1 (fun q hq => hw q (by simp only [hq, true_or, or_true]))
  obtain ⟨i2, e2⟩ := open_i g2
  obtain ⟨i3, e3⟩ := open_i g3
  obtain ⟨d4, e4⟩ := open_dg g4
  obtain ⟨d5, e5⟩ := open_dg g5
  obtain ⟨a6, n6, k6, l6, e6, r6, b6⟩ := open_rs dgE 32 (by decide) dgE_len 32 (by decide) Tryz.underlying29 c23 by23 (fun h => open_dg h) g6 (fun q hq => hw q (by simp only [hq, true_or, or_true]))
  obtain ⟨a7, n7, k7, l7, e7, r7, b7⟩ := open_rs dgE 32 (by decide) dgE_len 32 (by decide) Tryz.underlying29 c23 by23 (fun h => open_dg h) g7 (fun q hq => hw q (by simp only [hq, true_or, or_true]))
  have q0 := cut_at cs 0 99
  have q1 := cut_at cs 99 99
  have q2 := cut_at cs 198 1
  have q3 := cut_at cs 199 1
  have q4 := cut_at cs 200 32
  have q5 := cut_at cs 232 32
  have q6 := cut_at cs 264 1
  have q7 := cut_at cs 265 1
  rw [e0] at q0; rw [e1] at q1; rw [e2] at q2; rw [e3] at q3; rw [e4] at q4; rw [e5] at q5; rw [e6] at q6; rw [e7] at q7
  have q8 : cs.drop (265 + 1) = [] := List.drop_eq_nil_of_le (by omega)
  rw [q8] at q7
  refine ⟨⟨x0, x1, i2, i3, d4, d5, l6, l7⟩, ⟨a0, n0, k0⟩, ⟨a1, n1, k1⟩, ⟨a6, n6, k6⟩, ⟨a7, n7, k7⟩, ?_, ⟨r0, r1, r6, r7⟩, b6, b7⟩
  unfold fcA FB
  congr 1
  rw [show cs = cs.drop 0 from rfl, q0, show (0 + 99) = 99 from rfl, q1, show (99 + 99) = 198 from rfl, q2, show (198 + 1) = 199 from rfl, q3, show (199 + 1) = 200 from rfl, q4, show (200 + 32) = 232 from rfl, q5, show (232 + 32) = 264 from rfl, q6, show (264 + 1) = 265 from rfl, q7]
  simp [S3.v]
theorem open_faces {r : Reach} {b0 : Nat} {v : Value} {d : DataW H} {p : List MemPlace} (hv : Value.okWide Tryz.prog W r b0 35 v) (h : DataW.Trod enc Tryz.prog W 0 (fun _ => true) true 35 v d p) (hw : ∀ n ∈ d.weights Tryz.prog 35, n ≤ reachBytes) :
    ∃ (f : Fc) (sA sB wA wB : S3), v = .agg (fcA f sA sB wA wB) ∧ FcAt W f sA sB wA wB ∧ wA.n * 32 ≤ 140737488351232 ∧ wB.n * 32 ≤ 140737488351232 := by
  obtain ⟨cs, rfl, hsz⟩ := okWide_struct Tryz.underlying35 hv
  obtain ⟨fuel, hf⟩ := h
  obtain ⟨l⟩ := cs
  obtain ⟨f, sA, sB, wA, wB, h1, h2⟩ := open_fc (x := (d, p)) (cs := l) hf hw
  exact ⟨f, sA, sB, wA, wB, congrArg Value.agg h1, h2⟩
theorem open_head {r : Reach} {b0 : Nat} {v : Value} {d : DataW H} {p : List MemPlace} (hv : Value.okWide Tryz.prog W r b0 25 v) (h : DataW.Trod enc Tryz.prog W 0 (fun _ => true) true 25 v d p) :
    ∃ x : Hd, v = .agg (hdA x) := by
  obtain ⟨cs, rfl, hsz⟩ := okWide_struct Tryz.underlying25 hv
  obtain ⟨fuel, hf⟩ := h
  obtain ⟨l⟩ := cs
  obtain ⟨f, h1⟩ := open_hd (x := (d, p)) (cs := l) hf
  exact ⟨f, by rw [h1]; rfl⟩
end
def dgR {H : Type} : DataW H := .agg (List.replicate 32 (.lit (.int .u8 0)))
def hdR {H : Type} : DataW H := .agg [dgR, .lit (.int .i64 0), dgR, dgR, .lit (.int .i64 0)]
def fcR {H : Type} : DataW H := .agg [.agg [hdR, .nil], .agg [hdR, .nil], .lit (.int .i64 0), .lit (.int .i64 0), dgR, dgR, .nil, .nil]
end Go.Proofs.YtoboabkaojfbaaaGreatDoor
