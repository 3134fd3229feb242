import Derived.Test.YtoboabkaojfbaaaGreatDoorQ48
import Derived.Test.YtoboabkaojfbaaaGreatDoorQ24
import Derived.Test.YtoboabkaojfbaaaGreatDoorQ44
namespace Go.Proofs.YtoboabkaojfbaaaGreatDoor
open Go Go.RowKit
set_option maxRecDepth 100000
set_option maxHeartbeats 8000000
set_option linter.unusedVariables false
set_option linter.unusedSimpArgs false
/-! The law's known: a tag turned -/

theorem tagAB : (signP kA [7]).tag ≠ (signP kB [7]).tag := by decide +kernel
theorem b8_inj {l m : List UInt8} (h : l.map b8 = m.map b8) : l = m :=
  (List.map_inj_right (fun x y hxy => by
    unfold b8 at hxy
    injection hxy with e1 e2
    exact UInt8.toNat_inj.1 (Int.ofNat.inj e2))).1 h
theorem xor_ne (c : UInt8) : c ^^^ 1 ≠ c := by
  intro h
  have h2 : c ^^^ (c ^^^ 1) = c ^^^ c := by rw [h]
  rw [← UInt8.xor_assoc, UInt8.xor_self, UInt8.zero_xor] at h2
  exact absurd h2 (by decide)
/-- A bit of the first byte of a sign's tag is turned. -/
def tagT (t : Dg) : Dg := ⟨t.1.set 0 (t.1.getD 0 0 ^^^ 1), by rw [List.length_set]; exact t.2⟩
theorem tagT_ne (t : Dg) : tagT t ≠ t := by
  intro h
  have h1 := congrArg (fun d : Dg => d.1.getD 0 0) h
  have hl := t.2
  obtain ⟨x, l, hx⟩ : ∃ x l, t.1 = x :: l := by
    cases ht : t.1 with
    | nil => rw [ht] at hl; cases hl
    | cons x l => exact ⟨x, l, rfl⟩
  simp only [tagT, hx, List.set_cons_zero, List.getD_cons_zero] at h1
  exact xor_ne x h1
theorem sgE_turn (s : Sg) : (sgE s).set 32 (b8 (s.tag.1.getD 0 0 ^^^ 1)) = sgE ⟨s.key, tagT s.tag⟩ := by
  unfold sgE
  rw [List.set_append_right _ _ (by rw [dgE_len]; exact Nat.le_refl _), dgE_len]
  congr 1
  show (s.tag.1.map b8).set 0 _ = (s.tag.1.set 0 _).map b8
  rw [List.map_set]
/-- A sign's row, its tag turned. -/
theorem turned_rs {w : World} {r cap : Nat} {cur : Array Value} {s : Sg} (hb : w.heap[r]? = some (.cells cur 63 (0, 0))) (hc : 1 ≤ cap) (ht : cur.toList.take 64 = sgE s) : RS 64 sgE (w.setCell ⟨r, 32, none⟩ (b8 (s.tag.1.getD 0 0 ^^^ 1))) (some ⟨r, 0, none⟩) 1 cap [⟨s.key, tagT s.tag⟩] := by
  have hq : (w.setCell ⟨r, 32, none⟩ (b8 (s.tag.1.getD 0 0 ^^^ 1))).heap[r]? = some (.cells (cur.setIfInBounds 32 (b8 (s.tag.1.getD 0 0 ^^^ 1))) 63 (0, 0)) := heap_setCell_same w r 32 _ _ _ hb
  refine ⟨rfl, hc, by decide, fun i x hi => ⟨r, 0, rfl, fun j v hj => ?_⟩⟩
  have h0 : i = 0 := by have := (List.getElem?_eq_some_iff.1 hi).1; simpa using this
  subst h0
  obtain rfl : (⟨s.key, tagT s.tag⟩ : Sg) = x := by simpa using hi
  have hj64 : j < 64 := by have := (List.getElem?_eq_some_iff.1 hj).1; rwa [sgE_len] at this
  rw [cell_of_row _ _ _ _ _ _ hq]
  rw [← sgE_turn, ← ht] at hj
  simp only [Nat.zero_mul, Nat.add_zero, Nat.zero_add]
  rw [← List.take_set, List.getElem?_take_of_lt hj64] at hj
  rw [← Array.getElem?_toList, Array.toList_setIfInBounds]
  exact hj
theorem kn_d (w0 w : World) (ht : Tabs w0) (ga g2 g3 g4 p q : Nat) (hI : KnB w0 w ga g2 g3 g4 p q) (g5 g9 Bf Bx : Nat) (sA sB wA wB tA tB vA vB : S3) (h5 : w.heap[g5]? = some (.cells (fcA kF sA sB wA wB) 35 (0, 0))) (hl5 : w0.heap.size ≤ g5) (h59 : g9 ≠ g5) (hO5 : FcOwn w Bf kF sA sB wA wB) (hBf : w0.heap.size ≤ Bf) (hpB : p < Bf) (hqB : q < Bf) (h9 : w.heap[g9]? = some (.cells (fcA kF tA tB vA vB) 35 (0, 0))) (hO9 : FcOwn w Bx kF tA tB vA vB) (hr : ∀ k, sB.v.ownBlock = some k → k < Bx) (u0 u6 u7 u8 u10 u11 u12 u13 u14 u15 u16 u17 u18 u19 u20 u21 u22 u23 u24 u25 u26 u27 u28 u29 u30 u31 u32 u33 u34 u35 u36 u37 u38 u39 u40 u41 u42 u43 u44 u45 u46 u47 u48 u49 u50 u51 u52 u53 u54 u55 u56 u57 u58 u59 u60 u61 u62 u63 u64 u65 u66 u67 u68 u69 u70 u71 u72 u73 u74 u75 u76 u77 u78 u79 u80 u81 u82 u83 u84 u85 u86 u87 u88 u89 u90 u91 u92 u93 u94 u95 u96 u97 u98 u99 u100 u101 u102 u103 u104 u105 u106 u107 u108 u109 u110 u111 u112 u113 u114 u115 u116 u117 u118 u119 u120 u121 u122 u123 u124 u125 u126 u127 u128 u129 u130 u131 u132 u133 u134 u135 u136 u137 u138 u139 u140 u141 u142 u143 u144 u145 u146 u147 u148 u149 u150 u151 u152 u153 u154 u155 u156 u157 u158 u159 u160 u161 u162 u163 u164 u165 u166 u167 u168 u169 u170 u171 u172 u173 u174 u175 u176 u177 u178 u179 u180 u181 u182 u183 u184 u185 u186 u187 u188 u189 u190 u191 u192 u193 u194 u195 u196 u197 u198 u199 u200 u201 u202 u203 u204 u205 u206 : Value) :
    Code.wp Tryz.prog (dropSeq 10 kn0) (bodyPost Tryz.prog Tryz.f20 (KnRet w0)) ⟨#[u0, .slice (some ⟨ga, 0, none⟩) 1 1, .pointer (some ⟨g2, 0, none⟩), .pointer (some ⟨g3, 0, none⟩), .pointer (some ⟨g4, 0, none⟩), .pointer (some ⟨g5, 0, none⟩), u6, u7, u8, .pointer (some ⟨g9, 0, none⟩), u10, u11, u12, u13, u14, u15, u16, u17, u18, u19, u20, u21, u22, u23, u24, u25, u26, u27, u28, u29, u30, u31, u32, u33, u34, u35, u36, u37, u38, u39, u40, u41, u42, u43, u44, u45, u46, u47, u48, u49, u50, u51, u52, u53, u54, u55, u56, u57, u58, u59, u60, u61, u62, u63, u64, u65, u66, u67, u68, u69, u70, u71, u72, u73, u74, u75, u76, u77, u78, u79, u80, u81, u82, u83, u84, u85, u86, u87, u88, u89, u90, u91, u92, u93, u94, u95, u96, u97, u98, u99, u100, u101, u102, u103, u104, u105, u106, u107, u108, u109, u110, u111, u112, u113, u114, u115, u116, u117, u118, u119, u120, u121, u122, u123, u124, u125, u126, u127, u128, u129, u130, u131, u132, u133, u134, u135, u136, u137, u138, u139, u140, u141, u142, u143, u144, u145, u146, u147, u148, u149, u150, u151, u152, u153, u154, u155, u156, u157, u158, u159, u160, u161, u162, u163, u164, u165, u166, u167, u168, u169, u170, u171, u172, u173, u174, u175, u176, u177, u178, u179, u180, u181, u182, u183, u184, u185, u186, u187, u188, u189, u190, u191, u192, u193, u194, u195, u196, u197, u198, u199, u200, u201, u202, u203, u204, u205, u206], []⟩ w := by
  obtain ⟨A, hA⟩ : ∃ A, A = fcA kF sA sB wA wB := ⟨_, rfl⟩
  have HAS := Lib.hid (show A.size = 266 by rw [hA]; exact fcA_size _ _ _ _ _)
  obtain ⟨ab, nb, cb⟩ := sB
  -- the second sign's row
  obtain ⟨r, cap, cur, hv, hrB, hrb, hnc, hcm, hsz, hcur⟩ : ∃ r cap cur, (S3.v ⟨ab, nb, cb⟩) = .slice (some ⟨r, 0, none⟩) 1 cap ∧ Bf ≤ r ∧ w.heap[r]? = some (.cells cur 63 (0, 0)) ∧ 1 ≤ cap ∧ cap ≤ maxLen ∧ cur.size = cap * 64 ∧ cur.toList.take 64 = sgE (signP kB [7]) := by
    have hn1 : nb = 1 := own_n (by decide) sgE_len hO5.b
    rcases hO5.b.2 with ⟨hv, -⟩ | ⟨r, cap, cur, hv, i1, i2, i3, i4, i5, i6⟩
    · have := Value.slice.inj hv
      simp only at this
      omega
    · have e := Value.slice.inj hv
      simp only at e hn1
      subst hn1
      refine ⟨r, cap, cur, hv, i1, i2, i3, i4, i5, ?_⟩
      have e2 : (1 : Nat) * 64 = 64 := rfl
      rw [e2] at i6
      rw [i6]
      simp [kF, kNb]
  obtain ⟨rfl, rfl, rfl⟩ := Value.slice.inj hv
  have hpr : p ≠ r := by omega
  have hqr : q ≠ r := by omega
  have hne : sA.v.ownBlock ≠ some r := by
    intro he
    have hn1 : sA.n = 1 := own_n (by decide) sgE_len hO5.a
    rcases hO5.a.2 with ⟨hv2, -⟩ | ⟨r2, cap2, cur2, hv2, i1, i2, i3, i4, i5, i6⟩
    · rw [hv2] at he; cases he
    · rw [hv2] at he
      obtain rfl : r2 = r := by simpa [Value.ownBlock] using he
      rw [i2] at hrb
      injection (Option.some.inj hrb) with e1
      rw [hn1, e1] at i6
      have e2 : (1 : Nat) * 64 = 64 := rfl
      rw [e2, hcur] at i6
      have h7 : sgE (signP kB [7]) = sgE (signP kA [7]) := by rw [i6]; simp [kF, kNa]
      unfold sgE at h7
      have h8 := (List.append_inj h7 (by rw [dgE_len, dgE_len])).2
      exact tagAB (Subtype.ext ((b8_inj h8).symm))
  obtain ⟨c, hc⟩ : ∃ c, c = (signP kB [7]).tag.1.getD 0 0 := ⟨_, rfl⟩
  have hcell : w.cell? ⟨r, 32, none⟩ = some (.int .u8 (c.toNat : Int)) := by
    rw [cell_of_row _ _ _ _ _ _ hrb, ← Array.getElem?_toList]
    have e : cur.toList[32]? = (cur.toList.take 64)[32]? := by rw [List.getElem?_take_of_lt (by decide)]
    rw [e, hcur]
    unfold sgE
    rw [List.getElem?_append_right (by rw [dgE_len]; exact Nat.le_refl _), dgE_len]
    have hl := (signP kB [7]).tag.2
    obtain ⟨y, l, hy⟩ : ∃ y l, (signP kB [7]).tag.1 = y :: l := by
      cases ht : (signP kB [7]).tag.1 with
      | nil => rw [ht] at hl; cases hl
      | cons y l => exact ⟨y, l, rfl⟩
    rw [hc]
    unfold dgE
    rw [hy]
    rfl
  have hd : Below w.heap.size w w.drew := (Below.refl _ _).drew
  have k197 : w.cell? ⟨g5, 197, none⟩ = some (.slice (some ⟨r, 0, none⟩) 1 cb) := FB.c_vB h5
  have HSS := Lib.hid (show w.drew.cell? ⟨g5, 197, none⟩ = some (.slice (some ⟨r, 0, none⟩) 1 cb) ∧ w.drew.cell? ⟨r, 32, none⟩ = some (.int .u8 (c.toNat : Int)) from ⟨keepR hd k197, keepR hd hcell⟩)
  have HXOR := Lib.hid (fun (u : World) => show (binOp .xor 5 (.int .u8 (c.toNat : Int)) (.int .u8 1)).run Tryz.prog u = .ok (.int .u8 (((c ^^^ 1 : UInt8).toNat : Nat) : Int)) u by
    have := xor_u8 c 1
    rw [← this]; rfl)
  have HFR := Lib.hid (frozen_of_row w.drew r 32 _ _ (blk_up hrb hd))
  have HI := Lib.hid (hI.below hd); have H5 := Lib.hid (show w.drew.heap[g5]? = some (.cells A 35 (0, 0)) by rw [hA]; exact blk_up h5 hd)
  have H9 := Lib.hid (blk_up h9 hd); have HO5 := Lib.hid (hO5.below hd); have HO9 := Lib.hid (hO9.below hd); have HRB := Lib.hid (blk_up hrb hd)
  have HZ := Lib.hid (And.intro hnc (And.intro hcm (And.intro hsz (And.intro hcur (And.intro hne (And.intro hpr hqr))))))
  have HLL := Lib.hid (show w0.heap.size ≤ g5 ∧ g9 ≠ g5 ∧ w0.heap.size ≤ r ∧ r < Bx from ⟨hl5, h59, by omega, hr r rfl⟩)
  have HC := Lib.hid hc; have HT := Lib.hid ht; have HA := Lib.hid hA
  obtain ⟨z, hz⟩ : ∃ z : Int, z = (((c ^^^ 1 : UInt8).toNat : Nat) : Int) := ⟨_, rfl⟩
  rw [← hz] at HXOR
  have HZV := Lib.hid hz
  clear hI h5 hl5 h59 hO5 hBf hpB hqB h9 hO9 hr hv hrB hrb hnc hcm hsz hcur hpr hqr hne hc hcell hd k197 ht hA hz
  conv => arg 2; whnf
  go_upto_region 12 with (fail)
  refine wp_region_held_drew (S := fun x : World => x.cell? ⟨g5, 197, none⟩ = some (.slice (some ⟨r, 0, none⟩) 1 cb)) (by kernel_rfl) HSS.out.1 (fun hHeld => ?_)
  generalize w.drew = w1 at *
  apply wpT 0
  apply wpT 1
  apply wpT 2
  apply wpT 3
  apply wpT 4
  apply wpT 5
  apply wpT 6
  apply wpT 7
  apply wpT 8
  apply wpT 11
  apply wpT 12
  apply wpR 9
  intro K hK
  have k32 := HSS.out.2
  go_simp
  apply bk hK
  · exact hHeld
  intro hHeld
  clear hK K
  apply wpL 10 (.int .u8 z)
  · exact fun w hSw => exec_bin rfl (HXOR.out _) (by kernel_rfl)
  apply wpT 13
  apply wpR 14
  intro K hK
  have f32 := HFR.out
  go_simp
  clear k32 f32
  obtain ⟨hnc, hcm, hsz, hcur, hne, hpr, hqr⟩ := HZ.out
  obtain ⟨tT, htT⟩ : ∃ t, t = tagT (signP kB [7]).tag := ⟨_, rfl⟩
  have hset : w1.setCell ⟨r, 32, none⟩ (.int .u8 z) = w1.setCell ⟨r, 32, none⟩ (b8 ((signP kB [7]).tag.1.getD 0 0 ^^^ 1)) := by rw [HZV.out, HC.out]; rfl
  have hg := set_g w1 r 32 (.int .u8 z)
  have n5 : g5 ≠ r := blk_ne H5.out HRB.out (by decide)
  have n9 : g9 ≠ r := blk_ne H9.out HRB.out (by decide)
  have HI2 := Lib.hid (HI.out.set63 (x' := w1.setCell ⟨r, 32, none⟩ (.int .u8 z)) HRB.out HLL.out.2.2.1 hpr hqr hg)
  have H52 := Lib.hid (blk_keep hg H5.out n5)
  have H92 := Lib.hid (blk_keep hg H9.out n9)
  have HO92 := Lib.hid (show FcOwn (w1.setCell ⟨r, 32, none⟩ (.int .u8 z)) Bx kF tA tB vA vB from
    ⟨HO9.out.a.kept hg (.inr (fun e => by have := (HO9.out.a.lt r e).1; have := HLL.out.2.2.2; omega)), HO9.out.b.kept hg (.inr (fun e => by have := (HO9.out.b.lt r e).1; have := HLL.out.2.2.2; omega)), HO9.out.wa.kept hg (.inr (own_ne HO9.out.wa HRB.out (by decide))), HO9.out.wb.kept hg (.inr (own_ne HO9.out.wb HRB.out (by decide)))⟩)
  have HAT := Lib.hid (show FcAt (w1.setCell ⟨r, 32, none⟩ (.int .u8 z)) (kX tT) sA ⟨some ⟨r, 0, none⟩, 1, cb⟩ wA wB from by
    have ha := HO5.out.a.kept hg (.inr hne)
    have hwa := HO5.out.wa.kept hg (.inr (own_ne HO5.out.wa HRB.out (by decide)))
    have hwb := HO5.out.wb.kept hg (.inr (own_ne HO5.out.wb HRB.out (by decide)))
    have e1 := own_n (by decide) sgE_len ha
    have e3 := own_n (by decide) dgE_len hwa
    have e4 := own_n (by decide) dgE_len hwb
    refine ⟨RS.of_owns ha (by decide) sgE_len (by rw [e1]; decide), ?_, RS.of_owns hwa (by decide) dgE_len (by rw [e3]; decide), RS.of_owns hwb (by decide) dgE_len (by rw [e4]; decide)⟩
    have := turned_rs HRB.out hnc hcur
    rw [← hset, ← htT] at this
    exact this)
  have HKX := Lib.hid (show accP 32 (kX tT) [7] = 161 ∧ accP 32 (kX tT) [] = 160 from k_spoilt tT (by rw [htT]; exact tagT_ne _))
  have HAX := Lib.hid (show A = fcA (kX tT) sA ⟨some ⟨r, 0, none⟩, 1, cb⟩ wA wB ∧ A.size = 266 from ⟨HA.out, HAS.out⟩)
  have hh2 : (w1.setCell ⟨r, 32, none⟩ (.int .u8 z)).cell? ⟨g5, 197, none⟩ = some (.slice (some ⟨r, 0, none⟩) 1 cb) := by have := H52.out; rw [HA.out] at this; exact FB.c_vB this
  clear hnc hcm hsz hcur hne hpr hqr htT hset hg n5 n9
  generalize w1.setCell ⟨r, 32, none⟩ (.int .u8 z) = w2 at *
  clear HXOR HSS HFR HI H5 H9 HO5 HO9 HRB HZ HZV HC
  apply bk hK
  · exact hh2
  intro hHeld
  clear hK K hHeld hh2
  refine wpAnyH_done (by kernel_rfl) ?_ _
  have HC7 := Lib.hid (show Calls Tryz.prog 29 #[.int .i64 32, .agg A, .slice (some ⟨ga, 0, none⟩) 1 1] w2 (fun e w' => e = .returned (.int .i64 161) ∧ Below w2.heap.size w2 w') by
    have := acc_any w2 32 (by decide) (by decide) (kX tT) sA ⟨some ⟨r, 0, none⟩, 1, cb⟩ wA wB HAT.out (some ⟨ga, 0, none⟩) 1 1 [7] (r8_one (c := 7) rfl HI2.out.kk) (HT.out.below HI2.out.hb)
    rw [HKX.out.1, ← HAX.out.1] at this
    exact this)
  have HC0 := Lib.hid (fun (x : World) (hx : Below w2.heap.size w2 x) => show Calls Tryz.prog 29 #[.int .i64 32, .agg A, .slice none 0 0] x (fun e w' => e = .returned (.int .i64 160) ∧ Below x.heap.size x w') by
    have := acc_any x 32 (by decide) (by decide) (kX tT) sA ⟨some ⟨r, 0, none⟩, 1, cb⟩ wA wB (HAT.out.below hx) none 0 0 [] ⟨rfl, Nat.le_refl _, by decide, fun i hi => by simp at hi⟩ (HT.out.below (HI2.out.hb.trans (hx.mono HI2.out.hb.size)))
    rw [HKX.out.2, ← HAX.out.1] at this
    exact this)
  go_upto_region 13 with (fail)
  rename_i K12 hK12 Kc hKc
  have HK12 := Lib.hid (fun (a : Act) (x : World) (h : Code.wp Tryz.prog (dropSeq 12 kn0) (bodyPost Tryz.prog Tryz.f20 (KnRet w0)) a x) => hK12 a x h)
  clear hK12
  go_wp2_with (first
    | (refine L_load_arr rfl 35 (.tmp 5) (by rfl) g5 0 (by rfl) A _ (row_range H52.out) Tryz.underlying35 rfl (by rw [HAS.out]; exact info35) ?_)
    | (go_at_call 29; (with_reducible refine HC7.out.mono ?_); rintro e w3 ⟨rfl, hb⟩; have HX3 := Lib.hid hb; have HR3 := Lib.hid (row_range (blk_up H52.out hb)); clear hb)
    | (refine L_load_arrW 35 (.tmp 5) (by rfl) g5 0 (by rfl) A _ HR3.out Tryz.underlying35 rfl (by rw [HAS.out]; exact info35) (by rfl) ?_)
    | (go_at_call 29; (with_reducible refine (HC0.out _ HX3.out).mono ?_); rintro e w4 ⟨rfl, hb⟩; have HX4 := Lib.hid hb; clear hb))
  change K12 _ _
  refine HK12.out _ _ ?_
  have hb4 : Below w2.heap.size w2 w4 := HX3.out.trans (HX4.out.mono HX3.out.size)
  exact kn_e w0 w4 HT.out ga g2 g3 g4 p q (HI2.out.below hb4) g5 g9 A (blk_up H52.out hb4) HAS.out HLL.out.1 HLL.out.2.1 Bx tA tB vA vB (blk_up H92.out hb4) (HO92.out.below hb4) _ _ _ _ _ _ _ _ _ _ _ _ _ _ _ _ _ _ _ _ _ _ _ _ _ _ _ _ _ _ _ _ _ _ _ _ _ _ _ _ _ _ _ _ _ _ _ _ _ _ _ _ _ _ _ _ _ _ _ _ _ _ _ _ _ _ _ _ _ _ _ _ _ _ _ _ _ _ _ _ _ _ _ _ _ _ _ _ _ _ _ _ _ _ _ _ _ _ _ _ _ _ _ _ _ _ _ _ _ _ _ _ _ _ _ _ _ _ _ _ _ _ _ _ _ _ _ _ _ _ _ _ _ _ _ _ _ _ _ _ _ _ _ _ _ _ _ _ _ _ _ _ _ _ _ _ _ _ _ _ _ _ _ _ _ _ _ _ _ _ _ _ _ _ _ _ _ _ _ _ _ _ _ _ _ _ _ _ _ _ _ _ _ _ _ _ _ _ _ _ _
end Go.Proofs.YtoboabkaojfbaaaGreatDoor
namespace Go.Proofs.YtoboabkaojfbaaaGreatDoor
open Go Go.RowKit
set_option maxRecDepth 100000
set_option maxHeartbeats 8000000
set_option linter.unusedVariables false
set_option linter.unusedSimpArgs false
/-! cosign.DecodeFaces: what its first part needs. -/
theorem rBytes_le (k : Nat) (s : Rs) : (rBytes k s).1.length ≤ k := by
  unfold rBytes rRaw
  split
  · simp
  · split
    · simp
    · split
      · simp
      · split
        · simp
        · simp only [ne_eq, not_true_eq_false, if_false]
          simp only [List.length_take]
          omega
theorem decN_v (w : World) (a : Option Addr) (n c : Nat) (raw : List UInt8) (hr : R8 w a n c raw) (hn : n ≤ 1000000000000) :
    Calls Tryz.prog 100 #[.slice a n c] w (fun e w' => ∃ (E : Array Value) (s : S3), e = .returned (.tuple #[.agg E, .int .i64 (if (decN raw).isSome then 0 else 8)]) ∧ E = ntA ((decN raw).getD zNt).head s.v ∧ w'.ownsRow w.heap.size 63 64 s.v s.n (((decN raw).getD zNt).signs.flatMap sgE) ∧ Below w.heap.size w w') := by
  refine (decN_any w a n c raw hr hn).mono ?_
  rintro e w' ⟨s, h1, h2, h3⟩
  exact ⟨_, s, h1, rfl, h2, h3⟩
theorem riseP_le {raw : List UInt8} : ((decN raw).getD zNt).signs.length ≤ 1000 := by
  cases h : decN raw with
  | none => simp [zNt]
  | some x =>
    show x.signs.length ≤ 1000
    cases hh : (rHead (rTake 1 (raw, 0)).2).1 with
    | none => rw [decN_no hh] at h; cases h
    | some hd =>
      rw [decN_some hh] at h
      split at h
      · cases h
      · rename_i h1
        split at h
        · obtain rfl := Option.some.inj h
          show (rSigns _ _).1.length ≤ 1000
          rw [rSigns_len]; omega
        · cases h
theorem built35m (m : Int) : Tryz.prog.built 35 [(2, .int .i64 m)] = some (FB zHd nilS zHd nilS m 0 zDg zDg nilS nilS).toArray := by
  rw [built_fill (z := .agg (FB zHd nilS zHd nilS 0 0 zDg zDg nilS nilS).toArray) (sz := 266) (by' := 400) (places := [(0, 99), (99, 99), (198, 1), (199, 1), (200, 32), (232, 32), (264, 1), (265, 1)]) (by kernel_rfl) (by kernel_rfl) (by kernel_rfl)]
  obtain ⟨A, hA⟩ : ∃ A, A = hdE zHd ++ (nilS :: (hdE zHd ++ (nilS :: []))) := ⟨_, rfl⟩
  obtain ⟨C, hC⟩ : ∃ C, C = (Value.int .i64 0 :: (dgE zDg ++ (dgE zDg ++ (nilS :: (nilS :: []))))) := ⟨_, rfl⟩
  have e0 : FB zHd nilS zHd nilS 0 0 zDg zDg nilS nilS = A ++ ([.int .i64 0] ++ C) := by rw [hA, hC]; simp [FB]
  have e1 : FB zHd nilS zHd nilS m 0 zDg zDg nilS nilS = A ++ ([.int .i64 m] ++ C) := by rw [hA, hC]; simp [FB]
  have h0 := fill_part (([(0, 99), (99, 99), (198, 1), (199, 1), (200, 32), (232, 32), (264, 1), (265, 1)] : List (Nat × Nat)).toArray[·]?) 2 198 (.int .i64 m) [] A [.int .i64 0] C [.int .i64 m] rfl rfl (by rw [hA]; simp [hdE_len]) rfl
  rw [← e0, ← e1] at h0
  exact h0
theorem exec_build35m {ρ : Operand → Value} {o : Oper} {d : Operand} {m : Int} (ho : o.op = .build 35 #[(2, d)]) (hd : ρ d = .int .i64 m) (w : World) : (execOp ρ o).run Tryz.prog w = .ok (.value (.agg (FB zHd nilS zHd nilS m 0 zDg zDg nilS nilS).toArray)) w := by
  have hb : (Instr.build 35 #[(2, .int .i64 m)]).run Tryz.prog w = .ok (.agg (FB zHd nilS zHd nilS m 0 zDg zDg nilS nilS).toArray) w := run_build w 35 #[(2, .int .i64 m)] _ (built35m m)
  unfold execOp
  simp only [ho, List.map_toArray, List.map_cons, List.map_nil, hd, Sem.run_bind, hb, Result.andThen_ok, Sem.run_pure]
end Go.Proofs.YtoboabkaojfbaaaGreatDoor
