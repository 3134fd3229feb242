import Derived.Test.YtoboabkaojfbaaaGreatDoorQ49
import Derived.Test.YtoboabkaojfbaaaGreatDoorQ50
import Derived.Test.YtoboabkaojfbaaaGreatDoorQ36
import Derived.Test.YtoboabkaojfbaaaGreatDoorQ37
namespace Go.Proofs.YtoboabkaojfbaaaGreatDoor
open Go Go.RowKit
set_option maxRecDepth 100000
set_option maxHeartbeats 8000000
set_option linter.unusedVariables false
set_option linter.unusedSimpArgs false
/-! The law's known: written and read back -/

theorem kn_c (w0 w : World) (ht : Tabs w0) (ga g2 g3 g4 p q : Nat) (hI : KnB w0 w ga g2 g3 g4 p q) (g5 Bf : Nat) (sA sB wA wB : S3) (h5 : w.heap[g5]? = some (.cells (fcA kF sA sB wA wB) 35 (0, 0))) (hl5 : w0.heap.size ≤ g5) (hO5 : FcOwn w Bf kF sA sB wA wB) (hBf : w0.heap.size ≤ Bf) (hpB : p < Bf) (hqB : q < Bf) (u0 u7 u8 u9 u10 u11 u12 u13 u14 u15 u16 u17 u18 u19 u20 u21 u22 u23 u24 u25 u26 u27 u28 u29 u30 u31 u32 u33 u34 u35 u36 u37 u38 u39 u40 u41 u42 u43 u44 u45 u46 u47 u48 u49 u50 u51 u52 u53 u54 u55 u56 u57 u58 u59 u60 u61 u62 u63 u64 u65 u66 u67 u68 u69 u70 u71 u72 u73 u74 u75 u76 u77 u78 u79 u80 u81 u82 u83 u84 u85 u86 u87 u88 u89 u90 u91 u92 u93 u94 u95 u96 u97 u98 u99 u100 u101 u102 u103 u104 u105 u106 u107 u108 u109 u110 u111 u112 u113 u114 u115 u116 u117 u118 u119 u120 u121 u122 u123 u124 u125 u126 u127 u128 u129 u130 u131 u132 u133 u134 u135 u136 u137 u138 u139 u140 u141 u142 u143 u144 u145 u146 u147 u148 u149 u150 u151 u152 u153 u154 u155 u156 u157 u158 u159 u160 u161 u162 u163 u164 u165 u166 u167 u168 u169 u170 u171 u172 u173 u174 u175 u176 u177 u178 u179 u180 u181 u182 u183 u184 u185 u186 u187 u188 u189 u190 u191 u192 u193 u194 u195 u196 u197 u198 u199 u200 u201 u202 u203 u204 u205 u206 : Value) :
    Code.wp Tryz.prog (dropSeq 7 kn0) (bodyPost Tryz.prog Tryz.f20 (KnRet w0)) ⟨#[u0, .slice (some ⟨ga, 0, none⟩) 1 1, .pointer (some ⟨g2, 0, none⟩), .pointer (some ⟨g3, 0, none⟩), .pointer (some ⟨g4, 0, none⟩), .pointer (some ⟨g5, 0, none⟩), .int .i64 0, u7, u8, u9, u10, u11, u12, u13, u14, u15, u16, u17, u18, u19, u20, u21, u22, u23, u24, u25, u26, u27, u28, u29, u30, u31, u32, u33, u34, u35, u36, u37, u38, u39, u40, u41, u42, u43, u44, u45, u46, u47, u48, u49, u50, u51, u52, u53, u54, u55, u56, u57, u58, u59, u60, u61, u62, u63, u64, u65, u66, u67, u68, u69, u70, u71, u72, u73, u74, u75, u76, u77, u78, u79, u80, u81, u82, u83, u84, u85, u86, u87, u88, u89, u90, u91, u92, u93, u94, u95, u96, u97, u98, u99, u100, u101, u102, u103, u104, u105, u106, u107, u108, u109, u110, u111, u112, u113, u114, u115, u116, u117, u118, u119, u120, u121, u122, u123, u124, u125, u126, u127, u128, u129, u130, u131, u132, u133, u134, u135, u136, u137, u138, u139, u140, u141, u142, u143, u144, u145, u146, u147, u148, u149, u150, u151, u152, u153, u154, u155, u156, u157, u158, u159, u160, u161, u162, u163, u164, u165, u166, u167, u168, u169, u170, u171, u172, u173, u174, u175, u176, u177, u178, u179, u180, u181, u182, u183, u184, u185, u186, u187, u188, u189, u190, u191, u192, u193, u194, u195, u196, u197, u198, u199, u200, u201, u202, u203, u204, u205, u206], []⟩ w := by
  obtain ⟨A, hA⟩ : ∃ A, A = fcA kF sA sB wA wB := ⟨_, rfl⟩
  have HA := Lib.hid (show A = fcA kF sA sB wA wB ∧ A.size = 266 from ⟨hA, by rw [hA]; exact fcA_size _ _ _ _ _⟩)
  rw [← hA] at h5
  have HI := Lib.hid hI; have H5 := Lib.hid h5; have HO5 := Lib.hid hO5; have HT := Lib.hid ht
  have HL := Lib.hid (show w0.heap.size ≤ g5 ∧ w0.heap.size ≤ Bf ∧ p < Bf ∧ q < Bf from ⟨hl5, hBf, hpB, hqB⟩)
  have HEF := Lib.hid (show Calls Tryz.prog 22 #[.agg A] w (fun e w' => ∃ b c, e = .returned (.tuple #[.slice (some ⟨b, 0, none⟩) 368 c, .int .i64 0]) ∧ R8 w' (some ⟨b, 0, none⟩) 368 c (encF kF) ∧ Below w.heap.size w w') by
    rw [hA]
    refine (encF_any w kF sA sB wA wB (at_small hO5 k_formed) (ht.below hI.hb)).mono ?_
    rintro e w' ⟨a, n, c, h1, h2, h3⟩
    rw [k_formed, if_pos rfl] at h1 h2
    have hn : n = 368 := by have := h2.1; rw [List.length_map, k_enc.1] at this; omega
    subst hn
    obtain ⟨a', c', hv, hq⟩ := owns_shape h2
    obtain ⟨rfl, -, rfl⟩ := Value.slice.inj hv
    obtain ⟨g, e1, -⟩ := hq (by decide)
    subst e1
    exact ⟨g, c, h1, R8.of_own8 h2 (by rw [k_enc.1]; decide), h3⟩)
  clear hA hI h5 hl5 hO5 hBf hpB hqB ht
  conv => arg 2; whnf
  go_upto_region 9 with (first
    | (refine L_load_arr rfl 35 (.tmp 5) (by rfl) g5 0 (by rfl) A _ (row_range H5.out) Tryz.underlying35 rfl (by rw [HA.out.2]; exact info35) ?_)
    | (go_at_call 22; (with_reducible refine HEF.out.mono ?_); rintro e w1 ⟨b, c, rfl, hr, hb⟩; have HX1 := Lib.hid hb; have HR := Lib.hid hr; clear hb hr))
  have HI1 := Lib.hid (HI.out.below HX1.out)
  have HDF := Lib.hid (show Calls Tryz.prog 39 #[.slice (some ⟨b, 0, none⟩) 368 c] w1 (fun e w' => ∃ (tA tB vA vB : S3) (D : Array Value), e = .returned (.tuple #[.agg D, .int .i64 0]) ∧ (D = fcA kF tA tB vA vB ∧ D.size = 266 ∧ D.all (·.oneCell') = true) ∧ FcOwn w' w1.heap.size kF tA tB vA vB ∧ Below w1.heap.size w1 w') by
    refine (decF_any w1 _ _ _ _ HR.out (by decide) (HT.out.below HI1.out.hb)).mono ?_
    rintro e w' ⟨tA, tB, vA, vB, h1, h2, h3⟩
    rw [enc_dec kF k_formed] at h1 h2
    rw [k_enc.1] at h1
    exact ⟨tA, tB, vA, vB, _, h1, ⟨rfl, fcA_size _ _ _ _ _, fcA_one _ _ _ _ _⟩, h2, h3⟩)
  go_upto_region 10 with (first
    | (go_at_call 39; (with_reducible refine HDF.out.mono ?_); rintro e w2 ⟨tA, tB, vA, vB, D, rfl, hD, ho, hb⟩; have HX2 := Lib.hid hb; have HD := Lib.hid hD; have HO9 := Lib.hid ho; clear hb hD ho)
    | (refine L_valueU rfl (exec_al35 (by rfl) _) ?_)
    | (refine L_storeF rfl 35 (.tmp 9) (.tmp 74) (by rfl) _ zc35 D (by rfl) (by rfl) (by rw [HD.out.2.1]; rfl) (by rw [HD.out.2.1]; exact info35) HD.out.2.2 ?_))
  rename_i K10 hK10 Kc hKc
  have HK10 := Lib.hid (fun (a : Act) (x : World) (h : Code.wp Tryz.prog (dropSeq 10 kn0) (bodyPost Tryz.prog Tryz.f20 (KnRet w0)) a x) => hK10 a x h)
  clear hK10
  obtain ⟨g9, hg9⟩ : ∃ g, g = w2.heap.size := ⟨_, rfl⟩
  have HX3 := Lib.hid (HX2.out.trans ((below_new w2 D 35).mono HX2.out.size))
  have HQ9 := Lib.hid (show (w2.alloc (.cells D 35)).heap[g9]? = some (.cells D 35 (0, 0)) by rw [hg9]; exact box_new w2 D 35)
  have HO9b := Lib.hid (HO9.out.below (below_new w2 D 35))
  have H59 := Lib.hid (show g9 ≠ g5 by have := (Array.getElem?_eq_some_iff.1 H5.out).1; have := HX1.out.size; have := HX2.out.size; omega)
  rw [← hg9]
  clear hg9
  generalize w2.alloc (.cells D 35) = w3 at *
  have hx13 := HX1.out.trans (HX3.out.mono HX1.out.size)
  have HX13 := Lib.hid hx13
  have H53 := Lib.hid (blk_up H5.out hx13)
  have HR3 := Lib.hid (HR.out.below HX3.out)
  have hk (i : Nat) (v : UInt8) (hv : (encF kF)[i]? = some v) (hi : i < 368) : w3.cell? ⟨b, i, none⟩ = some (.int .u8 (v.toNat : Int)) := by
    obtain ⟨b', o', c', e1, e2, e3⟩ := HR3.out.at hi
    obtain ⟨rfl, rfl⟩ : b = b' ∧ 0 = o' := by have := Option.some.inj e1; exact ⟨congrArg Addr.block this, congrArg Addr.off this⟩
    rw [hv] at e2
    rw [Nat.zero_add] at e3
    rw [e3, ← Option.some.inj e2]
  have k0 : w3.cell? ⟨b, 0, none⟩ = some (.int .u8 52) := hk 0 52 k_enc.2.1 (by decide)
  have k1 : w3.cell? ⟨b, 1, none⟩ = some (.int .u8 2) := hk 1 2 k_enc.2.2.1 (by decide)
  have k5 : w3.cell? ⟨b, 5, none⟩ = some (.int .u8 179) := hk 5 179 k_enc.2.2.2 (by decide)
  have HSF := Lib.hid (show Calls Tryz.prog 16 #[.agg D, .agg A] w3 (fun e w' => e = .returned (.bool true) ∧ Below w3.heap.size w3 w') by
    rw [HD.out.1, HA.out.1]
    have := sameFc_any w3 kF kF tA tB vA vB sA sB wA wB (at_small HO9b.out k_formed) (at_small (HO5.out.below HX13.out) k_formed)
    rwa [decide_eq_true rfl] at this)
  clear hk hx13
  go_wp2_with (first
    | (refine L_load_arrW 35 (.tmp 9) (by rfl) g9 0 (by rfl) D _ (row_range HQ9.out) Tryz.underlying35 rfl (by rw [HD.out.2.1]; exact info35) (by rfl) ?_)
    | (refine L_load_arrW 35 (.tmp 5) (by rfl) g5 0 (by rfl) A _ (row_range H53.out) Tryz.underlying35 rfl (by rw [HA.out.2]; exact info35) (by rfl) ?_)
    | (go_at_call 16; (with_reducible refine HSF.out.mono ?_); rintro e w4 ⟨rfl, hb⟩; have HX4 := Lib.hid hb; clear hb))
  change K10 _ _
  refine HK10.out _ _ ?_
  have hb4 := HX13.out.trans (HX4.out.mono HX13.out.size)
  refine kn_d w0 w4 HT.out ga g2 g3 g4 p q (HI.out.below hb4) g5 g9 Bf w1.heap.size sA sB wA wB tA tB vA vB (by rw [← HA.out.1]; exact blk_up H53.out HX4.out) HL.out.1 H59.out (HO5.out.below hb4) HL.out.2.1 HL.out.2.2.1 HL.out.2.2.2 (by rw [← HD.out.1]; exact blk_up HQ9.out HX4.out) (HO9b.out.below HX4.out) ?_ _ _ _ _ _ _ _ _ _ _ _ _ _ _ _ _ _ _ _ _ _ _ _ _ _ _ _ _ _ _ _ _ _ _ _ _ _ _ _ _ _ _ _ _ _ _ _ _ _ _ _ _ _ _ _ _ _ _ _ _ _ _ _ _ _ _ _ _ _ _ _ _ _ _ _ _ _ _ _ _ _ _ _ _ _ _ _ _ _ _ _ _ _ _ _ _ _ _ _ _ _ _ _ _ _ _ _ _ _ _ _ _ _ _ _ _ _ _ _ _ _ _ _ _ _ _ _ _ _ _ _ _ _ _ _ _ _ _ _ _ _ _ _ _ _ _ _ _ _ _ _ _ _ _ _ _ _ _ _ _ _ _ _ _ _ _ _ _ _ _ _ _ _ _ _ _ _ _ _ _ _ _ _ _ _ _ _ _ _ _ _ _ _ _ _ _ _ _ _ _ _
  intro k hk
  have := (HO5.out.b.lt k hk).2
  have := HX1.out.size
  omega
end Go.Proofs.YtoboabkaojfbaaaGreatDoor
namespace Go.Proofs.YtoboabkaojfbaaaGreatDoor
open Go Go.RowKit
set_option maxRecDepth 100000
set_option maxHeartbeats 8000000
set_option linter.unusedVariables false
set_option linter.unusedSimpArgs false
/-! The law's known: the proof made -/

theorem kn_b (w0 w : World) (ht : Tabs w0) (ga g2 g3 g4 p q : Nat) (hI : KnB w0 w ga g2 g3 g4 p q) (u0 u5 u6 u7 u8 u9 u10 u11 u12 u13 u14 u15 u16 u17 u18 u19 u20 u21 u22 u23 u24 u25 u26 u27 u28 u29 u30 u31 u32 u33 u34 u35 u36 u37 u38 u39 u40 u41 u42 u43 u44 u45 u46 u47 u48 u49 u50 u51 u52 u53 u54 u55 u56 u57 u58 u59 u60 u61 u62 u63 u64 u65 u66 u67 u68 u69 u70 u71 u72 u73 u74 u75 u76 u77 u78 u79 u80 u81 u82 u83 u84 u85 u86 u87 u88 u89 u90 u91 u92 u93 u94 u95 u96 u97 u98 u99 u100 u101 u102 u103 u104 u105 u106 u107 u108 u109 u110 u111 u112 u113 u114 u115 u116 u117 u118 u119 u120 u121 u122 u123 u124 u125 u126 u127 u128 u129 u130 u131 u132 u133 u134 u135 u136 u137 u138 u139 u140 u141 u142 u143 u144 u145 u146 u147 u148 u149 u150 u151 u152 u153 u154 u155 u156 u157 u158 u159 u160 u161 u162 u163 u164 u165 u166 u167 u168 u169 u170 u171 u172 u173 u174 u175 u176 u177 u178 u179 u180 u181 u182 u183 u184 u185 u186 u187 u188 u189 u190 u191 u192 u193 u194 u195 u196 u197 u198 u199 u200 u201 u202 u203 u204 u205 u206 : Value) :
    Code.wp Tryz.prog (dropSeq 5 kn0) (bodyPost Tryz.prog Tryz.f20 (KnRet w0)) ⟨#[u0, .slice (some ⟨ga, 0, none⟩) 1 1, .pointer (some ⟨g2, 0, none⟩), .pointer (some ⟨g3, 0, none⟩), .pointer (some ⟨g4, 0, none⟩), u5, u6, u7, u8, u9, u10, u11, u12, u13, u14, u15, u16, u17, u18, u19, u20, u21, u22, u23, u24, u25, u26, u27, u28, u29, u30, u31, u32, u33, u34, u35, u36, u37, u38, u39, u40, u41, u42, u43, u44, u45, u46, u47, u48, u49, u50, u51, u52, u53, u54, u55, u56, u57, u58, u59, u60, u61, u62, u63, u64, u65, u66, u67, u68, u69, u70, u71, u72, u73, u74, u75, u76, u77, u78, u79, u80, u81, u82, u83, u84, u85, u86, u87, u88, u89, u90, u91, u92, u93, u94, u95, u96, u97, u98, u99, u100, u101, u102, u103, u104, u105, u106, u107, u108, u109, u110, u111, u112, u113, u114, u115, u116, u117, u118, u119, u120, u121, u122, u123, u124, u125, u126, u127, u128, u129, u130, u131, u132, u133, u134, u135, u136, u137, u138, u139, u140, u141, u142, u143, u144, u145, u146, u147, u148, u149, u150, u151, u152, u153, u154, u155, u156, u157, u158, u159, u160, u161, u162, u163, u164, u165, u166, u167, u168, u169, u170, u171, u172, u173, u174, u175, u176, u177, u178, u179, u180, u181, u182, u183, u184, u185, u186, u187, u188, u189, u190, u191, u192, u193, u194, u195, u196, u197, u198, u199, u200, u201, u202, u203, u204, u205, u206], []⟩ w := by
  obtain ⟨NA, hNA⟩ : ∃ A, A = ntA kA (.slice (some ⟨p, 0, none⟩) 1 1) := ⟨_, rfl⟩
  obtain ⟨NB, hNB⟩ : ∃ A, A = ntA kB (.slice (some ⟨q, 0, none⟩) 1 1) := ⟨_, rfl⟩
  obtain ⟨KK, hKK⟩ : ∃ A, A = dgA (idP [7]).1 := ⟨_, rfl⟩
  obtain ⟨L3, hL3⟩ : ∃ A, A = lvA ⟨3, zD, zD, [], []⟩ ⟨none, 0, 0⟩ ⟨none, 0, 0⟩ := ⟨_, rfl⟩
  have HS := Lib.hid (show NA.size = 99 ∧ NB.size = 99 ∧ KK.size = 32 by rw [hNA, hNB, hKK]; exact ⟨ntA_size _ _, ntA_size _ _, by rw [dgA_size, (idP [7]).2]⟩)
  have HF := Lib.hid (show Calls Tryz.prog 14 #[.int .i64 32, .agg NB, .agg NA, .agg KK, .agg L3] w (fun en w' => ∃ (sA sB wA wB : S3) (A : Array Value), en = .returned (.tuple #[.agg A, .int .i64 0]) ∧ (A = fcA kF sA sB wA wB ∧ A.size = 266 ∧ A.all (·.oneCell') = true) ∧ FcOwn w' w.heap.size kF sA sB wA wB ∧ Below w.heap.size w w') from
    faces_n w kNb kNa _ _ _ _ _ _ (rs_one hI.sb) (rs_one hI.sa) (idP [7]) 3 (ht.below hI.hb) kF 0 k_faces NB NA KK L3 hNB hNA hKK hL3)
  have HLZ := Lib.hid (fun (ρ : Operand → Value) (o : Oper) (ho : o.op = .build 31 #[(0, .const (.int .i64 3))]) (hc : ρ (.const (.int .i64 3)) = .int .i64 3) (w : World) => show (execOp ρ o).run Tryz.prog w = .ok (.value (.agg L3)) w by rw [hL3]; exact exec_build31q ho hc w)
  have HR := Lib.hid (show w.rangeAt g2 0 NA.toList ∧ w.rangeAt g3 0 NB.toList ∧ w.rangeAt g4 0 KK.toList by rw [hNA, hNB, hKK]; exact ⟨row_range hI.b2, row_range hI.b3, row_range hI.b4⟩)
  have HPQ := Lib.hid (show p < w.heap.size ∧ q < w.heap.size from ⟨(Array.getElem?_eq_some_iff.1 hI.sa).1, (Array.getElem?_eq_some_iff.1 hI.sb).1⟩)
  have HI := Lib.hid hI; have HT := Lib.hid ht
  clear hNA hNB hKK hL3 hI ht
  conv => arg 2; whnf
  go_upto_region 6 with (first
    | (refine L_load_arr rfl 28 (.tmp 3) (by rfl) g3 0 (by rfl) NB _ HR.out.2.1 Tryz.underlying28 rfl (by rw [HS.out.2.1]; exact info28) ?_)
    | (refine L_load_arr rfl 28 (.tmp 2) (by rfl) g2 0 (by rfl) NA _ HR.out.1 Tryz.underlying28 rfl (by rw [HS.out.1]; exact info28) ?_)
    | (refine L_load_arr rfl 23 (.tmp 4) (by rfl) g4 0 (by rfl) KK _ HR.out.2.2 Tryz.underlying23 rfl (by rw [HS.out.2.2]; exact info38) ?_)
    | (refine L_value rfl (HLZ.out _ _ (by rfl) (by rfl) _) ?_)
    | (go_at_call 14; (with_reducible refine HF.out.mono ?_); rintro en w1 ⟨sA, sB, wA, wB, A, rfl, hA, ho, hb⟩; have HX1 := Lib.hid hb; have HA := Lib.hid hA; have HO1 := Lib.hid ho; clear hb hA ho)
    | (refine L_valueU rfl (exec_al35 (by rfl) _) ?_)
    | (refine L_storeF rfl 35 (.tmp 5) (.tmp 33) (by rfl) _ zc35 A (by rfl) (by rfl) (by rw [HA.out.2.1]; rfl) (by rw [HA.out.2.1]; exact info35) HA.out.2.2 ?_))
  rename_i K7 hK7 Kc hKc
  have HK7 := Lib.hid (fun (a : Act) (x : World) (h : Code.wp Tryz.prog (dropSeq 7 kn0) (bodyPost Tryz.prog Tryz.f20 (KnRet w0)) a x) => hK7 a x h)
  clear hK7
  obtain ⟨g5, hg5⟩ : ∃ g, g = w1.heap.size := ⟨_, rfl⟩
  have HX2 := Lib.hid (HX1.out.trans ((below_new w1 A 35).mono HX1.out.size))
  have HQ5 := Lib.hid (show (w1.alloc (.cells A 35)).heap[g5]? = some (.cells A 35 (0, 0)) by rw [hg5]; exact box_new w1 A 35)
  have HO5 := Lib.hid (HO1.out.below (below_new w1 A 35))
  have HL5 := Lib.hid (show w0.heap.size ≤ g5 ∧ w0.heap.size ≤ w.heap.size by have := HX1.out.size; have := HI.out.hb.size; omega)
  rw [← hg5]
  clear hg5
  generalize w1.alloc (.cells A 35) = w2 at *
  have HI2 := Lib.hid (HI.out.below HX2.out)
  have hq5 : w2.heap[g5]? = some (.cells (fcA kF sA sB wA wB) 35 (0, 0)) := by rw [← HA.out.1]; exact HQ5.out
  have k198 : w2.cell? ⟨g5, 198, none⟩ = some (.int .i64 2) := FB.c_fm hq5
  have k32 : w2.cell? ⟨g5, 32, none⟩ = some (.int .i64 5) := FB.c_sizeA hq5
  have k199 : w2.cell? ⟨g5, 199, none⟩ = some (.int .i64 0) := FB.c_nu hq5
  have HAC := Lib.hid (fun (x : World) (hx : Below w2.heap.size w2 x) (k : UInt8) (g : Nat) (hg : x.heap[g]? = some (.cells #[b8 k] 5 (0, 0))) => show Calls Tryz.prog 29 #[.int .i64 32, .agg A, .slice (some ⟨g, 0, none⟩) 1 1] x (fun e w' => e = .returned (.int .i64 ((accP 32 kF [k] : Nat) : Int)) ∧ Below x.heap.size x w') by
    rw [HA.out.1]
    exact acc_any x 32 (by decide) (by decide) kF sA sB wA wB (at_small (HO5.out.below hx) k_formed) (some ⟨g, 0, none⟩) 1 1 [k] (r8_one (c := k) rfl hg) (HT.out.below (HI2.out.hb.trans (hx.mono HI2.out.hb.size))))
  have HC7 := Lib.hid (show Calls Tryz.prog 29 #[.int .i64 32, .agg A, .slice (some ⟨ga, 0, none⟩) 1 1] w2 (fun e w' => e = .returned (.int .i64 0) ∧ Below w2.heap.size w2 w') by
    have := HAC.out w2 (Below.refl _ _) 7 ga HI2.out.kk
    rwa [k_acc] at this)
  have HC8 := Lib.hid (fun (x : World) (hx : Below w2.heap.size w2 x) => show Calls Tryz.prog 29 #[.int .i64 32, .agg A, .slice (some ⟨x.heap.size, 0, none⟩) 1 1] (x.alloc (.cells #[.int .u8 8] 5)) (fun e w' => e = .returned (.int .i64 160) ∧ Below w2.heap.size w2 w') by
    have hn := below_new x #[.int .u8 8] 5
    have h2 := hx.trans (hn.mono hx.size)
    have := HAC.out (x.alloc (.cells #[.int .u8 8] 5)) h2 8 x.heap.size (box_new x _ 5)
    rw [k_acc8] at this
    refine this.mono ?_
    rintro e w' ⟨h3, h4⟩
    exact ⟨h3, h2.trans (h4.mono h2.size)⟩)
  clear hq5
  go_wp2_with (first
    | (refine L_load_arrW 35 (.tmp 5) (by rfl) g5 0 (by rfl) A _ (row_range HQ5.out) Tryz.underlying35 rfl (by rw [HA.out.2.1]; exact info35) (by rfl) ?_)
    | (go_at_call 29; (with_reducible refine HC7.out.mono ?_); rintro e w3 ⟨rfl, hb⟩; have HX3 := Lib.hid hb; have HR3 := Lib.hid (row_range (blk_up HQ5.out hb)); have HC8b := Lib.hid (HC8.out _ hb); clear hb)
    | (refine L_load_arrW 35 (.tmp 5) (by rfl) g5 0 (by rfl) A _ HR3.out Tryz.underlying35 rfl (by rw [HA.out.2.1]; exact info35) (by rfl) ?_)
    | (go_at_call 29; (with_reducible refine HC8b.out.mono ?_); rintro e w4 ⟨rfl, hb⟩; have HX4 := Lib.hid hb; clear hb))
  change K7 _ _
  refine HK7.out _ _ ?_
  exact kn_c w0 w4 HT.out ga g2 g3 g4 p q (HI2.out.below HX4.out) g5 w.heap.size sA sB wA wB (by rw [← HA.out.1]; exact blk_up HQ5.out HX4.out) HL5.out.1 (HO5.out.below HX4.out) HL5.out.2 HPQ.out.1 HPQ.out.2 _ _ _ _ _ _ _ _ _ _ _ _ _ _ _ _ _ _ _ _ _ _ _ _ _ _ _ _ _ _ _ _ _ _ _ _ _ _ _ _ _ _ _ _ _ _ _ _ _ _ _ _ _ _ _ _ _ _ _ _ _ _ _ _ _ _ _ _ _ _ _ _ _ _ _ _ _ _ _ _ _ _ _ _ _ _ _ _ _ _ _ _ _ _ _ _ _ _ _ _ _ _ _ _ _ _ _ _ _ _ _ _ _ _ _ _ _ _ _ _ _ _ _ _ _ _ _ _ _ _ _ _ _ _ _ _ _ _ _ _ _ _ _ _ _ _ _ _ _ _ _ _ _ _ _ _ _ _ _ _ _ _ _ _ _ _ _ _ _ _ _ _ _ _ _ _ _ _ _ _ _ _ _ _ _ _ _ _ _ _ _ _ _ _ _ _ _ _ _ _ _
end Go.Proofs.YtoboabkaojfbaaaGreatDoor
namespace Go.Proofs.YtoboabkaojfbaaaGreatDoor
open Go Go.RowKit
set_option maxRecDepth 100000
set_option maxHeartbeats 8000000
set_option linter.unusedVariables false
set_option linter.unusedSimpArgs false
/-! The law's known -/

theorem signR_A : signR kA [7] = signP kA [7] := by unfold signR; rw [if_pos (by decide)]
theorem signR_B : signR kB [7] = signP kB [7] := by unfold signR; rw [if_pos (by decide)]
theorem exec_kA {ρ : Operand → Value} {o : Oper} (ho : o.op = .build 25 #[(1, .const (.int .i64 5)), (4, .const (.int .i64 9))]) (h1 : ρ (.const (.int .i64 5)) = .int .i64 5) (h2 : ρ (.const (.int .i64 9)) = .int .i64 9) (w : World) : (execOp ρ o).run Tryz.prog w = .ok (.value (.agg (hdA kA))) w := by
  have hb : (Instr.build 25 #[(1, .int .i64 5), (4, .int .i64 9)]).run Tryz.prog w = .ok (.agg (hdA kA)) w := run_build w 25 #[(1, .int .i64 5), (4, .int .i64 9)] _ (by kernel_rfl)
  unfold execOp
  simp only [ho, List.map_toArray, List.map_cons, List.map_nil, h1, h2, Sem.run_bind, hb, Result.andThen_ok, Sem.run_pure]
theorem exec_kB {ρ : Operand → Value} {o : Oper} (ho : o.op = .build 25 #[(1, .const (.int .i64 6)), (4, .const (.int .i64 8))]) (h1 : ρ (.const (.int .i64 6)) = .int .i64 6) (h2 : ρ (.const (.int .i64 8)) = .int .i64 8) (w : World) : (execOp ρ o).run Tryz.prog w = .ok (.value (.agg (hdA kB))) w := by
  have hb : (Instr.build 25 #[(1, .int .i64 6), (4, .int .i64 8)]).run Tryz.prog w = .ok (.agg (hdA kB)) w := run_build w 25 #[(1, .int .i64 6), (4, .int .i64 8)] _ (by kernel_rfl)
  unfold execOp
  simp only [ho, List.map_toArray, List.map_cons, List.map_nil, h1, h2, Sem.run_bind, hb, Result.andThen_ok, Sem.run_pure]
theorem known_any (w : World) (ht : Tabs w) : Calls Tryz.prog 20 #[] w (KnRet w) := by
  obtain ⟨HA, hHA⟩ : ∃ A, A = hdA kA := ⟨_, rfl⟩
  obtain ⟨HB, hHB⟩ : ∃ A, A = hdA kB := ⟨_, rfl⟩
  have HEA := Lib.hid (fun (ρ : Operand → Value) (o : Oper) (ho : o.op = .build 25 #[(1, .const (.int .i64 5)), (4, .const (.int .i64 9))]) (h1 : ρ (.const (.int .i64 5)) = .int .i64 5) (h2 : ρ (.const (.int .i64 9)) = .int .i64 9) (w : World) => show (execOp ρ o).run Tryz.prog w = .ok (.value (.agg HA)) w by rw [hHA]; exact exec_kA ho h1 h2 w)
  have HEB := Lib.hid (fun (ρ : Operand → Value) (o : Oper) (ho : o.op = .build 25 #[(1, .const (.int .i64 6)), (4, .const (.int .i64 8))]) (h1 : ρ (.const (.int .i64 6)) = .int .i64 6) (h2 : ρ (.const (.int .i64 8)) = .int .i64 8) (w : World) => show (execOp ρ o).run Tryz.prog w = .ok (.value (.agg HB)) w by rw [hHB]; exact exec_kB ho h1 h2 w)
  have HSA := Lib.hid (fun (x : World) (hx : Below w.heap.size w x) (g : Nat) (hg : x.heap[g]? = some (.cells #[.int .u8 7] 5 (0, 0))) => show Calls Tryz.prog 73 #[.agg HA, .slice (some ⟨g, 0, none⟩) 1 1] x (fun e w' => ∃ (p : Nat) (D : Array Value), e = .returned (.agg D) ∧ (D = ntA kA (.slice (some ⟨p, 0, none⟩) 1 1) ∧ D.size = 99 ∧ D.all (·.oneCell') = true) ∧ w'.heap[p]? = some (.cells (sgA (signP kA [7])) 63 (0, 0)) ∧ Below x.heap.size x w') by
    have hT := ht.below hx
    rw [hHA]
    refine (signedL_any x kA _ 1 1 [7] (r8_one (c := 7) rfl hg) hT.2.1 (by have := hT.1; omega)).mono ?_
    rintro e w' ⟨p, h1, h2, h3, h4⟩
    rw [signR_A] at h2
    exact ⟨p, _, h1, ⟨rfl, ntA_size _ _, ntA_one _ _ rfl⟩, h2, h4⟩)
  have HSB := Lib.hid (fun (x : World) (hx : Below w.heap.size w x) (g : Nat) (hg : x.heap[g]? = some (.cells #[.int .u8 7] 5 (0, 0))) => show Calls Tryz.prog 73 #[.agg HB, .slice (some ⟨g, 0, none⟩) 1 1] x (fun e w' => ∃ (p : Nat) (D : Array Value), e = .returned (.agg D) ∧ (D = ntA kB (.slice (some ⟨p, 0, none⟩) 1 1) ∧ D.size = 99 ∧ D.all (·.oneCell') = true) ∧ w'.heap[p]? = some (.cells (sgA (signP kB [7])) 63 (0, 0)) ∧ Below x.heap.size x w') by
    have hT := ht.below hx
    rw [hHB]
    refine (signedL_any x kB _ 1 1 [7] (r8_one (c := 7) rfl hg) hT.2.1 (by have := hT.1; omega)).mono ?_
    rintro e w' ⟨p, h1, h2, h3, h4⟩
    rw [signR_B] at h2
    exact ⟨p, _, h1, ⟨rfl, ntA_size _ _, ntA_one _ _ rfl⟩, h2, h4⟩)
  have HT := Lib.hid ht
  clear hHA hHB ht
  go_enter Tryz.func20, Tryz.ntmps20
  go_upto_region 2 with (fail)
  obtain ⟨ga, hga⟩ : ∃ g, g = w.heap.size := ⟨_, rfl⟩
  have HB1 := Lib.hid (below_new w #[.int .u8 7] 5)
  have HK1 := Lib.hid (show (w.alloc (.cells #[.int .u8 7] 5)).heap[ga]? = some (.cells #[.int .u8 7] 5 (0, 0)) by rw [hga]; exact box_new w _ _)
  rw [← hga]
  clear hga
  generalize w.alloc (.cells #[.int .u8 7] 5) = w1 at *
  go_upto_region 3 with (first
    | (refine L_value rfl (HEA.out _ _ (by rfl) (by rfl) (by rfl) _) ?_)
    | (go_at_call 73; (with_reducible refine (HSA.out _ HB1.out _ HK1.out).mono ?_); rintro e w2 ⟨p, NA, rfl, hN, hp, hb⟩; have HX2 := Lib.hid hb; have HNA := Lib.hid hN; have HP2 := Lib.hid hp; clear hb hN hp)
    | (refine L_valueU rfl (exec_al28 (by rfl) _) ?_)
    | (refine L_storeF rfl 28 (.tmp 2) (.tmp 18) (by rfl) _ zc28 NA (by rfl) (by rfl) (by rw [HNA.out.2.1]; rfl) (by rw [HNA.out.2.1]; exact info28) HNA.out.2.2 ?_))
  obtain ⟨g2, hg2⟩ : ∃ g, g = w2.heap.size := ⟨_, rfl⟩
  have hn2 := below_new w2 NA 28
  have HX3 := Lib.hid (HX2.out.trans (hn2.mono HX2.out.size))
  have HQ2 := Lib.hid (show (w2.alloc (.cells NA 28)).heap[g2]? = some (.cells NA 28 (0, 0)) by rw [hg2]; exact box_new w2 NA 28)
  have HP3 := Lib.hid (blk_up HP2.out hn2)
  rw [← hg2]
  clear hg2 hn2
  generalize w2.alloc (.cells NA 28) = w3 at *
  have HB3 := Lib.hid (HB1.out.trans (HX3.out.mono HB1.out.size))
  have HK3 := Lib.hid (blk_up HK1.out HX3.out)
  go_upto_region 4 with (first
    | (refine L_value rfl (HEB.out _ _ (by rfl) (by rfl) (by rfl) _) ?_)
    | (go_at_call 73; (with_reducible refine (HSB.out _ HB3.out _ HK3.out).mono ?_); rintro e w4 ⟨q, NB, rfl, hN, hp, hb⟩; have HX4 := Lib.hid hb; have HNB := Lib.hid hN; have HP4 := Lib.hid hp; clear hb hN hp)
    | (refine L_valueU rfl (exec_al28 (by rfl) _) ?_)
    | (refine L_storeF rfl 28 (.tmp 3) (.tmp 21) (by rfl) _ zc28 NB (by rfl) (by rfl) (by rw [HNB.out.2.1]; rfl) (by rw [HNB.out.2.1]; exact info28) HNB.out.2.2 ?_))
  obtain ⟨g3, hg3⟩ : ∃ g, g = w4.heap.size := ⟨_, rfl⟩
  have hn4 := below_new w4 NB 28
  have HX5 := Lib.hid (HX4.out.trans (hn4.mono HX4.out.size))
  have HQ3 := Lib.hid (show (w4.alloc (.cells NB 28)).heap[g3]? = some (.cells NB 28 (0, 0)) by rw [hg3]; exact box_new w4 NB 28)
  have HP5 := Lib.hid (blk_up HP4.out hn4)
  rw [← hg3]
  clear hg3 hn4
  generalize w4.alloc (.cells NB 28) = w5 at *
  have HB5 := Lib.hid (HB3.out.trans (HX5.out.mono HB3.out.size))
  have HQ25 := Lib.hid (blk_up HQ2.out HX5.out)
  have HPA5 := Lib.hid (blk_up HP3.out HX5.out)
  have HK5b := Lib.hid (blk_up HK3.out HX5.out)
  have k98 : w5.cell? ⟨g2, 98, none⟩ = some (.slice (some ⟨p, 0, none⟩) 1 1) := by have := HQ25.out; rw [HNA.out.1] at this; exact nt_signs this
  obtain ⟨KK, hKK⟩ : ∃ A, A = dgA (idP [7]).1 := ⟨_, rfl⟩
  have HKK := Lib.hid (show KK = dgA (idP [7]).1 ∧ KK.size = 32 ∧ KK.all (·.oneCell') = true from ⟨hKK, by rw [hKK, dgA_size, (idP [7]).2], by rw [hKK]; exact dgA_all _⟩)
  have HRK := Lib.hid (show w5.rangeAt p 0 KK.toList by rw [hKK]; exact sg_key_range (x := signP kA [7]) HPA5.out)
  clear hKK
  rename_i K5 hK5
  have HK5 := Lib.hid (fun (a : Act) (x : World) (h : Code.wp Tryz.prog (dropSeq 5 kn0) (bodyPost Tryz.prog Tryz.f20 (KnRet w)) a x) => hK5 a x h)
  clear hK5
  go_wp2_with (first
    | (refine L_load_arr rfl 23 (.tmp 25) (by rfl) p 0 (by rfl) KK _ HRK.out Tryz.underlying23 rfl (by rw [HKK.out.2.1]; exact info38) ?_)
    | (refine L_valueU rfl (exec_al23 (by rfl) _) ?_)
    | (refine L_storeF rfl 23 (.tmp 4) (.tmp 26) (by rfl) _ zc23 KK (by rfl) (by rfl) (by rw [HKK.out.2.1]; rfl) (by rw [HKK.out.2.1]; exact info38) HKK.out.2.2 ?_))
  change K5 _ _
  refine HK5.out _ _ ?_
  have hn5 := below_new w5 KK 23
  exact kn_b w _ HT.out ga g2 g3 w5.heap.size p q ⟨HB5.out.trans (hn5.mono HB5.out.size), blk_up HK5b.out hn5, by rw [← HNA.out.1]; exact blk_up HQ25.out hn5, by rw [← HNB.out.1]; exact blk_up HQ3.out hn5, by rw [← HKK.out.1]; exact box_new w5 KK 23, blk_up HPA5.out hn5, blk_up HP5.out hn5⟩ _ _ _ _ _ _ _ _ _ _ _ _ _ _ _ _ _ _ _ _ _ _ _ _ _ _ _ _ _ _ _ _ _ _ _ _ _ _ _ _ _ _ _ _ _ _ _ _ _ _ _ _ _ _ _ _ _ _ _ _ _ _ _ _ _ _ _ _ _ _ _ _ _ _ _ _ _ _ _ _ _ _ _ _ _ _ _ _ _ _ _ _ _ _ _ _ _ _ _ _ _ _ _ _ _ _ _ _ _ _ _ _ _ _ _ _ _ _ _ _ _ _ _ _ _ _ _ _ _ _ _ _ _ _ _ _ _ _ _ _ _ _ _ _ _ _ _ _ _ _ _ _ _ _ _ _ _ _ _ _ _ _ _ _ _ _ _ _ _ _ _ _ _ _ _ _ _ _ _ _ _ _ _ _ _ _ _ _ _ _ _ _ _ _ _ _ _ _ _ _ _ _ _
end Go.Proofs.YtoboabkaojfbaaaGreatDoor
namespace Go.Proofs.YtoboabkaojfbaaaGreatDoor
open Go Go.RowKit
set_option maxRecDepth 100000
set_option maxHeartbeats 8000000
set_option linter.unusedVariables false
set_option linter.unusedSimpArgs false
/-! Contracts named -/

theorem decF_all (w : World) (a : Option Addr) (n c : Nat) (raw : List UInt8) (hr : R8 w a n c raw) (ht : Tabs w) :
    Calls Tryz.prog 39 #[.slice a n c] w (DfRet w raw) := by
  by_cases hn : n ≤ 1000000000000
  · exact decF_any w a n c raw hr hn ht
  have HNL := Lib.hid (show raw.length = n from hr.1)
  obtain ⟨Z, hZ⟩ : ∃ Z, Z = (FB zHd nilS zHd nilS 0 0 zDg zDg nilS nilS).toArray := ⟨_, rfl⟩
  have HZ := Lib.hid hZ
  have HZS := Lib.hid (show Z.size = 266 ∧ Z.all (·.oneCell') = true by rw [hZ]; exact ⟨by rw [List.size_toArray, FB_len], FB_one _ _ _ _ _ _ _ _ _ _ rfl rfl rfl rfl⟩)
  have HBZ := Lib.hid (fun (ρ : Operand → Value) (o : Oper) (ho : o.op = .build 35 #[]) (w : World) => show (execOp ρ o).run Tryz.prog w = .ok (.value (.agg Z)) w by rw [hZ]; exact exec_build35 ho w)
  have HTH := Lib.hid (fun (x : World) (g2 : Nat) (hq : x.heap[g2]? = some o35) => df_there hq)
  have hlen : 9000 < n := by omega
  clear hr hn ht hZ
  go_enter Tryz.func39, Tryz.ntmps39
  go_upto_region 1 with (fail)
  change Code.wp Tryz.prog _ _ _ (w.alloc o35)
  obtain ⟨g2, hg2⟩ : ∃ g, g = w.heap.size := ⟨_, rfl⟩
  rw [← hg2]
  have HG2 := Lib.hid hg2
  have HQ1 := Lib.hid (show (w.alloc o35).heap[g2]? = some o35 by rw [hg2]; exact heap_alloc_new w _)
  have HB1 := Lib.hid ((Below.refl w.heap.size w).alloc (Nat.le_refl _) o35)
  clear hg2
  generalize w.alloc o35 = w1 at *
  have HFIN := Lib.hid (fun (x : World) (G : Array Value) (hs : G.size = 266) (hq : x.heap[g2]? = some o35) (hb : Below w.heap.size w x) => df_fin (w0 := w) G hs hq hb (by rw [HG2.out]; exact Nat.le_refl _))
  have HLO := Lib.hid (show 9000 < raw.length by rw [HNL.out]; exact hlen)
  have d1 : decide ((9000 : Int) < (n : Int)) = true := by rw [decide_eq_true_eq]; omega
  clear hlen
  go_wp2_with (first
    | (refine L_value rfl (HBZ.out _ _ (by rfl) _) ?_)
    | (refine wpList_store_mid rfl 35 (.tmp 2) (.tmp 12) (by rfl) g2 0 Z (by rfl) (by rfl) (by rw [HZS.out.1]; exact HTH.out _ _ HQ1.out) (by rw [HZS.out.1]; exact info35) HZS.out.2 ?_))
  exact bodyPost_ret (v := .tuple #[.agg Z, .int .i64 170]) (results_row_tmp (p := 2) (u := 3) (ty := 35) rfl _ _ g2 35 Z (0, 0) _ rfl (HFIN.out _ Z HZS.out.1 HQ1.out HB1.out).1 Tryz.underlying35 rfl (by rw [HZS.out.1]; exact info35)) rfl (df_long HLO.out (HFIN.out _ Z HZS.out.1 HQ1.out HB1.out).2 HZ.out)
/-- DecodeFaces, with what it answers named. -/
theorem decF_n (w : World) (a : Option Addr) (n c : Nat) (raw : List UInt8) (hr : R8 w a n c raw) (ht : Tabs w) (r : Option Fc) (hd : decF raw = r) (e : Int) (he : e = if 9000 < raw.length then 170 else if r.isSome then 0 else 8) :
    Calls Tryz.prog 39 #[.slice a n c] w (fun en w' => ∃ (sA sB wA wB : S3) (D : Array Value), en = .returned (.tuple #[.agg D, .int .i64 e]) ∧ (D = fcA (r.getD zFc) sA sB wA wB ∧ D.size = 266 ∧ D.all (·.oneCell') = true) ∧ FcOwn w' w.heap.size (r.getD zFc) sA sB wA wB ∧ Below w.heap.size w w') := by
  subst hd; subst he
  refine (decF_all w a n c raw hr ht).mono ?_
  rintro en w' ⟨sA, sB, wA, wB, h1, h2, h3⟩
  exact ⟨sA, sB, wA, wB, _, h1, ⟨rfl, fcA_size _ _ _ _ _, fcA_one _ _ _ _ _⟩, h2, h3⟩
/-- EncodeFaces, with what it answers named. -/
theorem encF_n (w : World) (f : Fc) (sA sB wA wB : S3) (hF : FcAt w f sA sB wA wB) (ht : Tabs w) (A : Array Value) (hA : A = fcA f sA sB wA wB) (b : Bool) (hb : formedP f = b) (e : Int) (he : e = if b then 0 else 170) :
    Calls Tryz.prog 22 #[.agg A] w (fun en w' => ∃ a n c, en = .returned (.tuple #[.slice a n c, .int .i64 e]) ∧ w'.ownsRow w.heap.size 5 1 (.slice a n c) n ((if b then encF f else []).map b8) ∧ R8 w' a n c (if b then encF f else []) ∧ Below w.heap.size w w') := by
  subst hb; subst he; subst hA
  refine (encF_any w f sA sB wA wB hF ht).mono ?_
  rintro en w' ⟨a, n, c, h1, h2, h3⟩
  refine ⟨a, n, c, h1, h2, R8.of_own8 h2 ?_, h3⟩
  by_cases hf : formedP f = true
  · rw [if_pos hf]; exact encF_short hf
  · rw [if_neg hf]; decide
theorem same_any24 (w : World) (a b : Option Addr) (n m c d : Nat) (xs ys : List UInt8) (h1 : R8 w a n c xs) (h2 : R8 w b m d ys) :
    Calls Tryz.prog 24 #[.slice a n c, .slice b m d] w fun e w' => e = .returned (.bool (decide (xs = ys))) ∧ Below w.heap.size w w' := by
  have HS := Lib.hid (same_by w a b n m c d xs ys h1 h2)
  clear h1 h2
  obtain ⟨z, hz⟩ : ∃ z, z = decide (xs = ys) := ⟨_, rfl⟩
  rw [← hz] at HS ⊢
  clear hz
  go_enter Tryz.func24, Tryz.ntmps24
  go_wp2_with (go_at_call 82; (with_reducible refine HS.out.mono ?_); rintro e w1 ⟨rfl, hb⟩; have HX := Lib.hid hb; clear hb)
  go_ret
  exact ⟨rfl, HX.out⟩
end Go.Proofs.YtoboabkaojfbaaaGreatDoor
