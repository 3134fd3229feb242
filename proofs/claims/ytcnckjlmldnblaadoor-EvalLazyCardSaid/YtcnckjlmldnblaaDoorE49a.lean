import Derived.Test.YtcnckjlmldnblaaDoorE44
import Derived.Test.YtcnckjlmldnblaaDoorE47
import Derived.BigGuardPart
namespace Go.Proofs.YtcnckjlmldnblaaDoor
open Go Go.RowKit
set_option linter.unusedVariables false
set_option linter.unusedSimpArgs false
/-- A code without so many first statements. -/
def dropSeq : Nat → Code → Code
  | 0, c => c
  | n + 1, .seq _ c => dropSeq n c
  | _, c => c
def headSeq : Code → Code
  | .seq c _ => c
  | c => c
noncomputable def k16 : Code := headSeq (dropSeq 9 (Tryd.f7.body.getD .skip))
noncomputable def k17 : Code := dropSeq 10 (Tryd.f7.body.getD .skip)
noncomputable def k20 : Code := headSeq (dropSeq 12 (Tryd.f7.body.getD .skip))
noncomputable def k21 : Code := dropSeq 13 (Tryd.f7.body.getD .skip)
noncomputable def k28 : Code := headSeq (dropSeq 16 (Tryd.f7.body.getD .skip))
noncomputable def k29 : Code := dropSeq 17 (Tryd.f7.body.getD .skip)
theorem St.sub {w W : World} {gs hs : List (Nat × Obj)} (h : St w W gs) (hh : ∀ p ∈ hs, p ∈ gs) : St w W hs := ⟨h.b, h.t, h.h, fun p hp => h.g p (hh p hp)⟩
set_option maxRecDepth 100000 in
set_option maxHeartbeats 16000000 in
theorem ints28 (w W : World) (a b : Int) (gx gy : Nat) (ha : I64 a) (hb : I64 b) (hs : St w W [(gy, boxI 1 b none 0), (gx, boxI 1 a none 0)]) (u2 u3 u4 u7 u8 u9 u10 u11 u12 u13 u14 u15 u16 u17 u18 u19 u20 u21 u22 u23 u24 u25 u26 u27 u28 u29 u30 u31 u32 u33 u34 u35 u36 u37 u38 u39 u40 u41 u42 u43 u44 u45 u46 u47 u48 u49 u50 u51 u52 u53 u54 u55 u56 u57 u58 u59 u60 u61 u62 u63 u64 u65 u66 u67 u68 u69 u70 u71 u72 u73 u74 u75 u76 u77 u78 u79 u80 u81 u82 u83 u84 u85 u86 u87 u88 u89 u90 u91 u92 u93 u94 u95 u96 u97 u98 u99 u100 u101 u102 u103 u104 u105 u106 u107 u108 u109 u110 u111 u112 u113 u114 u115 u116 u117 u118 u119 u120 u121 u122 u123 u124 u125 u126 u127 u128 u129 u130 u131 u132 u133 u134 u135 u136 u137 u138 u139 u140 u141 u142 u143 u144 u145 u146 u147 u148 u149 u150 u151 u152 u153 u154 u155 u156 u157 u158 u159 u160 u161 u162 u163 u164 u165 u166 u167 u168 u169 u170 u171 u172 u173 u174 u175 u176 u177 u178 u179 u180 u181 u182 u183 u184 u185 u186 u187 u188 u189 u190 u191 u192 u193 u194 u195 u196 u197 u198 u199 u200 u201 u202 u203 u204 u205 u206 u207 u208 u209 u210 u211 u212 u213 u214 u215 u216 u217 u218 u219 u220 u221 u222 u223 u224 u225 u226 u227 u228 u229 u230 u231 u232 u233 u234 u235 u236 u237 u238 u239 u240 u241 u242 u243 u244 u245 u246 u247 u248 u249 u250 u251 u252 u253 u254 u255 u256 u257 u258 u259 u260 u261 u262 u263 u264 u265 u266 u267 u268 u269 u270 u271 u272 u273 u274 u275 u276 u277 u278 u279 u280 u281 u282 u283 u284 u285 u286 u287 u288 u289 u290 u291 u292 u293 u294 u295 u296 u297 u298 u299 u300 u301 u302 u303 u304 u305 u306 u307 u308 u309 u310 u311 u312 u313 u314 u315 u316 u317 u318 u319 u320 u321 u322 u323 u324 u325 u326 u327 u328 u329 u330 u331 u332 u333 u334 u335 u336 u337 u338 u339 u340 u341 u342 u343 u344 u345 u346 u347 u348 u349 u350 u351 u352 u353 u354 u355 u356 u357 u358 u359 u360 u361 u362 u363 u364 u365 u366 u367 u368 u369 u370 u371 u372 u373 u374 : Value) (K : Act → World → Prop) (hK : ∀ a' w', Code.wp Tryd.prog k29 (bodyPost Tryd.prog Tryd.f7 fun e w' => e = .returned (.bool true) ∧ Below w.heap.size w w') a' w' → K a' w') :
    Code.wp Tryd.prog k28 (Exit.then K (bodyPost Tryd.prog Tryd.f7 fun e w' => e = .returned (.bool true) ∧ Below w.heap.size w w')) ⟨#[.int .i64 a, .int .i64 b, u2, u3, u4, .pointer (some ⟨gx, 0, none⟩), .pointer (some ⟨gy, 0, none⟩), u7, u8, u9, u10, u11, u12, u13, u14, u15, u16, u17, u18, u19, u20, u21, u22, u23, u24, u25, u26, u27, u28, u29, u30, u31, u32, u33, u34, u35, u36, u37, u38, u39, u40, u41, u42, u43, u44, u45, u46, u47, u48, u49, u50, u51, u52, u53, u54, u55, u56, u57, u58, u59, u60, u61, u62, u63, u64, u65, u66, u67, u68, u69, u70, u71, u72, u73, u74, u75, u76, u77, u78, u79, u80, u81, u82, u83, u84, u85, u86, u87, u88, u89, u90, u91, u92, u93, u94, u95, u96, u97, u98, u99, u100, u101, u102, u103, u104, u105, u106, u107, u108, u109, u110, u111, u112, u113, u114, u115, u116, u117, u118, u119, u120, u121, u122, u123, u124, u125, u126, u127, u128, u129, u130, u131, u132, u133, u134, u135, u136, u137, u138, u139, u140, u141, u142, u143, u144, u145, u146, u147, u148, u149, u150, u151, u152, u153, u154, u155, u156, u157, u158, u159, u160, u161, u162, u163, u164, u165, u166, u167, u168, u169, u170, u171, u172, u173, u174, u175, u176, u177, u178, u179, u180, u181, u182, u183, u184, u185, u186, u187, u188, u189, u190, u191, u192, u193, u194, u195, u196, u197, u198, u199, u200, u201, u202, u203, u204, u205, u206, u207, u208, u209, u210, u211, u212, u213, u214, u215, u216, u217, u218, u219, u220, u221, u222, u223, u224, u225, u226, u227, u228, u229, u230, u231, u232, u233, u234, u235, u236, u237, u238, u239, u240, u241, u242, u243, u244, u245, u246, u247, u248, u249, u250, u251, u252, u253, u254, u255, u256, u257, u258, u259, u260, u261, u262, u263, u264, u265, u266, u267, u268, u269, u270, u271, u272, u273, u274, u275, u276, u277, u278, u279, u280, u281, u282, u283, u284, u285, u286, u287, u288, u289, u290, u291, u292, u293, u294, u295, u296, u297, u298, u299, u300, u301, u302, u303, u304, u305, u306, u307, u308, u309, u310, u311, u312, u313, u314, u315, u316, u317, u318, u319, u320, u321, u322, u323, u324, u325, u326, u327, u328, u329, u330, u331, u332, u333, u334, u335, u336, u337, u338, u339, u340, u341, u342, u343, u344, u345, u346, u347, u348, u349, u350, u351, u352, u353, u354, u355, u356, u357, u358, u359, u360, u361, u362, u363, u364, u365, u366, u367, u368, u369, u370, u371, u372, u373, u374], []⟩ W := by
  have HA := Lib.hid ha
  have HB := Lib.hid hb
  have HS := Lib.hid hs
  clear ha hb hs
  conv => arg 2; whnf
  obtain ⟨c0, c1, c2, c3, -⟩ := box4 (HS.out.g _ (.tail _ (.head _)))
  obtain ⟨d0, d1, d2, d3, -⟩ := box4 (HS.out.g _ (.head _))
  go_wp2_with fail
  with_reducible refine (twoI_any W 31 (by unfold Two; decide) a b HA.out HB.out none 0 (fun _ => rfl) none 0 (fun _ => rfl) HS.out.t HS.out.h).mono ?_
  rintro e z0 ⟨⟨kL, nL, eL, aL, cL, rfl, hr, hz⟩, hb⟩
  have HRL := Lib.hid hr
  have HZlow := Lib.hid hz
  have HN := Lib.hid (HS.out.below hb)
  clear hr hz hb c0 c1 c2 c3 d0 d1 d2 d3
  go_wp2_with fail
  conv => arg 2; whnf
  go_upto_region 29 with (fail)
  obtain ⟨v1, hv1⟩ : ∃ v1, v1 = z0.alloc (boxI kL nL aL cL) := ⟨_, rfl⟩
  rw [← hv1]
  have hs' := HN.out.alloc (boxI kL nL aL cL) _ _ rfl
  rw [← hv1] at hs'
  clear HS HN hv1
  have HS := Lib.hid hs'
  clear hs'
  obtain ⟨c0, c1, c2, c3, -⟩ := box4 (HS.out.g _ (.tail _ (.tail _ (.head _))))
  obtain ⟨d0, d1, d2, d3, -⟩ := box4 (HS.out.g _ (.tail _ (.head _)))
  go_wp2_with fail
  with_reducible refine (twoI_any v1 32 (by unfold Two; decide) a b HA.out HB.out none 0 (fun _ => rfl) none 0 (fun _ => rfl) HS.out.t HS.out.h).mono ?_
  rintro e z1 ⟨⟨kH, nH, eH, aH, cH, rfl, hr, hz⟩, hb⟩
  have HRH := Lib.hid hr
  have HZhigh := Lib.hid hz
  have HN := Lib.hid (HS.out.below hb)
  clear hr hz hb c0 c1 c2 c3 d0 d1 d2 d3
  go_upto_region 30 with (fail)
  obtain ⟨v2, hv2⟩ : ∃ v2, v2 = z1.alloc (boxI kH nH aH cH) := ⟨_, rfl⟩
  rw [← hv2]
  have hs' := HN.out.alloc (boxI kH nH aH cH) _ _ rfl
  rw [← hv2] at hs'
  clear HS HN hv2
  have HS := Lib.hid hs'
  clear hs'
  obtain ⟨c0, c1, c2, c3, -⟩ := box4 (HS.out.g _ (.tail _ (.tail _ (.tail _ (.head _)))))
  obtain ⟨d0, d1, d2, d3, -⟩ := box4 (HS.out.g _ (.tail _ (.tail _ (.head _))))
  go_wp2_with fail
  with_reducible refine (twoI_any v2 13 (by unfold Two; decide) a b HA.out HB.out none 0 (fun _ => rfl) none 0 (fun _ => rfl) HS.out.t HS.out.h).mono ?_
  rintro e z2 ⟨⟨kS, nS, eS, aS, cS, rfl, hr, hz⟩, hb⟩
  have HRS := Lib.hid hr
  have HZless := Lib.hid hz
  have HN := Lib.hid (HS.out.below hb)
  clear hr hz hb c0 c1 c2 c3 d0 d1 d2 d3
  go_upto_region 31 with (fail)
  obtain ⟨v3, hv3⟩ : ∃ v3, v3 = z2.alloc (boxI kS nS aS cS) := ⟨_, rfl⟩
  rw [← hv3]
  have hs' := HN.out.alloc (boxI kS nS aS cS) _ _ rfl
  rw [← hv3] at hs'
  clear HS HN hv3
  have HS := Lib.hid hs'
  clear hs'
  obtain ⟨c0, c1, c2, c3, -⟩ := box4 (HS.out.g _ (.tail _ (.tail _ (.tail _ (.tail _ (.head _))))))
  obtain ⟨d0, d1, d2, d3, -⟩ := box4 (HS.out.g _ (.tail _ (.tail _ (.tail _ (.head _)))))
  go_wp2_with fail
  with_reducible refine (twoI_any v3 16 (by unfold Two; decide) a b HA.out HB.out none 0 (fun _ => rfl) none 0 (fun _ => rfl) HS.out.t HS.out.h).mono ?_
  rintro e z3 ⟨⟨kT, nT, eT, aT, cT, rfl, hr, hz⟩, hb⟩
  have HRT := Lib.hid hr
  have HZleast := Lib.hid hz
  have HN := Lib.hid (HS.out.below hb)
  clear hr hz hb c0 c1 c2 c3 d0 d1 d2 d3
  go_upto_region 32 with (fail)
  obtain ⟨v4, hv4⟩ : ∃ v4, v4 = z3.alloc (boxI kT nT aT cT) := ⟨_, rfl⟩
  rw [← hv4]
  have hs' := HN.out.alloc (boxI kT nT aT cT) _ _ rfl
  rw [← hv4] at hs'
  clear HS HN hv4
  have HS := Lib.hid hs'
  clear hs'
  obtain ⟨c0, c1, c2, c3, -⟩ := box4 (HS.out.g _ (.tail _ (.tail _ (.tail _ (.tail _ (.head _))))))
  obtain ⟨d0, d1, d2, d3, -⟩ := box4 (HS.out.g _ (.tail _ (.tail _ (.tail _ (.tail _ (.tail _ (.head _)))))))
  go_wp2_with fail
  with_reducible refine (twoI_any v4 15 (by unfold Two; decide) b a HB.out HA.out none 0 (fun _ => rfl) none 0 (fun _ => rfl) HS.out.t HS.out.h).mono ?_
  rintro e z4 ⟨⟨kM, nM, eM, aM, cM, rfl, hr, hz⟩, hb⟩
  have HRM := Lib.hid hr
  have HZmore := Lib.hid hz
  have HN := Lib.hid (HS.out.below hb)
  clear hr hz hb c0 c1 c2 c3 d0 d1 d2 d3
  go_upto_region 33 with (fail)
  obtain ⟨v5, hv5⟩ : ∃ v5, v5 = z4.alloc (boxI kM nM aM cM) := ⟨_, rfl⟩
  rw [← hv5]
  have hs' := HN.out.alloc (boxI kM nM aM cM) _ _ rfl
  rw [← hv5] at hs'
  clear HS HN hv5
  have HS := Lib.hid hs'
  clear hs'
  obtain ⟨hL, eqL⟩ := min_facts HRL.out
  obtain ⟨hH, eqH⟩ := max_facts HRH.out
  obtain ⟨hS, eqS⟩ := ord_facts 13 _ (less_num a b) HRS.out
  obtain ⟨hT, eqT⟩ := ord_facts 16 _ (least_num a b) HRT.out
  obtain ⟨hM, eqM⟩ := ord_facts 15 _ (more_num b a) HRM.out
  subst eqL eqH eqS eqT eqM
  clear HRL HRH HRS HRT HRM
  obtain ⟨l0, l1, l2, l3, -⟩ := box4 (HS.out.g _ (.tail _ (.tail _ (.tail _ (.tail _ (.head _))))))
  obtain ⟨h0, h1, h2, h3, -⟩ := box4 (HS.out.g _ (.tail _ (.tail _ (.tail _ (.head _)))))
  obtain ⟨s0, s1, s2, s3, -⟩ := box4 (HS.out.g _ (.tail _ (.tail _ (.head _))))
  obtain ⟨t0, t1, t2, t3, -⟩ := box4 (HS.out.g _ (.tail _ (.head _)))
  obtain ⟨m0, m1, m2, m3, -⟩ := box4 (HS.out.g _ (.head _))
  by_cases hab : a < b
  · skip
    have hnL : nL = a := by rw [hL]; omega
    have hnH : nH = b := by rw [hH]; omega
    have hnS : nS = 1 := by rw [hS]; simp <;> omega
    have hnT : nT = 0 := by rw [hT]; simp <;> omega
    have hnM : nM = 1 := by rw [hM]; simp <;> omega
    clear hL hH hS hT hM
    rw [hnL] at l1
    rw [hnH] at h1
    rw [hnS] at s1
    rw [hnT] at t1
    rw [hnM] at m1
    clear hnL hnH hnS hnT hnM
    go_wp2_with (go_at_call 16; refine (known_any _ HS.out.t HS.out.h).mono ?_; rintro e w9 ⟨rfl, hb9⟩)
    all_goals first | (go_ret; exact ⟨rfl, HS.out.b.trans (hb9.mono HS.out.b.size)⟩) | (exfalso; omega)
  · by_cases hba : a = b
    · subst hba
      have hnL : nL = a := by rw [hL]; omega
      have hnH : nH = a := by rw [hH]; omega
      have hnS : nS = 0 := by rw [hS]; simp <;> omega
      have hnT : nT = 1 := by rw [hT]; simp <;> omega
      have hnM : nM = 0 := by rw [hM]; simp <;> omega
      clear hL hH hS hT hM
      rw [hnL] at l1
      rw [hnH] at h1
      rw [hnS] at s1
      rw [hnT] at t1
      rw [hnM] at m1
      clear hnL hnH hnS hnT hnM
      go_wp2_with (go_at_call 16; refine (known_any _ HS.out.t HS.out.h).mono ?_; rintro e w9 ⟨rfl, hb9⟩)
      all_goals first | (go_ret; exact ⟨rfl, HS.out.b.trans (hb9.mono HS.out.b.size)⟩) | (exfalso; omega)
    · skip
      have hnL : nL = b := by rw [hL]; omega
      have hnH : nH = a := by rw [hH]; omega
      have hnS : nS = 0 := by rw [hS]; simp <;> omega
      have hnT : nT = 1 := by rw [hT]; simp <;> omega
      have hnM : nM = 0 := by rw [hM]; simp <;> omega
      clear hL hH hS hT hM
      rw [hnL] at l1
      rw [hnH] at h1
      rw [hnS] at s1
      rw [hnT] at t1
      rw [hnM] at m1
      clear hnL hnH hnS hnT hnM
      go_wp2_with (go_at_call 16; refine (known_any _ HS.out.t HS.out.h).mono ?_; rintro e w9 ⟨rfl, hb9⟩)
      all_goals first | (go_ret; exact ⟨rfl, HS.out.b.trans (hb9.mono HS.out.b.size)⟩) | (exfalso; omega)
end Go.Proofs.YtcnckjlmldnblaaDoor
