import Derived.Test.YtcnckjlmldnblaaDoorE49a
import Derived.BigGuardPart
namespace Go.Proofs.YtcnckjlmldnblaaDoor
open Go Go.RowKit
set_option linter.unusedVariables false
set_option linter.unusedSimpArgs false
set_option maxRecDepth 100000 in
set_option maxHeartbeats 16000000 in
theorem ints20 (w W : World) (a b : Int) (gx gy : Nat) (ha : I64 a) (hb : I64 b) (hs : St w W [(gy, boxI 1 b none 0), (gx, boxI 1 a none 0)]) (u2 u3 u4 u7 u8 u9 u10 u11 u12 u13 u14 u15 u16 u17 u18 u19 u20 u21 u22 u23 u24 u25 u26 u27 u28 u29 u30 u31 u32 u33 u34 u35 u36 u37 u38 u39 u40 u41 u42 u43 u44 u45 u46 u47 u48 u49 u50 u51 u52 u53 u54 u55 u56 u57 u58 u59 u60 u61 u62 u63 u64 u65 u66 u67 u68 u69 u70 u71 u72 u73 u74 u75 u76 u77 u78 u79 u80 u81 u82 u83 u84 u85 u86 u87 u88 u89 u90 u91 u92 u93 u94 u95 u96 u97 u98 u99 u100 u101 u102 u103 u104 u105 u106 u107 u108 u109 u110 u111 u112 u113 u114 u115 u116 u117 u118 u119 u120 u121 u122 u123 u124 u125 u126 u127 u128 u129 u130 u131 u132 u133 u134 u135 u136 u137 u138 u139 u140 u141 u142 u143 u144 u145 u146 u147 u148 u149 u150 u151 u152 u153 u154 u155 u156 u157 u158 u159 u160 u161 u162 u163 u164 u165 u166 u167 u168 u169 u170 u171 u172 u173 u174 u175 u176 u177 u178 u179 u180 u181 u182 u183 u184 u185 u186 u187 u188 u189 u190 u191 u192 u193 u194 u195 u196 u197 u198 u199 u200 u201 u202 u203 u204 u205 u206 u207 u208 u209 u210 u211 u212 u213 u214 u215 u216 u217 u218 u219 u220 u221 u222 u223 u224 u225 u226 u227 u228 u229 u230 u231 u232 u233 u234 u235 u236 u237 u238 u239 u240 u241 u242 u243 u244 u245 u246 u247 u248 u249 u250 u251 u252 u253 u254 u255 u256 u257 u258 u259 u260 u261 u262 u263 u264 u265 u266 u267 u268 u269 u270 u271 u272 u273 u274 u275 u276 u277 u278 u279 u280 u281 u282 u283 u284 u285 u286 u287 u288 u289 u290 u291 u292 u293 u294 u295 u296 u297 u298 u299 u300 u301 u302 u303 u304 u305 u306 u307 u308 u309 u310 u311 u312 u313 u314 u315 u316 u317 u318 u319 u320 u321 u322 u323 u324 u325 u326 u327 u328 u329 u330 u331 u332 u333 u334 u335 u336 u337 u338 u339 u340 u341 u342 u343 u344 u345 u346 u347 u348 u349 u350 u351 u352 u353 u354 u355 u356 u357 u358 u359 u360 u361 u362 u363 u364 u365 u366 u367 u368 u369 u370 u371 u372 u373 u374 : Value) (K : Act → World → Prop) (hK : ∀ a' w', Code.wp Tryd.prog k21 (bodyPost Tryd.prog Tryd.f7 fun e w' => e = .returned (.bool true) ∧ Below w.heap.size w w') a' w' → K a' w') :
    Code.wp Tryd.prog k20 (Exit.then K (bodyPost Tryd.prog Tryd.f7 fun e w' => e = .returned (.bool true) ∧ Below w.heap.size w w')) ⟨#[.int .i64 a, .int .i64 b, u2, u3, u4, .pointer (some ⟨gx, 0, none⟩), .pointer (some ⟨gy, 0, none⟩), u7, u8, u9, u10, u11, u12, u13, u14, u15, u16, u17, u18, u19, u20, u21, u22, u23, u24, u25, u26, u27, u28, u29, u30, u31, u32, u33, u34, u35, u36, u37, u38, u39, u40, u41, u42, u43, u44, u45, u46, u47, u48, u49, u50, u51, u52, u53, u54, u55, u56, u57, u58, u59, u60, u61, u62, u63, u64, u65, u66, u67, u68, u69, u70, u71, u72, u73, u74, u75, u76, u77, u78, u79, u80, u81, u82, u83, u84, u85, u86, u87, u88, u89, u90, u91, u92, u93, u94, u95, u96, u97, u98, u99, u100, u101, u102, u103, u104, u105, u106, u107, u108, u109, u110, u111, u112, u113, u114, u115, u116, u117, u118, u119, u120, u121, u122, u123, u124, u125, u126, u127, u128, u129, u130, u131, u132, u133, u134, u135, u136, u137, u138, u139, u140, u141, u142, u143, u144, u145, u146, u147, u148, u149, u150, u151, u152, u153, u154, u155, u156, u157, u158, u159, u160, u161, u162, u163, u164, u165, u166, u167, u168, u169, u170, u171, u172, u173, u174, u175, u176, u177, u178, u179, u180, u181, u182, u183, u184, u185, u186, u187, u188, u189, u190, u191, u192, u193, u194, u195, u196, u197, u198, u199, u200, u201, u202, u203, u204, u205, u206, u207, u208, u209, u210, u211, u212, u213, u214, u215, u216, u217, u218, u219, u220, u221, u222, u223, u224, u225, u226, u227, u228, u229, u230, u231, u232, u233, u234, u235, u236, u237, u238, u239, u240, u241, u242, u243, u244, u245, u246, u247, u248, u249, u250, u251, u252, u253, u254, u255, u256, u257, u258, u259, u260, u261, u262, u263, u264, u265, u266, u267, u268, u269, u270, u271, u272, u273, u274, u275, u276, u277, u278, u279, u280, u281, u282, u283, u284, u285, u286, u287, u288, u289, u290, u291, u292, u293, u294, u295, u296, u297, u298, u299, u300, u301, u302, u303, u304, u305, u306, u307, u308, u309, u310, u311, u312, u313, u314, u315, u316, u317, u318, u319, u320, u321, u322, u323, u324, u325, u326, u327, u328, u329, u330, u331, u332, u333, u334, u335, u336, u337, u338, u339, u340, u341, u342, u343, u344, u345, u346, u347, u348, u349, u350, u351, u352, u353, u354, u355, u356, u357, u358, u359, u360, u361, u362, u363, u364, u365, u366, u367, u368, u369, u370, u371, u372, u373, u374], []⟩ W := by
  have HA := Lib.hid ha
  have HB := Lib.hid hb
  have HS := Lib.hid hs
  clear ha hb hs
  conv => arg 2; whnf
  obtain ⟨c0, c1, c2, c3, -⟩ := box4 (HS.out.g _ (.tail _ (.head _)))
  obtain ⟨d0, d1, d2, d3, -⟩ := box4 (HS.out.g _ (.head _))
  go_wp2_with fail
  with_reducible refine (twoI_any W 18 (by unfold Two; decide) a b HA.out HB.out none 0 (fun _ => rfl) none 0 (fun _ => rfl) HS.out.t HS.out.h).mono ?_
  rintro e z0 ⟨⟨kS, nS, eS, aS, cS, rfl, hr, hz⟩, hb⟩
  have HRS := Lib.hid hr
  have HZs := Lib.hid hz
  have HN := Lib.hid (HS.out.below hb)
  clear hr hz hb c0 c1 c2 c3 d0 d1 d2 d3
  go_wp2_with fail
  conv => arg 2; whnf
  go_upto_region 21 with (fail)
  obtain ⟨v1, hv1⟩ : ∃ v1, v1 = z0.alloc (boxI kS nS aS cS) := ⟨_, rfl⟩
  rw [← hv1]
  have hs' := HN.out.alloc (boxI kS nS aS cS) _ _ rfl
  rw [← hv1] at hs'
  clear HS HN hv1
  have HS := Lib.hid hs'
  clear hs'
  have HF := Lib.hid (add_facts HRS.out)
  clear HRS
  rcases HF.out with ⟨h1, hk, hn, he⟩ | ⟨h1, he⟩
  · have HI := Lib.hid h1
    have e1 : wrap64 (9223372036854775807 - b) = 9223372036854775807 - b ∨ ¬ 0 < b := by
      by_cases h : 0 < b
      · exact .inl (wrap_in (by have := HB.out; unfold I64 at *; omega))
      · exact .inr h
    have e2 : wrap64 (-9223372036854775808 - b) = -9223372036854775808 - b ∨ ¬ b < 0 := by
      by_cases h : b < 0
      · exact .inl (wrap_in (by have := HB.out; unfold I64 at *; omega))
      · exact .inr h
    have E1 := Lib.hid e1
    have E2 := Lib.hid e2
    subst hk he
    clear h1 e1 e2 HF
    by_cases hp : 0 < b
    · have e1 := (E1.out).resolve_right (fun h => h hp)
      have g1 : decide (9223372036854775807 - b < a) = false := by have := HI.out; unfold I64 at this; simp; omega
      have HN2 := Lib.hid hn
      have HI2 := Lib.hid (show I64 nS by rw [hn]; exact HI.out)
      clear hn
      obtain ⟨c0, c1, c2, c3, -⟩ := box4 (HS.out.g _ (.head _))
      obtain ⟨d0, d1, d2, d3, -⟩ := box4 (HS.out.g _ (.tail _ (.head _)))
      go_wp2_with fail
      with_reducible refine (twoI_any v1 19 (by unfold Two; decide) nS b HI2.out HB.out aS cS HZs.out none 0 (fun _ => rfl) HS.out.t HS.out.h).mono ?_
      rintro e z1 ⟨⟨kD, nD, eD, aD, cD, rfl, hr, hz⟩, hb⟩
      have HRD := Lib.hid hr
      have HZd := Lib.hid hz
      have HN := Lib.hid (HS.out.below hb)
      clear hr hz hb c0 c1 c2 c3 d0 d1 d2 d3
      go_upto_region 26 with (fail)
      obtain ⟨v2, hv2⟩ : ∃ v2, v2 = z1.alloc (boxI kD nD aD cD) := ⟨_, rfl⟩
      rw [← hv2]
      have hs' := HN.out.alloc (boxI kD nD aD cD) _ _ rfl
      rw [← hv2] at hs'
      clear HS HN hv2
      have HS := Lib.hid hs'
      clear hs'
      obtain ⟨hd, he⟩ : nD = a ∧ eD = 0 := by
        have e : nS - b = a := by have := HN2.out; omega
        rcases sub_facts HRD.out with ⟨-, h1, h2, h3⟩ | ⟨h1, -⟩
        · exact ⟨by rw [h2, e], h3⟩
        · exact absurd (by rw [e]; exact HA.out) h1
      clear HRD
      obtain ⟨c0, c1, c2, c3, -⟩ := box4 (HS.out.g _ (.head _))
      rw [hd] at c1
      subst he
      clear hd
      go_upto_region 28 with (fail)
      all_goals (try go_big_false)
      have HS2 := Lib.hid (show St w v2 [(gy, boxI 1 b none 0), (gx, boxI 1 a none 0)] from HS.out.sub fun p hp => by
        rcases List.mem_cons.1 hp with rfl | hp
        · exact (.tail _ (.tail _ (.head _)))
        · simp only [List.mem_singleton] at hp
          subst hp
          exact (.tail _ (.tail _ (.tail _ (.head _)))))
      refine ints28 w v2 a b gx gy HA.out HB.out HS2.out _ _ _ _ _ _ _ _ _ _ _ _ _ _ _ _ _ _ _ _ _ _ _ _ _ _ _ _ _ _ _ _ _ _ _ _ _ _ _ _ _ _ _ _ _ _ _ _ _ _ _ _ _ _ _ _ _ _ _ _ _ _ _ _ _ _ _ _ _ _ _ _ _ _ _ _ _ _ _ _ _ _ _ _ _ _ _ _ _ _ _ _ _ _ _ _ _ _ _ _ _ _ _ _ _ _ _ _ _ _ _ _ _ _ _ _ _ _ _ _ _ _ _ _ _ _ _ _ _ _ _ _ _ _ _ _ _ _ _ _ _ _ _ _ _ _ _ _ _ _ _ _ _ _ _ _ _ _ _ _ _ _ _ _ _ _ _ _ _ _ _ _ _ _ _ _ _ _ _ _ _ _ _ _ _ _ _ _ _ _ _ _ _ _ _ _ _ _ _ _ _ _ _ _ _ _ _ _ _ _ _ _ _ _ _ _ _ _ _ _ _ _ _ _ _ _ _ _ _ _ _ _ _ _ _ _ _ _ _ _ _ _ _ _ _ _ _ _ _ _ _ _ _ _ _ _ _ _ _ _ _ _ _ _ _ _ _ _ _ _ _ _ _ _ _ _ _ _ _ _ _ _ _ _ _ _ _ _ _ _ _ _ _ _ _ _ _ _ _ _ _ _ _ _ _ _ _ _ _ _ _ _ _ _ _ _ _ _ _ _ _ _ _ _ _ _ _ _ _ _ _ _ _ _ _ _ _ _ _ _ _ _ _ _ _ _ _ _ _ _ _ _ _ _ _ _ _ _ _ _ _ _ _ _ _ _ _ _ _ _ _ _ ?_
      assumption
    · by_cases hm : b < 0
      · have e1 := (E2.out).resolve_right (fun h => h hm)
        have g1 : decide (a < -9223372036854775808 - b) = false := by have := HI.out; unfold I64 at this; simp; omega
        have HN2 := Lib.hid hn
        have HI2 := Lib.hid (show I64 nS by rw [hn]; exact HI.out)
        clear hn
        obtain ⟨c0, c1, c2, c3, -⟩ := box4 (HS.out.g _ (.head _))
        obtain ⟨d0, d1, d2, d3, -⟩ := box4 (HS.out.g _ (.tail _ (.head _)))
        go_wp2_with fail
        with_reducible refine (twoI_any v1 19 (by unfold Two; decide) nS b HI2.out HB.out aS cS HZs.out none 0 (fun _ => rfl) HS.out.t HS.out.h).mono ?_
        rintro e z1 ⟨⟨kD, nD, eD, aD, cD, rfl, hr, hz⟩, hb⟩
        have HRD := Lib.hid hr
        have HZd := Lib.hid hz
        have HN := Lib.hid (HS.out.below hb)
        clear hr hz hb c0 c1 c2 c3 d0 d1 d2 d3
        go_upto_region 26 with (fail)
        obtain ⟨v2, hv2⟩ : ∃ v2, v2 = z1.alloc (boxI kD nD aD cD) := ⟨_, rfl⟩
        rw [← hv2]
        have hs' := HN.out.alloc (boxI kD nD aD cD) _ _ rfl
        rw [← hv2] at hs'
        clear HS HN hv2
        have HS := Lib.hid hs'
        clear hs'
        obtain ⟨hd, he⟩ : nD = a ∧ eD = 0 := by
          have e : nS - b = a := by have := HN2.out; omega
          rcases sub_facts HRD.out with ⟨-, h1, h2, h3⟩ | ⟨h1, -⟩
          · exact ⟨by rw [h2, e], h3⟩
          · exact absurd (by rw [e]; exact HA.out) h1
        clear HRD
        obtain ⟨c0, c1, c2, c3, -⟩ := box4 (HS.out.g _ (.head _))
        rw [hd] at c1
        subst he
        clear hd
        go_upto_region 28 with (fail)
        all_goals (try go_big_false)
        have HS2 := Lib.hid (show St w v2 [(gy, boxI 1 b none 0), (gx, boxI 1 a none 0)] from HS.out.sub fun p hp => by
          rcases List.mem_cons.1 hp with rfl | hp
          · exact (.tail _ (.tail _ (.head _)))
          · simp only [List.mem_singleton] at hp
            subst hp
            exact (.tail _ (.tail _ (.tail _ (.head _)))))
        refine ints28 w v2 a b gx gy HA.out HB.out HS2.out _ _ _ _ _ _ _ _ _ _ _ _ _ _ _ _ _ _ _ _ _ _ _ _ _ _ _ _ _ _ _ _ _ _ _ _ _ _ _ _ _ _ _ _ _ _ _ _ _ _ _ _ _ _ _ _ _ _ _ _ _ _ _ _ _ _ _ _ _ _ _ _ _ _ _ _ _ _ _ _ _ _ _ _ _ _ _ _ _ _ _ _ _ _ _ _ _ _ _ _ _ _ _ _ _ _ _ _ _ _ _ _ _ _ _ _ _ _ _ _ _ _ _ _ _ _ _ _ _ _ _ _ _ _ _ _ _ _ _ _ _ _ _ _ _ _ _ _ _ _ _ _ _ _ _ _ _ _ _ _ _ _ _ _ _ _ _ _ _ _ _ _ _ _ _ _ _ _ _ _ _ _ _ _ _ _ _ _ _ _ _ _ _ _ _ _ _ _ _ _ _ _ _ _ _ _ _ _ _ _ _ _ _ _ _ _ _ _ _ _ _ _ _ _ _ _ _ _ _ _ _ _ _ _ _ _ _ _ _ _ _ _ _ _ _ _ _ _ _ _ _ _ _ _ _ _ _ _ _ _ _ _ _ _ _ _ _ _ _ _ _ _ _ _ _ _ _ _ _ _ _ _ _ _ _ _ _ _ _ _ _ _ _ _ _ _ _ _ _ _ _ _ _ _ _ _ _ _ _ _ _ _ _ _ _ _ _ _ _ _ _ _ _ _ _ _ _ _ _ _ _ _ _ _ _ _ _ _ _ _ _ _ _ _ _ _ _ _ _ _ _ _ _ _ _ _ _ _ _ _ _ _ _ _ _ _ _ _ _ _ _ _ ?_
        assumption
      · skip
        have HN2 := Lib.hid hn
        have HI2 := Lib.hid (show I64 nS by rw [hn]; exact HI.out)
        clear hn
        obtain ⟨c0, c1, c2, c3, -⟩ := box4 (HS.out.g _ (.head _))
        obtain ⟨d0, d1, d2, d3, -⟩ := box4 (HS.out.g _ (.tail _ (.head _)))
        go_wp2_with fail
        with_reducible refine (twoI_any v1 19 (by unfold Two; decide) nS b HI2.out HB.out aS cS HZs.out none 0 (fun _ => rfl) HS.out.t HS.out.h).mono ?_
        rintro e z1 ⟨⟨kD, nD, eD, aD, cD, rfl, hr, hz⟩, hb⟩
        have HRD := Lib.hid hr
        have HZd := Lib.hid hz
        have HN := Lib.hid (HS.out.below hb)
        clear hr hz hb c0 c1 c2 c3 d0 d1 d2 d3
        go_upto_region 26 with (fail)
        obtain ⟨v2, hv2⟩ : ∃ v2, v2 = z1.alloc (boxI kD nD aD cD) := ⟨_, rfl⟩
        rw [← hv2]
        have hs' := HN.out.alloc (boxI kD nD aD cD) _ _ rfl
        rw [← hv2] at hs'
        clear HS HN hv2
        have HS := Lib.hid hs'
        clear hs'
        obtain ⟨hd, he⟩ : nD = a ∧ eD = 0 := by
          have e : nS - b = a := by have := HN2.out; omega
          rcases sub_facts HRD.out with ⟨-, h1, h2, h3⟩ | ⟨h1, -⟩
          · exact ⟨by rw [h2, e], h3⟩
          · exact absurd (by rw [e]; exact HA.out) h1
        clear HRD
        obtain ⟨c0, c1, c2, c3, -⟩ := box4 (HS.out.g _ (.head _))
        rw [hd] at c1
        subst he
        clear hd
        go_upto_region 28 with (fail)
        all_goals (try go_big_false)
        have HS2 := Lib.hid (show St w v2 [(gy, boxI 1 b none 0), (gx, boxI 1 a none 0)] from HS.out.sub fun p hp => by
          rcases List.mem_cons.1 hp with rfl | hp
          · exact (.tail _ (.tail _ (.head _)))
          · simp only [List.mem_singleton] at hp
            subst hp
            exact (.tail _ (.tail _ (.tail _ (.head _)))))
        refine ints28 w v2 a b gx gy HA.out HB.out HS2.out _ _ _ _ _ _ _ _ _ _ _ _ _ _ _ _ _ _ _ _ _ _ _ _ _ _ _ _ _ _ _ _ _ _ _ _ _ _ _ _ _ _ _ _ _ _ _ _ _ _ _ _ _ _ _ _ _ _ _ _ _ _ _ _ _ _ _ _ _ _ _ _ _ _ _ _ _ _ _ _ _ _ _ _ _ _ _ _ _ _ _ _ _ _ _ _ _ _ _ _ _ _ _ _ _ _ _ _ _ _ _ _ _ _ _ _ _ _ _ _ _ _ _ _ _ _ _ _ _ _ _ _ _ _ _ _ _ _ _ _ _ _ _ _ _ _ _ _ _ _ _ _ _ _ _ _ _ _ _ _ _ _ _ _ _ _ _ _ _ _ _ _ _ _ _ _ _ _ _ _ _ _ _ _ _ _ _ _ _ _ _ _ _ _ _ _ _ _ _ _ _ _ _ _ _ _ _ _ _ _ _ _ _ _ _ _ _ _ _ _ _ _ _ _ _ _ _ _ _ _ _ _ _ _ _ _ _ _ _ _ _ _ _ _ _ _ _ _ _ _ _ _ _ _ _ _ _ _ _ _ _ _ _ _ _ _ _ _ _ _ _ _ _ _ _ _ _ _ _ _ _ _ _ _ _ _ _ _ _ _ _ _ _ _ _ _ _ _ _ _ _ _ _ _ _ _ _ _ _ _ _ _ _ _ _ _ _ _ _ _ _ _ _ _ _ _ _ _ _ _ _ _ _ _ _ _ _ _ _ _ _ _ _ _ _ _ _ _ _ _ _ _ _ _ _ _ _ _ _ _ _ _ _ _ _ _ _ _ _ _ _ _ ?_
        assumption
  · have HI := Lib.hid h1
    have HO := Lib.hid (HA.out)
    subst he
    clear h1 HF
    by_cases hp : 0 < b
    · have e1 : wrap64 (9223372036854775807 - b) = 9223372036854775807 - b := wrap_in (by have := HB.out; unfold I64 at *; omega)
      have g1 : decide (9223372036854775807 - b < a) = true := by have := HI.out; have := HA.out; have := HB.out; unfold I64 at *; simp; omega
      go_upto_region 28 with (fail)
      all_goals (try go_big_false)
      have HS2 := Lib.hid (show St w v1 [(gy, boxI 1 b none 0), (gx, boxI 1 a none 0)] from HS.out.sub fun p hp => by
        rcases List.mem_cons.1 hp with rfl | hp
        · exact (.tail _ (.head _))
        · simp only [List.mem_singleton] at hp
          subst hp
          exact (.tail _ (.tail _ (.head _))))
      refine ints28 w v1 a b gx gy HA.out HB.out HS2.out _ _ _ _ _ _ _ _ _ _ _ _ _ _ _ _ _ _ _ _ _ _ _ _ _ _ _ _ _ _ _ _ _ _ _ _ _ _ _ _ _ _ _ _ _ _ _ _ _ _ _ _ _ _ _ _ _ _ _ _ _ _ _ _ _ _ _ _ _ _ _ _ _ _ _ _ _ _ _ _ _ _ _ _ _ _ _ _ _ _ _ _ _ _ _ _ _ _ _ _ _ _ _ _ _ _ _ _ _ _ _ _ _ _ _ _ _ _ _ _ _ _ _ _ _ _ _ _ _ _ _ _ _ _ _ _ _ _ _ _ _ _ _ _ _ _ _ _ _ _ _ _ _ _ _ _ _ _ _ _ _ _ _ _ _ _ _ _ _ _ _ _ _ _ _ _ _ _ _ _ _ _ _ _ _ _ _ _ _ _ _ _ _ _ _ _ _ _ _ _ _ _ _ _ _ _ _ _ _ _ _ _ _ _ _ _ _ _ _ _ _ _ _ _ _ _ _ _ _ _ _ _ _ _ _ _ _ _ _ _ _ _ _ _ _ _ _ _ _ _ _ _ _ _ _ _ _ _ _ _ _ _ _ _ _ _ _ _ _ _ _ _ _ _ _ _ _ _ _ _ _ _ _ _ _ _ _ _ _ _ _ _ _ _ _ _ _ _ _ _ _ _ _ _ _ _ _ _ _ _ _ _ _ _ _ _ _ _ _ _ _ _ _ _ _ _ _ _ _ _ _ _ _ _ _ _ _ _ _ _ _ _ _ _ _ _ _ _ _ _ _ _ _ _ _ _ _ _ _ _ _ _ _ _ _ _ _ _ _ _ _ _ ?_
      assumption
    · have hm : b < 0 := by
        have := HI.out; have := HA.out; have := HB.out; unfold I64 at *; omega
      have e1 : wrap64 (-9223372036854775808 - b) = -9223372036854775808 - b := wrap_in (by have := HB.out; unfold I64 at *; omega)
      have g1 : decide (a < -9223372036854775808 - b) = true := by have := HI.out; have := HA.out; have := HB.out; unfold I64 at *; simp; omega
      go_upto_region 28 with (fail)
      all_goals (try go_big_false)
      have HS2 := Lib.hid (show St w v1 [(gy, boxI 1 b none 0), (gx, boxI 1 a none 0)] from HS.out.sub fun p hp => by
        rcases List.mem_cons.1 hp with rfl | hp
        · exact (.tail _ (.head _))
        · simp only [List.mem_singleton] at hp
          subst hp
          exact (.tail _ (.tail _ (.head _))))
      refine ints28 w v1 a b gx gy HA.out HB.out HS2.out _ _ _ _ _ _ _ _ _ _ _ _ _ _ _ _ _ _ _ _ _ _ _ _ _ _ _ _ _ _ _ _ _ _ _ _ _ _ _ _ _ _ _ _ _ _ _ _ _ _ _ _ _ _ _ _ _ _ _ _ _ _ _ _ _ _ _ _ _ _ _ _ _ _ _ _ _ _ _ _ _ _ _ _ _ _ _ _ _ _ _ _ _ _ _ _ _ _ _ _ _ _ _ _ _ _ _ _ _ _ _ _ _ _ _ _ _ _ _ _ _ _ _ _ _ _ _ _ _ _ _ _ _ _ _ _ _ _ _ _ _ _ _ _ _ _ _ _ _ _ _ _ _ _ _ _ _ _ _ _ _ _ _ _ _ _ _ _ _ _ _ _ _ _ _ _ _ _ _ _ _ _ _ _ _ _ _ _ _ _ _ _ _ _ _ _ _ _ _ _ _ _ _ _ _ _ _ _ _ _ _ _ _ _ _ _ _ _ _ _ _ _ _ _ _ _ _ _ _ _ _ _ _ _ _ _ _ _ _ _ _ _ _ _ _ _ _ _ _ _ _ _ _ _ _ _ _ _ _ _ _ _ _ _ _ _ _ _ _ _ _ _ _ _ _ _ _ _ _ _ _ _ _ _ _ _ _ _ _ _ _ _ _ _ _ _ _ _ _ _ _ _ _ _ _ _ _ _ _ _ _ _ _ _ _ _ _ _ _ _ _ _ _ _ _ _ _ _ _ _ _ _ _ _ _ _ _ _ _ _ _ _ _ _ _ _ _ _ _ _ _ _ _ _ _ _ _ _ _ _ _ _ _ _ _ _ _ _ _ _ _ _ ?_
      assumption
end Go.Proofs.YtcnckjlmldnblaaDoor
