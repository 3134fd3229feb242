import Derived.Test.YtcnckjlmldnblaaDoorE68
import Derived.BigGuardPart
import Derived.IntWalk
import Derived.ArgAppend
namespace Go.Proofs.YtcnckjlmldnblaaDoor
open Go Go.RowKit
set_option linter.unusedVariables false
set_option linter.unusedSimpArgs false
set_option maxRecDepth 100000 in
set_option maxHeartbeats 16000000 in
theorem lazy_b (w W : World) (ns ms L : List Nd) (q K : Nat) (pp : Pd) (la : Addr) (lc gx : Nat) (x : Vl) (er : Int) (ax : Option Addr) (cx : Nat) (h2 : Two2 ns ms L q pp.vw) (hK : K = q + ms.length) (hw : WU (worthR ns q pp.vw) x er) (hs : LzS w W L la lc K pp gx x ax cx) (v0 v2 u3 u4 u5 u6 u7 u8 u12 u13 u16 u17 u18 u19 u20 u21 u22 u23 u24 u25 u26 u27 u28 u29 u30 u31 u32 u33 u34 u35 u36 u37 u38 u39 u40 u41 u42 u43 u44 u45 u46 u47 u48 u49 u50 u51 u52 u53 u54 u55 u56 u57 u58 u59 u60 u61 u62 u63 u64 u65 u66 u67 u68 u69 u70 u71 u72 u73 u74 u75 u76 u77 u78 u79 u80 u81 u82 u83 u84 u85 u86 u87 u88 u89 u90 u91 u92 u93 u94 u95 u96 u97 u98 u99 u100 u101 u102 u103 u104 u105 u106 u107 u108 u109 u110 u111 u112 u113 u114 u115 u116 u117 u118 u119 u120 u121 u122 u123 u124 u125 u126 u127 u128 u129 u130 u131 u132 u133 u134 u135 u136 u137 u138 u139 u140 u141 u142 u143 u144 u145 u146 u147 u148 u149 u150 u151 u152 u153 u154 u155 u156 u157 u158 u159 u160 u161 u162 u163 u164 u165 u166 u167 u168 u169 u170 u171 u172 u173 u174 u175 u176 u177 u178 u179 u180 u181 u182 u183 u184 u185 u186 u187 u188 u189 u190 u191 u192 u193 u194 u195 u196 u197 u198 u199 u200 u201 u202 u203 u204 u205 u206 u207 u208 u209 u210 u211 u212 u213 u214 u215 u216 u217 u218 u219 u220 u221 u222 u223 u224 u225 u226 u227 u228 u229 u230 u231 u232 u233 u234 u235 u236 u237 u238 u239 u240 u241 u242 u243 u244 u245 u246 u247 u248 u249 u250 u251 u252 u253 u254 u255 u256 u257 u258 u259 u260 u261 u262 u263 u264 u265 u266 u267 u268 u269 u270 u271 u272 u273 u274 u275 u276 u277 u278 u279 u280 u281 u282 u283 u284 u285 u286 u287 u288 u289 u290 u291 u292 u293 u294 u295 u296 u297 u298 u299 u300 u301 u302 u303 u304 u305 u306 u307 u308 u309 u310 u311 u312 u313 u314 u315 u316 u317 u318 u319 u320 u321 u322 u323 u324 u325 : Value) (KK K2 : Act → World → Prop) (hKK : ∀ a' w', Code.wp Tryd.prog z8b (Exit.then K2 (bodyPost Tryd.prog Tryd.f6 fun e w' => e = .returned (.bool true) ∧ Below w.heap.size w w')) a' w' → KK a' w') (hK2 : ∀ a' w', Code.wp Tryd.prog z9 (bodyPost Tryd.prog Tryd.f6 fun e w' => e = .returned (.bool true) ∧ Below w.heap.size w w') a' w' → K2 a' w') :
    Code.wp Tryd.prog z8 (Exit.then KK (Exit.then K2 (bodyPost Tryd.prog Tryd.f6 fun e w' => e = .returned (.bool true) ∧ Below w.heap.size w w'))) ⟨#[v0, .int .i64 (q : Int), v2, u3, u4, u5, u6, u7, u8, .iface 86 (.agg pp.cs), .pointer (some ⟨gx, 0, none⟩), .int .i64 er, u12, u13, .slice (some la) (K + 1) lc, .int .i64 (K : Int), u16, u17, u18, u19, u20, u21, u22, u23, u24, u25, u26, u27, u28, u29, u30, u31, u32, u33, u34, u35, u36, u37, u38, u39, u40, u41, u42, u43, u44, u45, u46, u47, u48, u49, u50, u51, u52, u53, u54, u55, u56, u57, u58, u59, u60, u61, u62, u63, u64, u65, u66, u67, u68, u69, u70, u71, u72, u73, u74, u75, u76, u77, u78, u79, u80, u81, u82, u83, u84, u85, u86, u87, u88, u89, u90, u91, u92, u93, u94, u95, u96, u97, u98, u99, u100, u101, u102, u103, u104, u105, u106, u107, u108, u109, u110, u111, u112, u113, u114, u115, u116, u117, u118, u119, u120, u121, u122, u123, u124, u125, u126, u127, u128, u129, u130, u131, u132, u133, u134, u135, u136, u137, u138, u139, u140, u141, u142, u143, u144, u145, u146, u147, u148, u149, u150, u151, u152, u153, u154, u155, u156, u157, u158, u159, u160, u161, u162, u163, u164, u165, u166, u167, u168, u169, u170, u171, u172, u173, u174, u175, u176, u177, u178, u179, u180, u181, u182, u183, u184, u185, u186, u187, u188, u189, u190, u191, u192, u193, u194, u195, u196, u197, u198, u199, u200, u201, u202, u203, u204, u205, u206, u207, u208, u209, u210, u211, u212, u213, u214, u215, u216, u217, u218, u219, u220, u221, u222, u223, u224, u225, u226, u227, u228, u229, u230, u231, u232, u233, u234, u235, u236, u237, u238, u239, u240, u241, u242, u243, u244, u245, u246, u247, u248, u249, u250, u251, u252, u253, u254, u255, u256, u257, u258, u259, u260, u261, u262, u263, u264, u265, u266, u267, u268, u269, u270, u271, u272, u273, u274, u275, u276, u277, u278, u279, u280, u281, u282, u283, u284, u285, u286, u287, u288, u289, u290, u291, u292, u293, u294, u295, u296, u297, u298, u299, u300, u301, u302, u303, u304, u305, u306, u307, u308, u309, u310, u311, u312, u313, u314, u315, u316, u317, u318, u319, u320, u321, u322, u323, u324, u325], []⟩ W := by
  have H2 := Lib.hid h2
  have HK := Lib.hid hK
  have HW := Lib.hid hw
  have HS := Lib.hid hs
  have hk48 := hs.k
  clear h2 hK hw hs
  conv => arg 2; whnf
  go_wp2_with fail
  conv => arg 2; whnf
  go_wp2_with fail
  go_loopw [16] (fun o wr => ∃ k : Nat, 9 ≤ k ∧ k ≤ 11 ∧ o = .int .i64 k ∧ LzS w wr L la lc K pp gx x ax cx) (fun o _ => 11 - (intOf o).toNat)
  case atStart => exact ⟨9, by omega, by omega, rfl, HS.out⟩
  case round =>
    obtain ⟨k, hk9, hk11, rfl, hs⟩ := hrel
    have HS1 := Lib.hid hs
    clear HS
    have HS := Lib.hid HS1.out
    clear HS1 hs
    have hkk : k = 9 ∨ k = 10 ∨ k = 11 := by omega
    clear hk9 hk11
    rcases hkk with rfl | rfl | rfl
    · have HLL := Lib.hid HS.out.r.1
      have HCE := Lib.hid (cells_at HS.out.r)
      have hkt : ((K : Int) + 1).toNat = K + 1 := by omega
      have h1w : 1 < wr.heap.size := HS.out.h
      have hlc : K + 1 ≤ lc := HS.out.r.2.1
      have hlI : (K : Int) + 1 ≤ (lc : Int) := by omega
      go_wp2_with (at_builtin; (refine L_grow rfl _ _ _ rfl sl48 la (K + 1) (K + 1) (L.flatMap Nd.cs) rfl (by rw [flat_len Nd.cs 7 Nd_len2, HLL.out]) (fun j u hj => ((bel2 wr _ _).cell (block_lt_of_cell' (HCE.out j u hj))).trans (HCE.out j u hj)) _ 1 1 (Nd.cs (ndK 9 q K (some ⟨wr.heap.size, 0, none⟩) 2)) rfl rfl (new_nd (wr.alloc (.cells #[.int .i64 (q : Int), .int .i64 (K : Int)] 3)) (ndK 9 q K (some ⟨wr.heap.size, 0, none⟩) 2) (World.size_alloc _ _)) (by simp [Nd.cs, Value.oneCell']) (by omega) (by omega) (by simp [maxLen]; omega) (fun a6 c6 w6 ho6 hg6 => ?_)
                                have hb6 := grown0 hg6
                                have HE6 := Lib.hid (HS.out.env hb6 (tl := [(ndK 9 q K (some ⟨wr.heap.size, 0, none⟩) 2)]) (by simpa using ho6) (by omega) (fun nd hm => by simp only [List.mem_singleton] at hm; subst hm; exact ndK_w hg6))
                                have HS6 := Lib.hid (HS.out.below hb6)
                                clear ho6 hg6 hb6))
      with_reducible refine (worthV_any w6 a6 (K + 1 + 1) c6 (L ++ [(ndK 9 q K (some ⟨wr.heap.size, 0, none⟩) 2)]) pp HE6.out H2.out.v (env_kids HE6.out.n) HS6.out.t HS6.out.h ((K : Int) + 1) ⟨by omega, by omega⟩ (env_small H2.out.small (fun nd hm => by simp only [List.mem_singleton] at hm; subst hm; simp [ndK]) _) (fun z hz => by rw [show (K : Int) + 1 = ((K + 1 : Nat) : Int) from rfl] at hz; exact worth_size H2.out.v (env_kids HE6.out.n) (fun i nd _ hi => env_small H2.out.small (fun nd hm => by simp only [List.mem_singleton] at hm; subst hm; simp [ndK]) (i : Int) i nd (Int.le_refl _) hi) hz)).mono ?_
      rintro e w7 ⟨⟨y, g, ay, cy, rfl, hwu, hzy, hyl⟩, hb7⟩
      rw [ndK_eq HK.out, show (K : Int) + 1 = ((q + ms.length + 1 : Nat) : Int) by rw [HK.out]; rfl] at hwu
      have HYL := Lib.hid hyl
      have HZY := Lib.hid hzy
      have HT2 := Lib.hid (H2.out.two (by simp) HW.out hwu)
      have HS7 := Lib.hid (HS6.out.below hb7)
      clear hwu hyl hzy hb7
      go_upto_region 14 with (fail)
      obtain ⟨w8, hw8⟩ : ∃ w8, w8 = w7.alloc (boxS y ay y.ss.length cy) := ⟨_, rfl⟩
      have g8 : w8.heap[w7.heap.size]? = some (boxS y ay y.ss.length cy) := by rw [hw8]; exact heap_alloc_new w7 _
      have hb8 : Below w7.heap.size w7 w8 := by rw [hw8]; exact bel1 _ _
      rw [← hw8]
      clear hw8
      have G8 := Lib.hid g8
      have HS8 := Lib.hid (HS7.out.below hb8)
      have HZY8 := Lib.hid (HZY.out.below hb8)
      obtain ⟨c0, c1, c2, c3, -⟩ := box4 HS8.out.g
      obtain ⟨d0, d1, d2, d3, -⟩ := box4 g8
      clear g8 hb8 hkt hlI hlc
      rcases HT2.out with ⟨he, hg⟩ | ⟨he, hk, hg⟩ | ⟨he, hk, h2, hg⟩ | ⟨he, hk, hn, ho, hg, hyx⟩ | ⟨he, hk, hn, ho, hg, hyx⟩ | ⟨he, hk, hn, ho⟩ | ⟨he, hk, hn, ho⟩
      · have b1 : (er != 0) = true := bne_iff_ne.2 he
        have b2 : (er == 0) = false := beq_eq_false_iff_ne.2 he
        have b3 : (g != er) = false := by rw [hg]; simp
        have k1 : (x.k == 2) = false := by
          rcases HW.out with ⟨_, h⟩ | ⟨_, h⟩
          · exact absurd h he
          · rw [h]; rfl
        clear he hg
        go_wp2_with fail
        all_goals (try go_big_false)
        go_roundw
        case rel => exact ⟨10, by omega, by omega, rfl, HS8.out⟩
        case measure => simp [intOf]
      · have b1 : (er != 0) = false := by rw [he]; rfl
        have b2 : (er == 0) = true := by rw [he]; rfl
        have k0 : (x.k == 0) = true := by rw [hk]; rfl
        have k1 : (x.k == 2) = false := by rw [hk]; rfl
        have k3 : decide (0 < x.k) = false := by rw [hk]; rfl
        have b3 : (g != 110) = false := by rw [hg]; rfl
        clear he hk hg
        go_wp2_with fail
        all_goals (try go_big_false)
        go_roundw
        case rel => exact ⟨10, by omega, by omega, rfl, HS8.out⟩
        case measure => simp [intOf]
      · have b1 : (er != 0) = false := by rw [he]; rfl
        have b2 : (er == 0) = true := by rw [he]; rfl
        have k0 : (x.k == 0) = false := beq_eq_false_iff_ne.2 (by omega)
        have k1 : (x.k == 2) = false := beq_eq_false_iff_ne.2 h2
        have k2 : (x.k != 2) = true := bne_iff_ne.2 h2
        have k3 : decide (0 < x.k) = true := decide_eq_true hk
        have b3 : (g != 100) = false := by rw [hg]; rfl
        clear he hk h2 hg
        go_wp2_with fail
        all_goals (try go_big_false)
        go_roundw
        case rel => exact ⟨10, by omega, by omega, rfl, HS8.out⟩
        case measure => simp [intOf]
      · have b1 : (er != 0) = false := by rw [he]; rfl
        have b2 : (er == 0) = true := by rw [he]; rfl
        have k0 : (x.k == 0) = false := by rw [hk]; rfl
        have k1 : (x.k == 2) = true := by rw [hk]; rfl
        have k2 : (x.k != 2) = false := by rw [hk]; rfl
        have k3 : decide (0 < x.k) = true := by rw [hk]; rfl
        have n0 : (x.n == 0) = true := by rw [hn]; rfl
        have n1 : (x.n == 1) = false := by rw [hn]; rfl
        have b3 : (g != 0) = false := by rw [hg]; rfl
        have g8 := G8.out
        rw [hyx] at g8
        have hz := HZY8.out
        rw [hyx] at hz
        have hl := HYL.out
        rw [hyx] at hl
        have HRY := Lib.hid ((hz.rz (by omega)).rs)
        clear d0 d1 d2 d3
        obtain ⟨d0, d1, d2, d3, -⟩ := box4 g8
        clear he hk hn ho hg hyx g8 hz hl
        go_wp2_with fail
        with_reducible refine (sameV_any w8 x ay x.ss.length cy HRY.out ax cx HS8.out.s).mono ?_
        rintro e w9 ⟨rfl, hb9⟩
        have HS9 := Lib.hid (HS8.out.below hb9)
        clear hb9 c0 c1 c2 c3 d0 d1 d2 d3
        go_wp2_with fail
        all_goals (try go_big_false)
        go_roundw
        case rel => exact ⟨10, by omega, by omega, rfl, HS9.out⟩
        case measure => simp [intOf]
      · exact absurd ho (by decide)
      · have b1 : (er != 0) = false := by rw [he]; rfl
        have b2 : (er == 0) = true := by rw [he]; rfl
        have k0 : (x.k == 0) = false := by rw [hk]; rfl
        have k1 : (x.k == 2) = true := by rw [hk]; rfl
        have k2 : (x.k != 2) = false := by rw [hk]; rfl
        have k3 : decide (0 < x.k) = true := by rw [hk]; rfl
        have n0 : (x.n == 0) = false := by rw [hn]; rfl
        have n1 : (x.n == 1) = true := by rw [hn]; rfl
        clear he hk hn ho
        go_wp2_with fail
        all_goals (try go_big_false)
        go_roundw
        case rel => exact ⟨10, by omega, by omega, rfl, HS8.out⟩
        case measure => simp [intOf]
      · exact absurd ho (by decide)
    · have HLL := Lib.hid HS.out.r.1
      have HCE := Lib.hid (cells_at HS.out.r)
      have hkt : ((K : Int) + 1).toNat = K + 1 := by omega
      have h1w : 1 < wr.heap.size := HS.out.h
      have hlc : K + 1 ≤ lc := HS.out.r.2.1
      have hlI : (K : Int) + 1 ≤ (lc : Int) := by omega
      go_wp2_with (at_builtin; (refine L_grow rfl _ _ _ rfl sl48 la (K + 1) (K + 1) (L.flatMap Nd.cs) rfl (by rw [flat_len Nd.cs 7 Nd_len2, HLL.out]) (fun j u hj => ((bel2 wr _ _).cell (block_lt_of_cell' (HCE.out j u hj))).trans (HCE.out j u hj)) _ 1 1 (Nd.cs (ndK 10 q K (some ⟨wr.heap.size, 0, none⟩) 2)) rfl rfl (new_nd (wr.alloc (.cells #[.int .i64 (q : Int), .int .i64 (K : Int)] 3)) (ndK 10 q K (some ⟨wr.heap.size, 0, none⟩) 2) (World.size_alloc _ _)) (by simp [Nd.cs, Value.oneCell']) (by omega) (by omega) (by simp [maxLen]; omega) (fun a6 c6 w6 ho6 hg6 => ?_)
                                have hb6 := grown0 hg6
                                have HE6 := Lib.hid (HS.out.env hb6 (tl := [(ndK 10 q K (some ⟨wr.heap.size, 0, none⟩) 2)]) (by simpa using ho6) (by omega) (fun nd hm => by simp only [List.mem_singleton] at hm; subst hm; exact ndK_w hg6))
                                have HS6 := Lib.hid (HS.out.below hb6)
                                clear ho6 hg6 hb6))
      with_reducible refine (worthV_any w6 a6 (K + 1 + 1) c6 (L ++ [(ndK 10 q K (some ⟨wr.heap.size, 0, none⟩) 2)]) pp HE6.out H2.out.v (env_kids HE6.out.n) HS6.out.t HS6.out.h ((K : Int) + 1) ⟨by omega, by omega⟩ (env_small H2.out.small (fun nd hm => by simp only [List.mem_singleton] at hm; subst hm; simp [ndK]) _) (fun z hz => by rw [show (K : Int) + 1 = ((K + 1 : Nat) : Int) from rfl] at hz; exact worth_size H2.out.v (env_kids HE6.out.n) (fun i nd _ hi => env_small H2.out.small (fun nd hm => by simp only [List.mem_singleton] at hm; subst hm; simp [ndK]) (i : Int) i nd (Int.le_refl _) hi) hz)).mono ?_
      rintro e w7 ⟨⟨y, g, ay, cy, rfl, hwu, hzy, hyl⟩, hb7⟩
      rw [ndK_eq HK.out, show (K : Int) + 1 = ((q + ms.length + 1 : Nat) : Int) by rw [HK.out]; rfl] at hwu
      have HYL := Lib.hid hyl
      have HZY := Lib.hid hzy
      have HT2 := Lib.hid (H2.out.two (by simp) HW.out hwu)
      have HS7 := Lib.hid (HS6.out.below hb7)
      clear hwu hyl hzy hb7
      go_upto_region 14 with (fail)
      obtain ⟨w8, hw8⟩ : ∃ w8, w8 = w7.alloc (boxS y ay y.ss.length cy) := ⟨_, rfl⟩
      have g8 : w8.heap[w7.heap.size]? = some (boxS y ay y.ss.length cy) := by rw [hw8]; exact heap_alloc_new w7 _
      have hb8 : Below w7.heap.size w7 w8 := by rw [hw8]; exact bel1 _ _
      rw [← hw8]
      clear hw8
      have G8 := Lib.hid g8
      have HS8 := Lib.hid (HS7.out.below hb8)
      have HZY8 := Lib.hid (HZY.out.below hb8)
      obtain ⟨c0, c1, c2, c3, -⟩ := box4 HS8.out.g
      obtain ⟨d0, d1, d2, d3, -⟩ := box4 g8
      clear g8 hb8 hkt hlI hlc
      rcases HT2.out with ⟨he, hg⟩ | ⟨he, hk, hg⟩ | ⟨he, hk, h2, hg⟩ | ⟨he, hk, hn, ho, hg, hyx⟩ | ⟨he, hk, hn, ho, hg, hyx⟩ | ⟨he, hk, hn, ho⟩ | ⟨he, hk, hn, ho⟩
      · have b1 : (er != 0) = true := bne_iff_ne.2 he
        have b2 : (er == 0) = false := beq_eq_false_iff_ne.2 he
        have b3 : (g != er) = false := by rw [hg]; simp
        have k1 : (x.k == 2) = false := by
          rcases HW.out with ⟨_, h⟩ | ⟨_, h⟩
          · exact absurd h he
          · rw [h]; rfl
        clear he hg
        go_wp2_with fail
        all_goals (try go_big_false)
        go_roundw
        case rel => exact ⟨11, by omega, by omega, rfl, HS8.out⟩
        case measure => simp [intOf]
      · have b1 : (er != 0) = false := by rw [he]; rfl
        have b2 : (er == 0) = true := by rw [he]; rfl
        have k0 : (x.k == 0) = true := by rw [hk]; rfl
        have k1 : (x.k == 2) = false := by rw [hk]; rfl
        have k3 : decide (0 < x.k) = false := by rw [hk]; rfl
        have b3 : (g != 110) = false := by rw [hg]; rfl
        clear he hk hg
        go_wp2_with fail
        all_goals (try go_big_false)
        go_roundw
        case rel => exact ⟨11, by omega, by omega, rfl, HS8.out⟩
        case measure => simp [intOf]
      · have b1 : (er != 0) = false := by rw [he]; rfl
        have b2 : (er == 0) = true := by rw [he]; rfl
        have k0 : (x.k == 0) = false := beq_eq_false_iff_ne.2 (by omega)
        have k1 : (x.k == 2) = false := beq_eq_false_iff_ne.2 h2
        have k2 : (x.k != 2) = true := bne_iff_ne.2 h2
        have k3 : decide (0 < x.k) = true := decide_eq_true hk
        have b3 : (g != 100) = false := by rw [hg]; rfl
        clear he hk h2 hg
        go_wp2_with fail
        all_goals (try go_big_false)
        go_roundw
        case rel => exact ⟨11, by omega, by omega, rfl, HS8.out⟩
        case measure => simp [intOf]
      · exact absurd ho (by decide)
      · have b1 : (er != 0) = false := by rw [he]; rfl
        have b2 : (er == 0) = true := by rw [he]; rfl
        have k0 : (x.k == 0) = false := by rw [hk]; rfl
        have k1 : (x.k == 2) = true := by rw [hk]; rfl
        have k2 : (x.k != 2) = false := by rw [hk]; rfl
        have k3 : decide (0 < x.k) = true := by rw [hk]; rfl
        have n0 : (x.n == 0) = false := by rw [hn]; rfl
        have n1 : (x.n == 1) = true := by rw [hn]; rfl
        have b3 : (g != 0) = false := by rw [hg]; rfl
        have g8 := G8.out
        rw [hyx] at g8
        have hz := HZY8.out
        rw [hyx] at hz
        have hl := HYL.out
        rw [hyx] at hl
        have HRY := Lib.hid ((hz.rz (by omega)).rs)
        clear d0 d1 d2 d3
        obtain ⟨d0, d1, d2, d3, -⟩ := box4 g8
        clear he hk hn ho hg hyx g8 hz hl
        go_wp2_with fail
        with_reducible refine (sameV_any w8 x ay x.ss.length cy HRY.out ax cx HS8.out.s).mono ?_
        rintro e w9 ⟨rfl, hb9⟩
        have HS9 := Lib.hid (HS8.out.below hb9)
        clear hb9 c0 c1 c2 c3 d0 d1 d2 d3
        go_wp2_with fail
        all_goals (try go_big_false)
        go_roundw
        case rel => exact ⟨11, by omega, by omega, rfl, HS9.out⟩
        case measure => simp [intOf]
      · exact absurd ho (by decide)
      · have b1 : (er != 0) = false := by rw [he]; rfl
        have b2 : (er == 0) = true := by rw [he]; rfl
        have k0 : (x.k == 0) = false := by rw [hk]; rfl
        have k1 : (x.k == 2) = true := by rw [hk]; rfl
        have k2 : (x.k != 2) = false := by rw [hk]; rfl
        have k3 : decide (0 < x.k) = true := by rw [hk]; rfl
        have n0 : (x.n == 0) = true := by rw [hn]; rfl
        have n1 : (x.n == 1) = false := by rw [hn]; rfl
        clear he hk hn ho
        go_wp2_with fail
        all_goals (try go_big_false)
        go_roundw
        case rel => exact ⟨11, by omega, by omega, rfl, HS8.out⟩
        case measure => simp [intOf]
    · go_wp2_with fail
      refine lazy_c w wr ns ms L q K pp la lc gx x er ax cx H2.out HK.out HW.out HS.out _ _ _ _ _ _ _ _ _ _ _ _ _ _ _ _ _ _ _ _ _ _ _ _ _ _ _ _ _ _ _ _ _ _ _ _ _ _ _ _ _ _ _ _ _ _ _ _ _ _ _ _ _ _ _ _ _ _ _ _ _ _ _ _ _ _ _ _ _ _ _ _ _ _ _ _ _ _ _ _ _ _ _ _ _ _ _ _ _ _ _ _ _ _ _ _ _ _ _ _ _ _ _ _ _ _ _ _ _ _ _ _ _ _ _ _ _ _ _ _ _ _ _ _ _ _ _ _ _ _ _ _ _ _ _ _ _ _ _ _ _ _ _ _ _ _ _ _ _ _ _ _ _ _ _ _ _ _ _ _ _ _ _ _ _ _ _ _ _ _ _ _ _ _ _ _ _ _ _ _ _ _ _ _ _ _ _ _ _ _ _ _ _ _ _ _ _ _ _ _ _ _ _ _ _ _ _ _ _ _ _ _ _ _ _ _ _ _ _ _ _ _ _ _ _ _ _ _ _ _ _ _ _ _ _ _ _ _ _ _ _ _ _ _ _ _ _ _ _ _ _ _ _ _ _ _ _ _ _ _ _ _ _ _ _ _ _ _ _ _ _ _ _ _ _ _ _ _ _ _ _ _ _ _ _ _ _ _ _ _ _ _ _ _ _ _ _ _ _ _ _ _ _ _ _ _ _ _ _ _ _ _ _ _ _ _ _ _ _ _
end Go.Proofs.YtcnckjlmldnblaaDoor
