import Derived.Test.YtcnckjlmldnblaaDoorE66a
import Derived.BigGuardPart
import Derived.IntWalk
import Derived.ArgAppend
import Derived.Deep.AppendLies
namespace Go.Proofs.YtcnckjlmldnblaaDoor
open Go Go.RowKit
set_option linter.unusedVariables false
set_option linter.unusedSimpArgs false
/-- The nodes of an if, the second place told by one letter. -/
def nd3K (q K : Nat) (ka : Option Addr) (kc : Nat) : Nd := ⟨23, ByteArray.empty, 0, 0, ByteArray.empty, none, 0, 0, ka, 3, kc, [(K : Int) + 1, (q : Int), (K : Int)]⟩
theorem nd3K_eq {q K M : Nat} {ka : Option Addr} {kc : Nat} (h : K = q + M) : nd3K q K ka kc = nd3 q M ka kc := by subst h; rfl
theorem ndB_w (w : World) {i : Int} (hi : i = 0 ∨ i = 1) : NdW w (ndB i) :=
  ⟨⟨(show RS 1 Iv w none 0 0 [] from ⟨rfl, Nat.le_refl _, by omega, fun i x h => by simp at h⟩), (show ByteArray.empty.size ≤ maxLen by unfold maxLen; decide), by simp only [ndB]; omega⟩, [], rs_nil1 w, fun _ => rfl⟩
theorem nd3K_w {w w' : World} {q K : Nat} {o : Obj} (h : ((w.alloc (.cells #[.int .i64 ((K : Int) + 1), .int .i64 (q : Int), .int .i64 (K : Int)] 3)).alloc o).grownBy w' none) : NdW w' (nd3K q K (some ⟨w.heap.size, 0, none⟩) 3) :=
  ⟨⟨iv_row (l := [(K : Int) + 1, (q : Int), (K : Int)]) h (by simp), (show ByteArray.empty.size ≤ maxLen by unfold maxLen; decide), by simp [nd3K]⟩, [], rs_nil1 w', fun _ => rfl⟩
/-- What stands while the two ifs are asked: W9 is the world ahead of the box that is written over. -/
structure LzT (w W9 W : World) (L : List Nd) (la : Addr) (lc K : Nat) (pp : Pd) (gx : Nat) (x : Vl) (ax : Option Addr) (cx gy : Nat) (y : Vl) (ay : Option Addr) (cy : Nat) : Prop where
  s : LzS w W9 L la lc K pp gx x ax cx
  b : Below W9.heap.size W9 W
  z : ∃ z0 z1 z2 z3, W.heap[W9.heap.size]? = some (.cells #[z0, z1, z2, z3] 25 (0, 0))
  g : W.heap[gy]? = some (boxS y ay y.ss.length cy)
  n : gy ≠ W9.heap.size
  y : ∃ B, SV W B (VA y ay y.ss.length cy) y
section
variable {w W9 W W' : World} {L : List Nd} {la : Addr} {lc K : Nat} {pp : Pd} {gx : Nat} {x : Vl} {ax : Option Addr} {cx gy : Nat} {y : Vl} {ay : Option Addr} {cy : Nat}
theorem LzT.below (h : LzT w W9 W L la lc K pp gx x ax cx gy y ay cy) (hb : Below W.heap.size W W') : LzT w W9 W' L la lc K pp gx x ax cx gy y ay cy := by
  obtain ⟨z0, z1, z2, z3, hz⟩ := h.z
  obtain ⟨B, hy⟩ := h.y
  exact ⟨h.s, h.b.trans (hb.mono h.b.size), ⟨z0, z1, z2, z3, (hb.block _ (Array.getElem?_eq_some_iff.1 hz).1).trans hz⟩, (hb.block _ (Array.getElem?_eq_some_iff.1 h.g).1).trans h.g, h.n, ⟨B, hy.below hb⟩⟩
theorem LzT.store (h : LzT w W9 W L la lc K pp gx x ax cx gy y ay cy) (x0 x1 x2 x3 : Value) : LzT w W9 ((((W.setCell ⟨W9.heap.size, 0, none⟩ x0).setCell ⟨W9.heap.size, 1, none⟩ x1).setCell ⟨W9.heap.size, 2, none⟩ x2).setCell ⟨W9.heap.size, 3, none⟩ x3) L la lc K pp gx x ax cx gy y ay cy := by
  obtain ⟨z0, z1, z2, z3, hz⟩ := h.z
  obtain ⟨B, hy⟩ := h.y
  exact ⟨h.s, (((h.b.setCell (p := ⟨W9.heap.size, 0, none⟩) (Nat.le_refl _) x0).setCell (p := ⟨W9.heap.size, 1, none⟩) (Nat.le_refl _) x1).setCell (p := ⟨W9.heap.size, 2, none⟩) (Nat.le_refl _) x2).setCell (p := ⟨W9.heap.size, 3, none⟩) (Nat.le_refl _) x3,
    ⟨_, _, _, _, heap_box hz x0 x1 x2 x3⟩, (heap_setCell_other _ ⟨W9.heap.size, 3, none⟩ gy x3 h.n).trans ((heap_setCell_other _ ⟨W9.heap.size, 2, none⟩ gy x2 h.n).trans ((heap_setCell_other _ ⟨W9.heap.size, 1, none⟩ gy x1 h.n).trans ((heap_setCell_other W ⟨W9.heap.size, 0, none⟩ gy x0 h.n).trans h.g))), h.n, ⟨B, hy.setbox hz (by decide) _ _ _ _⟩⟩
theorem LzT.all (h : LzT w W9 W L la lc K pp gx x ax cx gy y ay cy) : LzS w W L la lc K pp gx x ax cx := h.s.below h.b
end
set_option maxRecDepth 100000 in
set_option maxHeartbeats 16000000 in
theorem lazy_d (w W9 W : World) (ns ms L : List Nd) (q K : Nat) (pp : Pd) (la : Addr) (lc gx : Nat) (x : Vl) (er : Int) (ax : Option Addr) (cx : Nat) (gy : Nat) (y : Vl) (f : Int) (ay : Option Addr) (cy : Nat) (h2 : Two2 ns ms L q pp.vw) (hK : K = q + ms.length) (hw : WU (worthR ns q pp.vw) x er) (hy : WU (worthR L ((q + ms.length : Nat) : Int) pp.vw) y f) (hyl : y.ss.length ≤ 1000000) (ht : LzT w W9 W L la lc K pp gx x ax cx gy y ay cy) (v0 v2 u3 u4 u5 u6 u7 u8 u12 u13 u16 u17 u18 u19 u21 u24 u25 u26 u27 u28 u29 u30 u31 u32 u33 u34 u35 u36 u37 u38 u39 u40 u41 u42 u43 u44 u45 u46 u47 u48 u49 u50 u51 u52 u53 u54 u55 u56 u57 u58 u59 u60 u61 u62 u63 u64 u65 u66 u67 u68 u69 u70 u71 u72 u73 u74 u75 u76 u77 u78 u79 u80 u81 u82 u83 u84 u85 u86 u87 u88 u89 u90 u91 u92 u93 u94 u95 u96 u97 u98 u99 u100 u101 u102 u103 u104 u105 u106 u107 u108 u109 u110 u111 u112 u113 u114 u115 u116 u117 u118 u119 u120 u121 u122 u123 u124 u125 u126 u127 u128 u129 u130 u131 u132 u133 u134 u135 u136 u137 u138 u139 u140 u141 u142 u143 u144 u145 u146 u147 u148 u149 u150 u151 u152 u153 u154 u155 u156 u157 u158 u159 u160 u161 u162 u163 u164 u165 u166 u167 u168 u169 u170 u171 u172 u173 u174 u175 u176 u177 u178 u179 u180 u181 u182 u183 u184 u185 u186 u187 u188 u189 u190 u191 u192 u193 u194 u195 u196 u197 u198 u199 u200 u201 u202 u203 u204 u205 u206 u207 u208 u209 u210 u211 u212 u213 u214 u215 u216 u217 u218 u219 u220 u221 u222 u223 u224 u225 u226 u227 u228 u229 u230 u231 u232 u233 u234 u235 u236 u237 u238 u239 u240 u241 u242 u243 u244 u245 u246 u247 u248 u249 u250 u251 u252 u253 u254 u255 u256 u257 u258 u259 u260 u261 u262 u263 u264 u265 u266 u267 u268 u269 u270 u271 u272 u273 u274 u275 u276 u277 u278 u279 u280 u281 u282 u283 u284 u285 u286 u287 u288 u289 u290 u291 u292 u293 u294 u295 u296 u297 u298 u299 u300 u301 u302 u303 u304 u305 u306 u307 u308 u309 u310 u311 u312 u313 u314 u315 u316 u317 u318 u319 u320 u321 u322 u323 u324 u325 : Value) (KK K2 : Act → World → Prop) (hKK : ∀ a' w', Code.wp Tryd.prog z12b (Exit.then K2 (bodyPost Tryd.prog Tryd.f6 fun e w' => e = .returned (.bool true) ∧ Below w.heap.size w w')) a' w' → KK a' w') (hK2 : ∀ a' w', Code.wp Tryd.prog z13 (bodyPost Tryd.prog Tryd.f6 fun e w' => e = .returned (.bool true) ∧ Below w.heap.size w w') a' w' → K2 a' w') :
    Code.wp Tryd.prog z12 (Exit.then KK (Exit.then K2 (bodyPost Tryd.prog Tryd.f6 fun e w' => e = .returned (.bool true) ∧ Below w.heap.size w w'))) ⟨#[v0, .int .i64 (q : Int), v2, u3, u4, u5, u6, u7, u8, .iface 86 (.agg pp.cs), .pointer (some ⟨gx, 0, none⟩), .int .i64 er, u12, u13, .slice (some la) (K + 1) lc, .int .i64 (K : Int), u16, u17, u18, u19, .pointer (some ⟨W9.heap.size, 0, none⟩), u21, .pointer (some ⟨gy, 0, none⟩), .int .i64 f, u24, u25, u26, u27, u28, u29, u30, u31, u32, u33, u34, u35, u36, u37, u38, u39, u40, u41, u42, u43, u44, u45, u46, u47, u48, u49, u50, u51, u52, u53, u54, u55, u56, u57, u58, u59, u60, u61, u62, u63, u64, u65, u66, u67, u68, u69, u70, u71, u72, u73, u74, u75, u76, u77, u78, u79, u80, u81, u82, u83, u84, u85, u86, u87, u88, u89, u90, u91, u92, u93, u94, u95, u96, u97, u98, u99, u100, u101, u102, u103, u104, u105, u106, u107, u108, u109, u110, u111, u112, u113, u114, u115, u116, u117, u118, u119, u120, u121, u122, u123, u124, u125, u126, u127, u128, u129, u130, u131, u132, u133, u134, u135, u136, u137, u138, u139, u140, u141, u142, u143, u144, u145, u146, u147, u148, u149, u150, u151, u152, u153, u154, u155, u156, u157, u158, u159, u160, u161, u162, u163, u164, u165, u166, u167, u168, u169, u170, u171, u172, u173, u174, u175, u176, u177, u178, u179, u180, u181, u182, u183, u184, u185, u186, u187, u188, u189, u190, u191, u192, u193, u194, u195, u196, u197, u198, u199, u200, u201, u202, u203, u204, u205, u206, u207, u208, u209, u210, u211, u212, u213, u214, u215, u216, u217, u218, u219, u220, u221, u222, u223, u224, u225, u226, u227, u228, u229, u230, u231, u232, u233, u234, u235, u236, u237, u238, u239, u240, u241, u242, u243, u244, u245, u246, u247, u248, u249, u250, u251, u252, u253, u254, u255, u256, u257, u258, u259, u260, u261, u262, u263, u264, u265, u266, u267, u268, u269, u270, u271, u272, u273, u274, u275, u276, u277, u278, u279, u280, u281, u282, u283, u284, u285, u286, u287, u288, u289, u290, u291, u292, u293, u294, u295, u296, u297, u298, u299, u300, u301, u302, u303, u304, u305, u306, u307, u308, u309, u310, u311, u312, u313, u314, u315, u316, u317, u318, u319, u320, u321, u322, u323, u324, u325], []⟩ W := by
  have H2 := Lib.hid h2
  have HK := Lib.hid hK
  have HW := Lib.hid hw
  have HY := Lib.hid hy
  have HYL := Lib.hid hyl
  have HT := Lib.hid ht
  have hk48 := ht.s.k
  clear h2 hK hw hy hyl ht
  conv => arg 2; whnf
  go_wp2_with fail
  conv => arg 2; whnf
  go_wp2_with fail
  go_loopw [24] (fun o wr => ∃ k : Nat, k ≤ 2 ∧ o = .int .i64 k ∧ LzT w W9 wr L la lc K pp gx x ax cx gy y ay cy) (fun o _ => 2 - (intOf o).toNat)
  case atStart => exact ⟨0, by omega, rfl, HT.out⟩
  case round =>
    obtain ⟨k, hk2, rfl, hs⟩ := hrel
    have HT1 := Lib.hid hs
    clear HT
    have HT := Lib.hid HT1.out
    clear HT1 hs
    have hkk : k = 0 ∨ k = 1 ∨ k = 2 := by omega
    clear hk2
    rcases hkk with rfl | rfl | rfl
    · have HS := Lib.hid HT.out.all
      have HLL := Lib.hid HS.out.r.1
      have HCE := Lib.hid (cells_at HS.out.r)
      have hkt : ((K : Int) + 1).toNat = K + 1 := by omega
      have h1w : 1 < wr.heap.size := HS.out.h
      have hlc : K + 1 ≤ lc := HS.out.r.2.1
      have hlI : (K : Int) + 1 ≤ (lc : Int) := by omega
      go_wp2_with (at_builtin; (refine L_grow rfl _ _ _ rfl sl48 la (K + 1) (K + 1) (L.flatMap Nd.cs) rfl (by rw [flat_len Nd.cs 7 Nd_len2, HLL.out]) (fun j u hj => ((bel2 wr _ _).cell (block_lt_of_cell' (HCE.out j u hj))).trans (HCE.out j u hj)) _ 2 2 (Nd.cs (ndB 0) ++ Nd.cs (nd3K q K (some ⟨wr.heap.size, 0, none⟩) 3)) rfl rfl (fun j u hj => by
                                    have hh := heap_alloc_new (wr.alloc (.cells #[.int .i64 ((K : Int) + 1), .int .i64 (q : Int), .int .i64 (K : Int)] 3)) (.cells #[.int .i64 2, .string ByteArray.empty, .int .i64 2, .int .i64 0, .string ByteArray.empty, .slice none 0 0, .slice none 0 0, .int .i64 23, .string ByteArray.empty, .int .i64 0, .int .i64 0, .string ByteArray.empty, .slice none 0 0, .slice (some ⟨wr.heap.size, 0, none⟩) 3 3] 61)
                                    rw [World.size_alloc] at hh
                                    exact World.news_of_block hh j u hj) (by simp [Nd.cs, Value.oneCell']) (by omega) (by omega) (by simp [maxLen]; omega) (fun a6 c6 w6 ho6 hg6 => ?_)
                                have hb6 := grown0 hg6
                                have HE6 := Lib.hid (HS.out.env hb6 (tl := [ndB 0, (nd3K q K (some ⟨wr.heap.size, 0, none⟩) 3)]) (by simpa using ho6) (by omega) (fun nd hm => by simp only [List.mem_cons, List.not_mem_nil, or_false] at hm; rcases hm with rfl | rfl; exact ndB_w _ (by simp); exact nd3K_w hg6))
                                have HT6 := Lib.hid (HT.out.below hb6)
                                clear ho6 hg6 hb6))
      with_reducible refine (worthV_any w6 a6 (K + 1 + 2) c6 (L ++ [ndB 0, (nd3K q K (some ⟨wr.heap.size, 0, none⟩) 3)]) pp HE6.out H2.out.v (env_kids HE6.out.n) HT6.out.all.t HT6.out.all.h ((K : Int) + 2) ⟨by omega, by omega⟩ (env_small H2.out.small (fun nd hm => by simp only [List.mem_cons, List.not_mem_nil, or_false] at hm; rcases hm with rfl | rfl <;> simp [ndB, nd3K]) _) (fun z hz => by rw [show (K : Int) + 2 = ((K + 2 : Nat) : Int) from rfl] at hz; exact worth_size H2.out.v (env_kids HE6.out.n) (fun i nd _ hi => env_small H2.out.small (fun nd hm => by simp only [List.mem_cons, List.not_mem_nil, or_false] at hm; rcases hm with rfl | rfl <;> simp [ndB, nd3K]) (i : Int) i nd (Int.le_refl _) hi) hz)).mono ?_
      rintro e w7 ⟨⟨z, g, az, cz, rfl, hwu, hzz, hzl⟩, hb7⟩
      rw [nd3K_eq HK.out, show (K : Int) + 2 = ((q + ms.length + 2 : Nat) : Int) by rw [HK.out]; rfl] at hwu
      have HZL := Lib.hid hzl
      have HZZ := Lib.hid hzz
      have HP2 := Lib.hid (H2.out.pick (by simp) HW.out HY.out hwu)
      have HT7 := Lib.hid (HT6.out.below hb7)
      clear hwu hzz hzl hb7
      obtain ⟨z0, z1, z2, z3, hz⟩ := HT7.out.z
      have HZ := Lib.hid hz
      obtain ⟨c0, c1, c2, c3, f0, f1, f2, f3⟩ := box4 hz
      clear hz hkt hlI hlc
      go_upto_region 26 with (fail)
      obtain ⟨w8, hw8⟩ : ∃ w8, w8 = ((((w7.setCell ⟨W9.heap.size, 0, none⟩ (.int .i64 z.k)).setCell ⟨W9.heap.size, 1, none⟩ (.int .i64 z.n)).setCell ⟨W9.heap.size, 2, none⟩ (.string z.t)).setCell ⟨W9.heap.size, 3, none⟩ (.slice az z.ss.length cz)) := ⟨_, rfl⟩
      have HT8 := Lib.hid (show LzT w W9 w8 L la lc K pp gx x ax cx gy y ay cy by rw [hw8]; exact HT7.out.store _ _ _ _)
      have g8 : w8.heap[W9.heap.size]? = some (boxS z az z.ss.length cz) := by rw [hw8]; exact heap_box HZ.out _ _ _ _
      have hs8 : SV w8 w6.heap.size (VA z az z.ss.length cz) z := by rw [hw8]; exact SV.setbox HZZ.out HZ.out (by decide) _ _ _ _
      rw [← hw8]
      clear hw8 c0 c1 c2 c3 f0 f1 f2 f3
      obtain ⟨hg, hzx⟩ := HP2.out.2 (by trivial)
      have hl := HZL.out
      rw [hzx] at g8 hs8 hl
      have HRZ := Lib.hid ((hs8.rz (by omega)).rs)
      obtain ⟨Bw, hsy⟩ := HT8.out.y
      have HRY := Lib.hid ((hsy.rz (by have := HYL.out; omega)).rs)
      clear hsy
      have b3 : (g != f) = false := by rw [hg]; simp
      obtain ⟨d0, d1, d2, d3, -⟩ := box4 g8
      obtain ⟨c0, c1, c2, c3, -⟩ := box4 HT8.out.g
      clear hg hzx g8 hs8 hl
      go_wp2_with fail
      with_reducible refine (sameV_any w8 y az y.ss.length cz HRZ.out ay cy HRY.out).mono ?_
      rintro e w9 ⟨rfl, hb9⟩
      have HT9 := Lib.hid (HT8.out.below hb9)
      clear hb9 c0 c1 c2 c3 d0 d1 d2 d3
      go_wp2_with fail
      all_goals (try go_big_false)
      go_roundw
      case rel => exact ⟨1, by omega, rfl, HT9.out⟩
      case measure => simp [intOf]
    · have HS := Lib.hid HT.out.all
      have HLL := Lib.hid HS.out.r.1
      have HCE := Lib.hid (cells_at HS.out.r)
      have hkt : ((K : Int) + 1).toNat = K + 1 := by omega
      have h1w : 1 < wr.heap.size := HS.out.h
      have hlc : K + 1 ≤ lc := HS.out.r.2.1
      have hlI : (K : Int) + 1 ≤ (lc : Int) := by omega
      go_wp2_with (at_builtin; (refine L_grow rfl _ _ _ rfl sl48 la (K + 1) (K + 1) (L.flatMap Nd.cs) rfl (by rw [flat_len Nd.cs 7 Nd_len2, HLL.out]) (fun j u hj => ((bel2 wr _ _).cell (block_lt_of_cell' (HCE.out j u hj))).trans (HCE.out j u hj)) _ 2 2 (Nd.cs (ndB 1) ++ Nd.cs (nd3K q K (some ⟨wr.heap.size, 0, none⟩) 3)) rfl rfl (fun j u hj => by
                                    have hh := heap_alloc_new (wr.alloc (.cells #[.int .i64 ((K : Int) + 1), .int .i64 (q : Int), .int .i64 (K : Int)] 3)) (.cells #[.int .i64 2, .string ByteArray.empty, .int .i64 2, .int .i64 1, .string ByteArray.empty, .slice none 0 0, .slice none 0 0, .int .i64 23, .string ByteArray.empty, .int .i64 0, .int .i64 0, .string ByteArray.empty, .slice none 0 0, .slice (some ⟨wr.heap.size, 0, none⟩) 3 3] 61)
                                    rw [World.size_alloc] at hh
                                    exact World.news_of_block hh j u hj) (by simp [Nd.cs, Value.oneCell']) (by omega) (by omega) (by simp [maxLen]; omega) (fun a6 c6 w6 ho6 hg6 => ?_)
                                have hb6 := grown0 hg6
                                have HE6 := Lib.hid (HS.out.env hb6 (tl := [ndB 1, (nd3K q K (some ⟨wr.heap.size, 0, none⟩) 3)]) (by simpa using ho6) (by omega) (fun nd hm => by simp only [List.mem_cons, List.not_mem_nil, or_false] at hm; rcases hm with rfl | rfl; exact ndB_w _ (by simp); exact nd3K_w hg6))
                                have HT6 := Lib.hid (HT.out.below hb6)
                                clear ho6 hg6 hb6))
      with_reducible refine (worthV_any w6 a6 (K + 1 + 2) c6 (L ++ [ndB 1, (nd3K q K (some ⟨wr.heap.size, 0, none⟩) 3)]) pp HE6.out H2.out.v (env_kids HE6.out.n) HT6.out.all.t HT6.out.all.h ((K : Int) + 2) ⟨by omega, by omega⟩ (env_small H2.out.small (fun nd hm => by simp only [List.mem_cons, List.not_mem_nil, or_false] at hm; rcases hm with rfl | rfl <;> simp [ndB, nd3K]) _) (fun z hz => by rw [show (K : Int) + 2 = ((K + 2 : Nat) : Int) from rfl] at hz; exact worth_size H2.out.v (env_kids HE6.out.n) (fun i nd _ hi => env_small H2.out.small (fun nd hm => by simp only [List.mem_cons, List.not_mem_nil, or_false] at hm; rcases hm with rfl | rfl <;> simp [ndB, nd3K]) (i : Int) i nd (Int.le_refl _) hi) hz)).mono ?_
      rintro e w7 ⟨⟨z, g, az, cz, rfl, hwu, hzz, hzl⟩, hb7⟩
      rw [nd3K_eq HK.out, show (K : Int) + 2 = ((q + ms.length + 2 : Nat) : Int) by rw [HK.out]; rfl] at hwu
      have HZL := Lib.hid hzl
      have HZZ := Lib.hid hzz
      have HP2 := Lib.hid (H2.out.pick (by simp) HW.out HY.out hwu)
      have HT7 := Lib.hid (HT6.out.below hb7)
      clear hwu hzz hzl hb7
      obtain ⟨z0, z1, z2, z3, hz⟩ := HT7.out.z
      have HZ := Lib.hid hz
      obtain ⟨c0, c1, c2, c3, f0, f1, f2, f3⟩ := box4 hz
      clear hz hkt hlI hlc
      go_upto_region 26 with (fail)
      obtain ⟨w8, hw8⟩ : ∃ w8, w8 = ((((w7.setCell ⟨W9.heap.size, 0, none⟩ (.int .i64 z.k)).setCell ⟨W9.heap.size, 1, none⟩ (.int .i64 z.n)).setCell ⟨W9.heap.size, 2, none⟩ (.string z.t)).setCell ⟨W9.heap.size, 3, none⟩ (.slice az z.ss.length cz)) := ⟨_, rfl⟩
      have HT8 := Lib.hid (show LzT w W9 w8 L la lc K pp gx x ax cx gy y ay cy by rw [hw8]; exact HT7.out.store _ _ _ _)
      have g8 : w8.heap[W9.heap.size]? = some (boxS z az z.ss.length cz) := by rw [hw8]; exact heap_box HZ.out _ _ _ _
      have hs8 : SV w8 w6.heap.size (VA z az z.ss.length cz) z := by rw [hw8]; exact SV.setbox HZZ.out HZ.out (by decide) _ _ _ _
      rw [← hw8]
      clear hw8 c0 c1 c2 c3 f0 f1 f2 f3
      obtain ⟨hg, hzx⟩ := HP2.out.1 (by trivial)
      have hl := HZL.out
      rw [hzx] at g8 hs8 hl
      have HRZ := Lib.hid ((hs8.rz (by omega)).rs)
      have b3 : (g != er) = false := by rw [hg]; simp
      obtain ⟨d0, d1, d2, d3, -⟩ := box4 g8
      obtain ⟨c0, c1, c2, c3, -⟩ := box4 HT8.out.all.g
      clear hg hzx g8 hs8 hl
      go_wp2_with fail
      with_reducible refine (sameV_any w8 x az x.ss.length cz HRZ.out ax cx HT8.out.all.s).mono ?_
      rintro e w9 ⟨rfl, hb9⟩
      have HT9 := Lib.hid (HT8.out.below hb9)
      clear hb9 c0 c1 c2 c3 d0 d1 d2 d3
      go_wp2_with fail
      all_goals (try go_big_false)
      go_roundw
      case rel => exact ⟨2, by omega, rfl, HT9.out⟩
      case measure => simp [intOf]
    · go_wp2_with fail
      conv => arg 2; whnf
      go_wp2_with (go_at_call 16; refine (known_any _ HT.out.all.t HT.out.all.h).mono ?_; rintro e w9 ⟨rfl, hb9⟩)
      go_ret
      exact ⟨rfl, HT.out.all.b.trans (hb9.mono HT.out.all.b.size)⟩
end Go.Proofs.YtcnckjlmldnblaaDoor
