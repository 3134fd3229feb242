import Derived.Test.YtoboabkaojfbaaaGreatDoorQ04
import Derived.BigRegion
import Derived.BigQuiet
import Derived.Deep.QuietTactic
namespace Go.Proofs.YtoboabkaojfbaaaGreatDoor
open Go Go.RowKit
set_option maxRecDepth 100000
set_option maxHeartbeats 1000000
set_option linter.unusedVariables false
set_option linter.unusedSimpArgs false

noncomputable def tkA : Code := headSeq (dropSeq 1 (Tryz.f212.body.getD .skip))
theorem u8_at (l : List UInt8) (i : Nat) (c : UInt8) (h : l[i]? = some c) : l.getD i 0 = c := by rw [List.getD_eq_getElem?_getD, h]; rfl
set_option maxHeartbeats 4000000
theorem take_a (w0 W : World) (bw b off c : Nat) (l : List UInt8) (hc : 64 ≤ c) (hat : ∀ i, i < 64 → ∃ x, l[i]? = some x ∧ w0.cell? ⟨b, off + i, none⟩ = some (.int .u8 (x.toNat : Int))) (hbb : b < bw) (hW : W.heap[bw]? = some (.cells (wArr l 0) 340 (0, 0))) (hb : Below bw w0 W) (v0 u2 u3 u5 u6 u7 u8 u9 u10 u11 u12 u13 u14 u15 u16 u17 u18 u19 u20 u21 u22 u23 u24 u25 u26 u27 u28 u29 u30 u31 u32 u33 u34 u35 u36 u37 u38 u39 u40 u41 u42 u43 u44 u45 u46 u47 u48 u49 u50 u51 u52 u53 u54 u55 u56 u57 u58 u59 u60 u61 u62 u63 u64 u65 u66 u67 u68 u69 u70 u71 u72 u73 u74 u75 u76 u77 u78 u79 u80 u81 u82 u83 u84 u85 u86 u87 u88 u89 u90 u91 u92 u93 u94 u95 u96 u97 u98 u99 u100 u101 u102 u103 u104 u105 u106 u107 u108 u109 u110 u111 u112 u113 u114 u115 u116 u117 u118 u119 u120 u121 u122 u123 u124 u125 u126 u127 u128 u129 u130 u131 u132 u133 u134 u135 u136 u137 u138 u139 u140 u141 u142 u143 u144 u145 u146 u147 u148 u149 u150 u151 u152 u153 u154 u155 u156 u157 u158 u159 u160 u161 u162 u163 u164 u165 u166 u167 u168 u169 u170 u171 u172 u173 u174 u175 u176 u177 u178 u179 u180 u181 u182 u183 u184 u185 u186 u187 u188 u189 u190 u191 u192 u193 u194 u195 u196 u197 u198 u199 u200 u201 u202 u203 u204 u205 u206 u207 u208 u209 u210 u211 u212 u213 u214 u215 u216 u217 u218 u219 : Value) (K : Act → World → Prop) (PST : Ending → World → Prop)
    (hK : ∀ (u2 u3 u5 u6 u7 u8 u9 u10 u11 u12 u13 u14 u15 u16 u17 u18 u19 u20 u21 u22 u23 u24 u25 u26 u27 u28 u29 u30 u31 u32 u33 u34 u35 u36 u37 u38 u39 u40 u41 u42 u43 u44 u45 u46 u47 u48 u49 u50 u51 u52 u53 u54 u55 u56 u57 u58 u59 u60 u61 u62 u63 u64 u65 u66 u67 u68 u69 u70 u71 u72 u73 u74 u75 u76 u77 u78 u79 u80 u81 u82 u83 u84 u85 u86 u87 u88 u89 u90 u91 u92 u93 u94 u95 u96 u97 u98 u99 u100 u101 u102 u103 u104 u105 u106 u107 u108 u109 u110 u111 u112 u113 u114 u115 u116 u117 u118 u119 u120 u121 u122 u123 u124 u125 u126 u127 u128 u129 u130 u131 u132 u133 u134 u135 u136 u137 u138 u139 u140 u141 u142 u143 u144 u145 u146 u147 u148 u149 u150 u151 u152 u153 u154 u155 u156 u157 u158 u159 u160 u161 u162 u163 u164 u165 u166 u167 u168 u169 u170 u171 u172 u173 u174 u175 u176 u177 u178 u179 u180 u181 u182 u183 u184 u185 u186 u187 u188 u189 u190 u191 u192 u193 u194 u195 u196 u197 u198 u199 u200 u201 u202 u203 u204 u205 u206 u207 u208 u209 u210 u211 u212 u213 u214 u215 u216 u217 u218 u219 : Value) (w' : World), w'.heap[bw]? = some (.cells (wArr l 16) 340 (0, 0)) → Below bw w0 w' → K ⟨#[v0, .slice (some ⟨b, off, none⟩) 64 c, u2, u3, .pointer (some ⟨bw, 0, none⟩), u5, u6, u7, u8, u9, u10, u11, u12, u13, u14, u15, u16, u17, u18, u19, u20, u21, u22, u23, u24, u25, u26, u27, u28, u29, u30, u31, u32, u33, u34, u35, u36, u37, u38, u39, u40, u41, u42, u43, u44, u45, u46, u47, u48, u49, u50, u51, u52, u53, u54, u55, u56, u57, u58, u59, u60, u61, u62, u63, u64, u65, u66, u67, u68, u69, u70, u71, u72, u73, u74, u75, u76, u77, u78, u79, u80, u81, u82, u83, u84, u85, u86, u87, u88, u89, u90, u91, u92, u93, u94, u95, u96, u97, u98, u99, u100, u101, u102, u103, u104, u105, u106, u107, u108, u109, u110, u111, u112, u113, u114, u115, u116, u117, u118, u119, u120, u121, u122, u123, u124, u125, u126, u127, u128, u129, u130, u131, u132, u133, u134, u135, u136, u137, u138, u139, u140, u141, u142, u143, u144, u145, u146, u147, u148, u149, u150, u151, u152, u153, u154, u155, u156, u157, u158, u159, u160, u161, u162, u163, u164, u165, u166, u167, u168, u169, u170, u171, u172, u173, u174, u175, u176, u177, u178, u179, u180, u181, u182, u183, u184, u185, u186, u187, u188, u189, u190, u191, u192, u193, u194, u195, u196, u197, u198, u199, u200, u201, u202, u203, u204, u205, u206, u207, u208, u209, u210, u211, u212, u213, u214, u215, u216, u217, u218, u219], []⟩ w') :
    Code.wp Tryz.prog tkA (Exit.then K (bodyPost Tryz.prog Tryz.f212 PST)) ⟨#[v0, .slice (some ⟨b, off, none⟩) 64 c, u2, u3, .pointer (some ⟨bw, 0, none⟩), u5, u6, u7, u8, u9, u10, u11, u12, u13, u14, u15, u16, u17, u18, u19, u20, u21, u22, u23, u24, u25, u26, u27, u28, u29, u30, u31, u32, u33, u34, u35, u36, u37, u38, u39, u40, u41, u42, u43, u44, u45, u46, u47, u48, u49, u50, u51, u52, u53, u54, u55, u56, u57, u58, u59, u60, u61, u62, u63, u64, u65, u66, u67, u68, u69, u70, u71, u72, u73, u74, u75, u76, u77, u78, u79, u80, u81, u82, u83, u84, u85, u86, u87, u88, u89, u90, u91, u92, u93, u94, u95, u96, u97, u98, u99, u100, u101, u102, u103, u104, u105, u106, u107, u108, u109, u110, u111, u112, u113, u114, u115, u116, u117, u118, u119, u120, u121, u122, u123, u124, u125, u126, u127, u128, u129, u130, u131, u132, u133, u134, u135, u136, u137, u138, u139, u140, u141, u142, u143, u144, u145, u146, u147, u148, u149, u150, u151, u152, u153, u154, u155, u156, u157, u158, u159, u160, u161, u162, u163, u164, u165, u166, u167, u168, u169, u170, u171, u172, u173, u174, u175, u176, u177, u178, u179, u180, u181, u182, u183, u184, u185, u186, u187, u188, u189, u190, u191, u192, u193, u194, u195, u196, u197, u198, u199, u200, u201, u202, u203, u204, u205, u206, u207, u208, u209, u210, u211, u212, u213, u214, u215, u216, u217, u218, u219], []⟩ W := by
  have HK := Lib.hid hK
  have HAT := Lib.hid hat
  have HBB := Lib.hid hbb
  clear hK hat hbb
  conv => arg 2; whnf
  go_wp2_with fail
  go_loopw [22, 5] (fun i _ wr => ∃ t : Nat, t ≤ 16 ∧ i = .int .i64 t ∧ wr.heap[bw]? = some (.cells (wArr l t) 340 (0, 0)) ∧ Below bw w0 wr) (fun i _ _ => 16 - (intOf i).toNat)
  case atStart => exact ⟨0, by omega, rfl, hW, hb⟩
  case round =>
    clear hW hb
    obtain ⟨t, htt, rfl, hw, hb⟩ := hrel
    have HB := Lib.hid hb
    by_cases hlt : t < 16
    · obtain ⟨y0, q0, r0⟩ := HAT.out (4 * t) (by omega)
      obtain ⟨y1, q1, r1⟩ := HAT.out (4 * t + 1) (by omega)
      obtain ⟨y2, q2, r2⟩ := HAT.out (4 * t + 2) (by omega)
      obtain ⟨y3, q3, r3⟩ := HAT.out (4 * t + 3) (by omega)
      have hword : wordAt l t = orw (orw (orw (shl 24 y0.toUInt32) (shl 16 y1.toUInt32)) (shl 8 y2.toUInt32)) y3.toUInt32 := by
        unfold wordAt
        rw [u8_at _ _ _ q0, u8_at _ _ _ q1, u8_at _ _ _ q2, u8_at _ _ _ q3]
      have HW := Lib.hid hword
      have k1 : (y0.toNat : Int) * 16777216 % 4294967296 = ((shl 24 y0.toUInt32).toNat : Int) := shl_u8 24 y0
      have k2 : (y1.toNat : Int) * 65536 % 4294967296 = ((shl 16 y1.toUInt32).toNat : Int) := shl_u8 16 y1
      have k3 : (y2.toNat : Int) * 256 % 4294967296 = ((shl 8 y2.toUInt32).toNat : Int) := shl_u8 8 y2
      have hkp : ∀ {j : Nat} {v : Value}, w0.cell? ⟨b, j, none⟩ = some v → wr.cell? ⟨b, j, none⟩ = some v := fun hv => (hb.cell (show b < bw from HBB.out)).trans hv
      have m0 := hkp r0
      have m1 := hkp r1
      have m2 := hkp r2
      have m3 := hkp r3
      clear r0 r1 r2 r3 q0 q1 q2 q3 hword hkp hb
      have HWA := Lib.hid hw
      have hcc : wr.cell? ⟨bw, t, none⟩ = some (wv 0) := by
        have := cell_of_row wr bw t _ _ _ hw
        rw [this, wArr_get l t t (by omega), if_neg (by omega)]
      have hff : wr.frozen? ⟨bw, t, none⟩ = false := frozen_of_row wr bw t _ _ hw
      clear hw
      have h9 : decide ((t : Int) < 16) = true := by simp; omega
      have HT := Lib.hid hlt
      clear hlt htt
      go_upto_region 4 with (fail)
      clear h9
      have hlt := HT.out
      go_region
      all_goals
        have hw2 := heap_setCell_same wr.drew bw t _ _ (wv (wordAt l t)) HWA.out
        rw [← wT_low l t HT.out, wArr_set l t (by have := HT.out; omega), wT_low l t HT.out] at hw2
        rw [HW.out] at hw2
        have hb2 : Below bw w0 (wr.drew.setCell ⟨bw, t, none⟩ (wv (orw (orw (orw (shl 24 y0.toUInt32) (shl 16 y1.toUInt32)) (shl 8 y2.toUInt32)) y3.toUInt32))) := (HB.out.drew).setCell (Nat.le_refl _) _
        have HW2 := Lib.hid hw2; have HB2 := Lib.hid hb2
        clear hw2 hb2 m0 m1 m2 m3 k1 k2 k3 hcc hff
        go_wp2_with fail
        go_roundw
        case rel => exact ⟨t + 1, by have := HT.out; omega, by go_num, HW2.out, HB2.out⟩
        case measure => have := HT.out; simp [intOf]; omega
    · obtain rfl : t = 16 := by omega
      have h9 : decide (((16 : Nat) : Int) < 16) = false := by decide
      clear hlt htt HB
      go_wp2_with fail
      refine HK.out _ _ _ _ _ _ _ _ _ _ _ _ _ _ _ _ _ _ _ _ _ _ _ _ _ _ _ _ _ _ _ _ _ _ _ _ _ _ _ _ _ _ _ _ _ _ _ _ _ _ _ _ _ _ _ _ _ _ _ _ _ _ _ _ _ _ _ _ _ _ _ _ _ _ _ _ _ _ _ _ _ _ _ _ _ _ _ _ _ _ _ _ _ _ _ _ _ _ _ _ _ _ _ _ _ _ _ _ _ _ _ _ _ _ _ _ _ _ _ _ _ _ _ _ _ _ _ _ _ _ _ _ _ _ _ _ _ _ _ _ _ _ _ _ _ _ _ _ _ _ _ _ _ _ _ _ _ _ _ _ _ _ _ _ _ _ _ _ _ _ _ _ _ _ _ _ _ _ _ _ _ _ _ _ _ _ _ _ _ _ _ _ _ _ _ _ _ _ _ _ _ _ _ _ _ _ _ _ _ _ _ _ _ _ _ _ _  _ hw hb
end Go.Proofs.YtoboabkaojfbaaaGreatDoor
namespace Go.Proofs.YtoboabkaojfbaaaGreatDoor
open Go Go.RowKit
set_option maxRecDepth 100000
set_option maxHeartbeats 1000000
set_option linter.unusedVariables false
set_option linter.unusedSimpArgs false

@[go_sem] theorem not_u32' (x : UInt32) : bits .xor .u32 (if IntKind.u32.signed = true then -1 else IntKind.u32.max) (x.toNat : Int) = ((nt x).toNat : Int) := by
  rw [if_neg (by decide)]; exact not_u32 x
noncomputable def tk11 : Code := headSeq (dropSeq 3 (Tryz.f212.body.getD .skip))
noncomputable def tkC : Code := headSeq (dropSeq 4 (Tryz.f212.body.getD .skip))
set_option maxHeartbeats 4000000
theorem take_11 (W : World) (gs bw : Nat) (v1 : Value) (a b c d e f g h : UInt32) (hc : ∀ i, i < 8 → W.cell? ⟨gs, i, none⟩ = some (wv ([a, b, c, d, e, f, g, h].getD i 0))) (u2 u3 u5 u6 u7 u8 u9 u10 u11 u12 u13 u14 u15 u16 u17 u18 u19 u20 u21 u22 u23 u24 u25 u26 u27 u28 u29 u30 u31 u32 u33 u34 u35 u36 u37 u38 u39 u40 u41 u42 u43 u44 u45 u46 u47 u48 u49 u50 u51 u52 u53 u54 u55 u56 u57 u58 u59 u60 u61 u62 u63 u64 u65 u66 u67 u68 u69 u70 u71 u72 u73 u74 u75 u76 u77 u78 u79 u80 u81 u82 u83 u84 u85 u86 u87 u88 u89 u90 u91 u92 u93 u94 u95 u96 u97 u98 u99 u100 u101 u102 u103 u104 u105 u106 u107 u108 u109 u110 u111 u112 u113 u114 u115 u116 u117 u118 u119 u120 u121 u122 u123 u124 u125 u126 u127 u128 u129 u130 u131 u132 u133 u134 u135 u136 u137 u138 u139 u140 u141 u142 u143 u144 u145 u146 u147 u148 u149 u150 u151 u152 u153 u154 u155 u156 u157 u158 u159 u160 u161 u162 u163 u164 u165 u166 u167 u168 u169 u170 u171 u172 u173 u174 u175 u176 u177 u178 u179 u180 u181 u182 u183 u184 u185 u186 u187 u188 u189 u190 u191 u192 u193 u194 u195 u196 u197 u198 u199 u200 u201 u202 u203 u204 u205 u206 u207 u208 u209 u210 u211 u212 u213 u214 u215 u216 u217 u218 u219 : Value) (K : Act → World → Prop) (PST : Ending → World → Prop)
    (hK : ∀ (u2 u3 u5 u6 u7 u8 u17 u18 u19 u20 u21 u22 u23 u24 u25 u26 u27 u28 u29 u30 u31 u32 u33 u34 u35 u36 u37 u38 u39 u40 u41 u42 u43 u44 u45 u46 u47 u48 u49 u50 u51 u52 u53 u54 u55 u56 u57 u58 u59 u60 u61 u62 u63 u64 u65 u66 u67 u68 u69 u70 u71 u72 u73 u74 u75 u76 u77 u78 u79 u80 u81 u82 u83 u84 u85 u86 u87 u88 u89 u90 u91 u92 u93 u94 u95 u96 u97 u98 u99 u100 u101 u102 u103 u104 u105 u106 u107 u108 u109 u110 u111 u112 u113 u114 u115 u116 u117 u118 u119 u120 u121 u122 u123 u124 u125 u126 u127 u128 u129 u130 u131 u132 u133 u134 u135 u136 u137 u138 u139 u140 u141 u142 u143 u144 u145 u146 u147 u148 u149 u150 u151 u152 u153 u154 u155 u156 u157 u158 u159 u160 u161 u162 u163 u164 u165 u166 u167 u168 u169 u170 u171 u172 u173 u174 u175 u176 u177 u178 u179 u180 u181 u182 u183 u184 u185 u186 u187 u188 u189 u190 u191 u192 u193 u194 u195 u196 u197 u198 u199 u200 u201 u202 u203 u204 u205 u206 u207 u208 u209 u210 u211 u212 u213 u214 u215 u216 u217 u218 u219 : Value) (n : Nat), K ⟨#[.pointer (some ⟨gs, 0, none⟩), v1, u2, u3, .pointer (some ⟨bw, 0, none⟩), u5, u6, u7, u8, .int .u32 (a.toNat : Int), .int .u32 (b.toNat : Int), .int .u32 (c.toNat : Int), .int .u32 (d.toNat : Int), .int .u32 (e.toNat : Int), .int .u32 (f.toNat : Int), .int .u32 (g.toNat : Int), .int .u32 (h.toNat : Int), u17, u18, u19, u20, u21, u22, u23, u24, u25, u26, u27, u28, u29, u30, u31, u32, u33, u34, u35, u36, u37, u38, u39, u40, u41, u42, u43, u44, u45, u46, u47, u48, u49, u50, u51, u52, u53, u54, u55, u56, u57, u58, u59, u60, u61, u62, u63, u64, u65, u66, u67, u68, u69, u70, u71, u72, u73, u74, u75, u76, u77, u78, u79, u80, u81, u82, u83, u84, u85, u86, u87, u88, u89, u90, u91, u92, u93, u94, u95, u96, u97, u98, u99, u100, u101, u102, u103, u104, u105, u106, u107, u108, u109, u110, u111, u112, u113, u114, u115, u116, u117, u118, u119, u120, u121, u122, u123, u124, u125, u126, u127, u128, u129, u130, u131, u132, u133, u134, u135, u136, u137, u138, u139, u140, u141, u142, u143, u144, u145, u146, u147, u148, u149, u150, u151, u152, u153, u154, u155, u156, u157, u158, u159, u160, u161, u162, u163, u164, u165, u166, u167, u168, u169, u170, u171, u172, u173, u174, u175, u176, u177, u178, u179, u180, u181, u182, u183, u184, u185, u186, u187, u188, u189, u190, u191, u192, u193, u194, u195, u196, u197, u198, u199, u200, u201, u202, u203, u204, u205, u206, u207, u208, u209, u210, u211, u212, u213, u214, u215, u216, u217, u218, u219], []⟩ (W.drewN n)) :
    Code.wp Tryz.prog tk11 (Exit.then K (bodyPost Tryz.prog Tryz.f212 PST)) ⟨#[.pointer (some ⟨gs, 0, none⟩), v1, u2, u3, .pointer (some ⟨bw, 0, none⟩), u5, u6, u7, u8, u9, u10, u11, u12, u13, u14, u15, u16, u17, u18, u19, u20, u21, u22, u23, u24, u25, u26, u27, u28, u29, u30, u31, u32, u33, u34, u35, u36, u37, u38, u39, u40, u41, u42, u43, u44, u45, u46, u47, u48, u49, u50, u51, u52, u53, u54, u55, u56, u57, u58, u59, u60, u61, u62, u63, u64, u65, u66, u67, u68, u69, u70, u71, u72, u73, u74, u75, u76, u77, u78, u79, u80, u81, u82, u83, u84, u85, u86, u87, u88, u89, u90, u91, u92, u93, u94, u95, u96, u97, u98, u99, u100, u101, u102, u103, u104, u105, u106, u107, u108, u109, u110, u111, u112, u113, u114, u115, u116, u117, u118, u119, u120, u121, u122, u123, u124, u125, u126, u127, u128, u129, u130, u131, u132, u133, u134, u135, u136, u137, u138, u139, u140, u141, u142, u143, u144, u145, u146, u147, u148, u149, u150, u151, u152, u153, u154, u155, u156, u157, u158, u159, u160, u161, u162, u163, u164, u165, u166, u167, u168, u169, u170, u171, u172, u173, u174, u175, u176, u177, u178, u179, u180, u181, u182, u183, u184, u185, u186, u187, u188, u189, u190, u191, u192, u193, u194, u195, u196, u197, u198, u199, u200, u201, u202, u203, u204, u205, u206, u207, u208, u209, u210, u211, u212, u213, u214, u215, u216, u217, u218, u219], []⟩ W := by
  have HK := Lib.hid hK
  have c0 : W.cell? ⟨gs, 0, none⟩ = some (.int .u32 (a.toNat : Int)) := hc 0 (by omega)
  have c1 : W.cell? ⟨gs, 1, none⟩ = some (.int .u32 (b.toNat : Int)) := hc 1 (by omega)
  have c2 : W.cell? ⟨gs, 2, none⟩ = some (.int .u32 (c.toNat : Int)) := hc 2 (by omega)
  have c3 : W.cell? ⟨gs, 3, none⟩ = some (.int .u32 (d.toNat : Int)) := hc 3 (by omega)
  have c4 : W.cell? ⟨gs, 4, none⟩ = some (.int .u32 (e.toNat : Int)) := hc 4 (by omega)
  have c5 : W.cell? ⟨gs, 5, none⟩ = some (.int .u32 (f.toNat : Int)) := hc 5 (by omega)
  have c6 : W.cell? ⟨gs, 6, none⟩ = some (.int .u32 (g.toNat : Int)) := hc 6 (by omega)
  have c7 : W.cell? ⟨gs, 7, none⟩ = some (.int .u32 (h.toNat : Int)) := hc 7 (by omega)
  clear hK hc
  conv => arg 2; whnf
  go_quiet (fail)
  refine HK.out _ _ _ _ _ _ _ _ _ _ _ _ _ _ _ _ _ _ _ _ _ _ _ _ _ _ _ _ _ _ _ _ _ _ _ _ _ _ _ _ _ _ _ _ _ _ _ _ _ _ _ _ _ _ _ _ _ _ _ _ _ _ _ _ _ _ _ _ _ _ _ _ _ _ _ _ _ _ _ _ _ _ _ _ _ _ _ _ _ _ _ _ _ _ _ _ _ _ _ _ _ _ _ _ _ _ _ _ _ _ _ _ _ _ _ _ _ _ _ _ _ _ _ _ _ _ _ _ _ _ _ _ _ _ _ _ _ _ _ _ _ _ _ _ _ _ _ _ _ _ _ _ _ _ _ _ _ _ _ _ _ _ _ _ _ _ _ _ _ _ _ _ _ _ _ _ _ _ _ _ _ _ _ _ _ _ _ _ _ _ _ _ _ _ _ _ _ _ _ _ _ _ _ _ _ _ _ _ _  _
set_option maxHeartbeats 8000000 in
theorem take_c (w0 W : World) (gs bw : Nat) (v1 : Value) (l : List UInt8) (s : S8) (hW : W.heap[bw]? = some (.cells (wArr l 64) 340 (0, 0))) (hb : Below bw w0 W) (ht : RoundTab W) (u2 u3 u5 u6 u7 u8 u17 u18 u19 u20 u21 u22 u23 u24 u25 u26 u27 u28 u29 u30 u31 u32 u33 u34 u35 u36 u37 u38 u39 u40 u41 u42 u43 u44 u45 u46 u47 u48 u49 u50 u51 u52 u53 u54 u55 u56 u57 u58 u59 u60 u61 u62 u63 u64 u65 u66 u67 u68 u69 u70 u71 u72 u73 u74 u75 u76 u77 u78 u79 u80 u81 u82 u83 u84 u85 u86 u87 u88 u89 u90 u91 u92 u93 u94 u95 u96 u97 u98 u99 u100 u101 u102 u103 u104 u105 u106 u107 u108 u109 u110 u111 u112 u113 u114 u115 u116 u117 u118 u119 u120 u121 u122 u123 u124 u125 u126 u127 u128 u129 u130 u131 u132 u133 u134 u135 u136 u137 u138 u139 u140 u141 u142 u143 u144 u145 u146 u147 u148 u149 u150 u151 u152 u153 u154 u155 u156 u157 u158 u159 u160 u161 u162 u163 u164 u165 u166 u167 u168 u169 u170 u171 u172 u173 u174 u175 u176 u177 u178 u179 u180 u181 u182 u183 u184 u185 u186 u187 u188 u189 u190 u191 u192 u193 u194 u195 u196 u197 u198 u199 u200 u201 u202 u203 u204 u205 u206 u207 u208 u209 u210 u211 u212 u213 u214 u215 u216 u217 u218 u219 : Value) (K : Act → World → Prop) (PST : Ending → World → Prop)
    (hK : ∀ (u2 u3 u5 u6 u7 u8 u17 u18 u19 u20 u21 u22 u23 u24 u25 u26 u27 u28 u29 u30 u31 u32 u33 u34 u35 u36 u37 u38 u39 u40 u41 u42 u43 u44 u45 u46 u47 u48 u49 u50 u51 u52 u53 u54 u55 u56 u57 u58 u59 u60 u61 u62 u63 u64 u65 u66 u67 u68 u69 u70 u71 u72 u73 u74 u75 u76 u77 u78 u79 u80 u81 u82 u83 u84 u85 u86 u87 u88 u89 u90 u91 u92 u93 u94 u95 u96 u97 u98 u99 u100 u101 u102 u103 u104 u105 u106 u107 u108 u109 u110 u111 u112 u113 u114 u115 u116 u117 u118 u119 u120 u121 u122 u123 u124 u125 u126 u127 u128 u129 u130 u131 u132 u133 u134 u135 u136 u137 u138 u139 u140 u141 u142 u143 u144 u145 u146 u147 u148 u149 u150 u151 u152 u153 u154 u155 u156 u157 u158 u159 u160 u161 u162 u163 u164 u165 u166 u167 u168 u169 u170 u171 u172 u173 u174 u175 u176 u177 u178 u179 u180 u181 u182 u183 u184 u185 u186 u187 u188 u189 u190 u191 u192 u193 u194 u195 u196 u197 u198 u199 u200 u201 u202 u203 u204 u205 u206 u207 u208 u209 u210 u211 u212 u213 u214 u215 u216 u217 u218 u219 : Value) (w' : World), w'.heap = W.heap → Below bw w0 w' → K ⟨#[.pointer (some ⟨gs, 0, none⟩), v1, u2, u3, .pointer (some ⟨bw, 0, none⟩), u5, u6, u7, u8, .int .u32 ((rounds l s 64).a.toNat : Int), .int .u32 ((rounds l s 64).b.toNat : Int), .int .u32 ((rounds l s 64).c.toNat : Int), .int .u32 ((rounds l s 64).d.toNat : Int), .int .u32 ((rounds l s 64).e.toNat : Int), .int .u32 ((rounds l s 64).f.toNat : Int), .int .u32 ((rounds l s 64).g.toNat : Int), .int .u32 ((rounds l s 64).h.toNat : Int), u17, u18, u19, u20, u21, u22, u23, u24, u25, u26, u27, u28, u29, u30, u31, u32, u33, u34, u35, u36, u37, u38, u39, u40, u41, u42, u43, u44, u45, u46, u47, u48, u49, u50, u51, u52, u53, u54, u55, u56, u57, u58, u59, u60, u61, u62, u63, u64, u65, u66, u67, u68, u69, u70, u71, u72, u73, u74, u75, u76, u77, u78, u79, u80, u81, u82, u83, u84, u85, u86, u87, u88, u89, u90, u91, u92, u93, u94, u95, u96, u97, u98, u99, u100, u101, u102, u103, u104, u105, u106, u107, u108, u109, u110, u111, u112, u113, u114, u115, u116, u117, u118, u119, u120, u121, u122, u123, u124, u125, u126, u127, u128, u129, u130, u131, u132, u133, u134, u135, u136, u137, u138, u139, u140, u141, u142, u143, u144, u145, u146, u147, u148, u149, u150, u151, u152, u153, u154, u155, u156, u157, u158, u159, u160, u161, u162, u163, u164, u165, u166, u167, u168, u169, u170, u171, u172, u173, u174, u175, u176, u177, u178, u179, u180, u181, u182, u183, u184, u185, u186, u187, u188, u189, u190, u191, u192, u193, u194, u195, u196, u197, u198, u199, u200, u201, u202, u203, u204, u205, u206, u207, u208, u209, u210, u211, u212, u213, u214, u215, u216, u217, u218, u219], []⟩ w') :
    Code.wp Tryz.prog tkC (Exit.then K (bodyPost Tryz.prog Tryz.f212 PST)) ⟨#[.pointer (some ⟨gs, 0, none⟩), v1, u2, u3, .pointer (some ⟨bw, 0, none⟩), u5, u6, u7, u8, .int .u32 (s.a.toNat : Int), .int .u32 (s.b.toNat : Int), .int .u32 (s.c.toNat : Int), .int .u32 (s.d.toNat : Int), .int .u32 (s.e.toNat : Int), .int .u32 (s.f.toNat : Int), .int .u32 (s.g.toNat : Int), .int .u32 (s.h.toNat : Int), u17, u18, u19, u20, u21, u22, u23, u24, u25, u26, u27, u28, u29, u30, u31, u32, u33, u34, u35, u36, u37, u38, u39, u40, u41, u42, u43, u44, u45, u46, u47, u48, u49, u50, u51, u52, u53, u54, u55, u56, u57, u58, u59, u60, u61, u62, u63, u64, u65, u66, u67, u68, u69, u70, u71, u72, u73, u74, u75, u76, u77, u78, u79, u80, u81, u82, u83, u84, u85, u86, u87, u88, u89, u90, u91, u92, u93, u94, u95, u96, u97, u98, u99, u100, u101, u102, u103, u104, u105, u106, u107, u108, u109, u110, u111, u112, u113, u114, u115, u116, u117, u118, u119, u120, u121, u122, u123, u124, u125, u126, u127, u128, u129, u130, u131, u132, u133, u134, u135, u136, u137, u138, u139, u140, u141, u142, u143, u144, u145, u146, u147, u148, u149, u150, u151, u152, u153, u154, u155, u156, u157, u158, u159, u160, u161, u162, u163, u164, u165, u166, u167, u168, u169, u170, u171, u172, u173, u174, u175, u176, u177, u178, u179, u180, u181, u182, u183, u184, u185, u186, u187, u188, u189, u190, u191, u192, u193, u194, u195, u196, u197, u198, u199, u200, u201, u202, u203, u204, u205, u206, u207, u208, u209, u210, u211, u212, u213, u214, u215, u216, u217, u218, u219], []⟩ W := by
  have HK := Lib.hid hK
  have HT := Lib.hid ht
  have HW := Lib.hid hW
  clear hK ht hW
  conv => arg 2; whnf
  go_wp2_with fail
  go_loopw [134, 9, 10, 11, 12, 13, 14, 15, 16, 17, 18, 19] (fun i x9 x10 x11 x12 x13 x14 x15 x16 _ _ _ wr => ∃ t : Nat, t ≤ 64 ∧ i = .int .i64 t ∧ x9 = .int .u32 ((rounds l s t).a.toNat : Int) ∧ x10 = .int .u32 ((rounds l s t).b.toNat : Int) ∧ x11 = .int .u32 ((rounds l s t).c.toNat : Int) ∧ x12 = .int .u32 ((rounds l s t).d.toNat : Int) ∧ x13 = .int .u32 ((rounds l s t).e.toNat : Int) ∧ x14 = .int .u32 ((rounds l s t).f.toNat : Int) ∧ x15 = .int .u32 ((rounds l s t).g.toNat : Int) ∧ x16 = .int .u32 ((rounds l s t).h.toNat : Int) ∧ wr.heap = W.heap ∧ Below bw w0 wr) (fun i _ _ _ _ _ _ _ _ _ _ _ _ => 64 - (intOf i).toNat)
  case atStart => exact ⟨0, by omega, rfl, rfl, rfl, rfl, rfl, rfl, rfl, rfl, rfl, rfl, hb⟩
  case round =>
    clear hb
    obtain ⟨t, htt, rfl, rfl, rfl, rfl, rfl, rfl, rfl, rfl, rfl, hh, hb⟩ := hrel
    have HB := Lib.hid hb
    have HH := Lib.hid hh
    by_cases hlt : t < 64
    · have HR := Lib.hid (show rounds l s (t + 1) = rnd (kT t) (wT l t) (rounds l s t) from rfl)
      obtain ⟨S, hS⟩ : ∃ S, S = rounds l s t := ⟨_, rfl⟩
      rw [← hS] at HR ⊢
      clear hS
      obtain ⟨a, b, c, d, e, f, g, h⟩ := S
      dsimp only
      have p1 : wr.cell? ⟨bw, t, none⟩ = some (.int .u32 ((wT l t).toNat : Int)) := by
        have := cell_of_row wr bw t _ _ _ (show wr.heap[bw]? = _ by rw [hh]; exact HW.out)
        rw [this, wArr_get l 64 t (by omega), if_pos hlt]; rfl
      have p2 : wr.cell? ⟨1, t, none⟩ = some (.int .u32 ((kT t).toNat : Int)) := (World.cell?_of_block (a := ⟨1, t, none⟩) (by rw [hh])).trans (HT.out t hlt)
      obtain ⟨kt, hkt⟩ : ∃ x, x = kT t := ⟨_, rfl⟩
      obtain ⟨wt, hwt⟩ : ∃ x, x = wT l t := ⟨_, rfl⟩
      rw [← hkt] at p2 HR
      rw [← hwt] at p1 HR
      have h9 : decide ((t : Int) < 64) = true := by simp; omega
      have HLT := Lib.hid hlt
      clear hlt htt hh hb hkt hwt
      go_upto_region 15 with (fail)
      clear h9
      have dt : ((t : Nat) : Int) < 64 := by have := HLT.out; omega
      have dn : (0 : Int) ≤ ((t : Nat) : Int) := by omega
      have dm : (((t : Nat) : Int)).toNat = t := by omega
      go_quiet ((go_at_call 232; exact turn_q _ _ _ _ (by decide)))
      trace "quiet"
      have HB2 := Lib.hid (below_drewN HB.out nq)
      have HH2 := Lib.hid (show (wr.drewN nq).heap = W.heap from HH.out)
      clear p1 p2 dt dn dm HB HH
      generalize wr.drewN nq = w2 at *
      go_upto_region 16 with (fail)
      have hlt := HLT.out
      go_wp2_with (go_at_call 232; (with_reducible refine (turn_any _ _ _ (by decide)).mono ?_); rintro e9 w9 ⟨rfl, nn, rfl⟩)
      go_roundw
      case rel => exact ⟨t + 1, by omega, by go_num, by rw [HR.out]; rfl, by rw [HR.out]; rfl, by rw [HR.out]; rfl, by rw [HR.out]; rfl, by rw [HR.out]; rfl, by rw [HR.out]; rfl, by rw [HR.out]; rfl, by rw [HR.out]; rfl, HH2.out, below_drewN HB2.out _⟩
      case measure => simp [intOf]; omega
    · obtain rfl : t = 64 := by omega
      have h9 : decide (((64 : Nat) : Int) < 64) = false := by decide
      clear hlt htt HB HH
      go_wp2_with fail
      refine HK.out _ _ _ _ _ _ _ _ _ _ _ _ _ _ _ _ _ _ _ _ _ _ _ _ _ _ _ _ _ _ _ _ _ _ _ _ _ _ _ _ _ _ _ _ _ _ _ _ _ _ _ _ _ _ _ _ _ _ _ _ _ _ _ _ _ _ _ _ _ _ _ _ _ _ _ _ _ _ _ _ _ _ _ _ _ _ _ _ _ _ _ _ _ _ _ _ _ _ _ _ _ _ _ _ _ _ _ _ _ _ _ _ _ _ _ _ _ _ _ _ _ _ _ _ _ _ _ _ _ _ _ _ _ _ _ _ _ _ _ _ _ _ _ _ _ _ _ _ _ _ _ _ _ _ _ _ _ _ _ _ _ _ _ _ _ _ _ _ _ _ _ _ _ _ _ _ _ _ _ _ _ _ _ _ _ _ _ _ _ _ _ _ _ _ _ _ _ _ _ _ _ _ _ _ _ _ _ _ _  _ hh hb
end Go.Proofs.YtoboabkaojfbaaaGreatDoor
