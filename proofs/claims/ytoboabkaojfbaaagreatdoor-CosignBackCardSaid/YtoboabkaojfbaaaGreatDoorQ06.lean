import Derived.Test.YtoboabkaojfbaaaGreatDoorQ05
import Derived.BigRegion
import Derived.BigQuiet
import Derived.StillTailTactics
import Derived.Laws.CopyOwn
import Derived.Deep.RegionHeld3
namespace Go.Proofs.YtoboabkaojfbaaaGreatDoor
open Go Go.RowKit
set_option maxRecDepth 100000
set_option maxHeartbeats 1000000
set_option linter.unusedVariables false
set_option linter.unusedSimpArgs false

noncomputable def tkD : Code := dropSeq 5 (Tryz.f212.body.getD .skip)
/-- i words of the state taken on. -/
def mixS (s R : S8) (i : Nat) : List UInt32 := (s.plus R).list.take i ++ s.list.drop i
def stC (l : List UInt32) (tl : List Value) : Array Value := (l.map wv ++ tl).toArray
theorem mix_len (s R : S8) (i : Nat) (h : i ≤ 8) : (mixS s R i).length = 8 := by
  unfold mixS
  rw [List.length_append, List.length_take, List.length_drop]
  show min i 8 + (8 - i) = 8
  omega
theorem stC_get (l : List UInt32) (tl : List Value) (i : Nat) (h : i < l.length) : (stC l tl)[i]? = some (wv (l.getD i 0)) := by
  unfold stC
  rw [List.getElem?_toArray, List.getElem?_append_left (by rw [List.length_map]; exact h), List.getElem?_map, List.getD_eq_getElem?_getD, List.getElem?_eq_getElem h]; rfl
theorem mix_get (s R : S8) (i : Nat) (h : i < 8) : (mixS s R i).getD i 0 = s.list.getD i 0 := by
  unfold mixS
  rw [List.getD_eq_getElem?_getD, List.getElem?_append_right (by rw [List.length_take]; omega), List.length_take]
  have : (s.plus R).list.length = 8 := rfl
  rw [this, Nat.min_eq_left (by omega), Nat.sub_self, List.getElem?_drop, Nat.add_zero, List.getD_eq_getElem?_getD]
theorem mix_set (s R : S8) (tl : List Value) : ∀ (i : Nat), i < 8 → (stC (mixS s R i) tl).setIfInBounds i (wv (ad (s.list.getD i 0) (R.list.getD i 0))) = stC (mixS s R (i + 1)) tl
  | 0, _ => by simp [stC, mixS, S8.list, S8.plus]
  | 1, _ => by simp [stC, mixS, S8.list, S8.plus]
  | 2, _ => by simp [stC, mixS, S8.list, S8.plus]
  | 3, _ => by simp [stC, mixS, S8.list, S8.plus]
  | 4, _ => by simp [stC, mixS, S8.list, S8.plus]
  | 5, _ => by simp [stC, mixS, S8.list, S8.plus]
  | 6, _ => by simp [stC, mixS, S8.list, S8.plus]
  | 7, _ => by simp [stC, mixS, S8.list, S8.plus]
  | n + 8, h => by omega
theorem idx8 (R : S8) : ∀ (i : Nat), i < 8 → ∀ w, (Instr.index 304 (.agg #[.int .u32 (R.a.toNat : Int), .int .u32 (R.b.toNat : Int), .int .u32 (R.c.toNat : Int), .int .u32 (R.d.toNat : Int), .int .u32 (R.e.toNat : Int), .int .u32 (R.f.toNat : Int), .int .u32 (R.g.toNat : Int), .int .u32 (R.h.toNat : Int)]) (.int .i64 (i : Int))).run Tryz.prog w = .ok (.int .u32 ((R.list.getD i 0).toNat : Int)) w
  | 0, _ => fun w => by kernel_rfl
  | 1, _ => fun w => by kernel_rfl
  | 2, _ => fun w => by kernel_rfl
  | 3, _ => fun w => by kernel_rfl
  | 4, _ => fun w => by kernel_rfl
  | 5, _ => fun w => by kernel_rfl
  | 6, _ => fun w => by kernel_rfl
  | 7, _ => fun w => by kernel_rfl
  | n + 8, h => by omega
theorem grown_set {w w1 : World} {g : Nat} (h : w.grownBy w1 (some g)) (n o : Nat) (v : Value) : w.grownBy ((w1.drewN n).setCell ⟨g, o, none⟩ v) (some g) :=
  ⟨h.os, h.tape, h.output, by have := h.size; simpa using this, fun k hk hne => (heap_setCell_other (w1.drewN n) ⟨g, o, none⟩ k v (fun e => hne (by rw [e]))).trans (h.block k hk hne)⟩
set_option maxHeartbeats 4000000
theorem take_d (w0 W : World) (gs : Nat) (v1 v4 : Value) (s R : S8) (tl : List Value) (ty : TypeId) (hs : W.heap[gs]? = some (.cells (stC s.list tl) ty (0, 0))) (hg : w0.grownBy W (some gs)) (u2 u3 u5 u6 u7 u8 u17 u18 u19 u20 u21 u22 u23 u24 u25 u26 u27 u28 u29 u30 u31 u32 u33 u34 u35 u36 u37 u38 u39 u40 u41 u42 u43 u44 u45 u46 u47 u48 u49 u50 u51 u52 u53 u54 u55 u56 u57 u58 u59 u60 u61 u62 u63 u64 u65 u66 u67 u68 u69 u70 u71 u72 u73 u74 u75 u76 u77 u78 u79 u80 u81 u82 u83 u84 u85 u86 u87 u88 u89 u90 u91 u92 u93 u94 u95 u96 u97 u98 u99 u100 u101 u102 u103 u104 u105 u106 u107 u108 u109 u110 u111 u112 u113 u114 u115 u116 u117 u118 u119 u120 u121 u122 u123 u124 u125 u126 u127 u128 u129 u130 u131 u132 u133 u134 u135 u136 u137 u138 u139 u140 u141 u142 u143 u144 u145 u146 u147 u148 u149 u150 u151 u152 u153 u154 u155 u156 u157 u158 u159 u160 u161 u162 u163 u164 u165 u166 u167 u168 u169 u170 u171 u172 u173 u174 u175 u176 u177 u178 u179 u180 u181 u182 u183 u184 u185 u186 u187 u188 u189 u190 u191 u192 u193 u194 u195 u196 u197 u198 u199 u200 u201 u202 u203 u204 u205 u206 u207 u208 u209 u210 u211 u212 u213 u214 u215 u216 u217 u218 u219 : Value) (PST : Ending → World → Prop)
    (hP : ∀ (w' : World), w'.heap[gs]? = some (.cells (stC (s.plus R).list tl) ty (0, 0)) → w0.grownBy w' (some gs) → PST (.returned (.tuple #[])) w') :
    Code.wp Tryz.prog tkD (bodyPost Tryz.prog Tryz.f212 PST) ⟨#[.pointer (some ⟨gs, 0, none⟩), v1, u2, u3, v4, u5, u6, u7, u8, .int .u32 (R.a.toNat : Int), .int .u32 (R.b.toNat : Int), .int .u32 (R.c.toNat : Int), .int .u32 (R.d.toNat : Int), .int .u32 (R.e.toNat : Int), .int .u32 (R.f.toNat : Int), .int .u32 (R.g.toNat : Int), .int .u32 (R.h.toNat : Int), u17, u18, u19, u20, u21, u22, u23, u24, u25, u26, u27, u28, u29, u30, u31, u32, u33, u34, u35, u36, u37, u38, u39, u40, u41, u42, u43, u44, u45, u46, u47, u48, u49, u50, u51, u52, u53, u54, u55, u56, u57, u58, u59, u60, u61, u62, u63, u64, u65, u66, u67, u68, u69, u70, u71, u72, u73, u74, u75, u76, u77, u78, u79, u80, u81, u82, u83, u84, u85, u86, u87, u88, u89, u90, u91, u92, u93, u94, u95, u96, u97, u98, u99, u100, u101, u102, u103, u104, u105, u106, u107, u108, u109, u110, u111, u112, u113, u114, u115, u116, u117, u118, u119, u120, u121, u122, u123, u124, u125, u126, u127, u128, u129, u130, u131, u132, u133, u134, u135, u136, u137, u138, u139, u140, u141, u142, u143, u144, u145, u146, u147, u148, u149, u150, u151, u152, u153, u154, u155, u156, u157, u158, u159, u160, u161, u162, u163, u164, u165, u166, u167, u168, u169, u170, u171, u172, u173, u174, u175, u176, u177, u178, u179, u180, u181, u182, u183, u184, u185, u186, u187, u188, u189, u190, u191, u192, u193, u194, u195, u196, u197, u198, u199, u200, u201, u202, u203, u204, u205, u206, u207, u208, u209, u210, u211, u212, u213, u214, u215, u216, u217, u218, u219], []⟩ W := by
  have HP := Lib.hid hP
  have HX := Lib.hid (idx8 R)
  have hs : W.heap[gs]? = some (.cells (stC (mixS s R 0) tl) ty (0, 0)) := hs
  clear hP
  conv => arg 2; whnf
  go_wp2_with fail
  go_loopw [206, 20, 21] (fun i _ _ wr => ∃ t : Nat, t ≤ 8 ∧ i = .int .i64 t ∧ wr.heap[gs]? = some (.cells (stC (mixS s R t) tl) ty (0, 0)) ∧ w0.grownBy wr (some gs)) (fun i _ _ _ => 8 - (intOf i).toNat)
  case atStart => exact ⟨0, by omega, rfl, hs, hg⟩
  case round =>
    clear hs hg
    obtain ⟨t, htt, rfl, hh, hb⟩ := hrel
    by_cases hlt : t < 8
    · have HG := Lib.hid hb
      have HH := Lib.hid hh
      have hi := HX.out t hlt
      have hc : wr.cell? ⟨gs, t, none⟩ = some (.int .u32 ((s.list.getD t 0).toNat : Int)) := by
        rw [cell_of_row wr gs t _ _ _ hh, stC_get _ _ _ (by rw [mix_len _ _ _ htt]; exact hlt), mix_get _ _ _ hlt]; rfl
      have hf : wr.frozen? ⟨gs, t, none⟩ = false := frozen_of_row wr gs t _ _ hh
      have HM := Lib.hid (mix_set s R tl t hlt)
      have HLT := Lib.hid hlt
      generalize s.list.getD t 0 = x at *
      generalize R.list.getD t 0 = y at *
      have h9 : decide ((t : Int) < 8) = true := by simp; omega
      clear hlt htt hh hb
      go_upto_region 22 with (fail)
      clear h9 hi
      have dt : ((t : Nat) : Int) < 8 := by have := HLT.out; omega
      go_still_tail 9, (by kernel_rfl)
      change wpList _ _ _ _ _ wr.drew
      have hc1 : wr.drew.cell? ⟨gs, t, none⟩ = _ := hc
      have hf1 : wr.drew.frozen? ⟨gs, t, none⟩ = _ := hf
      go_wp2_with fail
      have hs2 := heap_setCell_same wr.drew gs t _ _ (wv (ad x y)) HH.out
      rw [HM.out] at hs2
      have HS2 := Lib.hid hs2
      clear hs2 hc hf hc1 hf1
      have hlt := HLT.out
      go_roundw
      case rel => exact ⟨t + 1, by omega, by go_num, HS2.out, grown_set HG.out 1 _ _⟩
      case measure => simp [intOf]; omega
    · obtain rfl : t = 8 := by omega
      have h9 : decide (((8 : Nat) : Int) < 8) = false := by decide
      have HG := Lib.hid hb
      have HH := Lib.hid hh
      clear hlt htt hh hb
      go_wp2_with fail
      go_end0
      exact HP.out _ HH.out HG.out
end Go.Proofs.YtoboabkaojfbaaaGreatDoor
namespace Go.Proofs.YtoboabkaojfbaaaGreatDoor
open Go Go.RowKit
set_option maxRecDepth 100000
set_option maxHeartbeats 1000000
set_option linter.unusedVariables false
set_option linter.unusedSimpArgs false

theorem wp_two {P : Program} {c : Code} {Q : Exit → Act → World → Prop} {a : Act} {w : World} (hc : ∃ x y, c = .seq x y) (h : Code.wp P (headSeq c) (Exit.then (fun a w => Code.wp P (dropSeq 1 c) Q a w) Q) a w) : Code.wp P c Q a w := by
  obtain ⟨x, y, rfl⟩ := hc
  exact wp_seq h
theorem dropSeq_succ : ∀ (n : Nat) (c : Code), dropSeq 1 (dropSeq n c) = dropSeq (n + 1) c
  | 0, c => rfl
  | n + 1, c => by
    cases c with
    | seq x y => exact dropSeq_succ n y
    | _ => rfl
noncomputable def tk0 : Code := Tryz.f212.body.getD .skip
set_option maxHeartbeats 4000000
theorem take_0 (w : World) (v0 v1 u2 u3 u4 u5 u6 u7 u8 u9 u10 u11 u12 u13 u14 u15 u16 u17 u18 u19 u20 u21 u22 u23 u24 u25 u26 u27 u28 u29 u30 u31 u32 u33 u34 u35 u36 u37 u38 u39 u40 u41 u42 u43 u44 u45 u46 u47 u48 u49 u50 u51 u52 u53 u54 u55 u56 u57 u58 u59 u60 u61 u62 u63 u64 u65 u66 u67 u68 u69 u70 u71 u72 u73 u74 u75 u76 u77 u78 u79 u80 u81 u82 u83 u84 u85 u86 u87 u88 u89 u90 u91 u92 u93 u94 u95 u96 u97 u98 u99 u100 u101 u102 u103 u104 u105 u106 u107 u108 u109 u110 u111 u112 u113 u114 u115 u116 u117 u118 u119 u120 u121 u122 u123 u124 u125 u126 u127 u128 u129 u130 u131 u132 u133 u134 u135 u136 u137 u138 u139 u140 u141 u142 u143 u144 u145 u146 u147 u148 u149 u150 u151 u152 u153 u154 u155 u156 u157 u158 u159 u160 u161 u162 u163 u164 u165 u166 u167 u168 u169 u170 u171 u172 u173 u174 u175 u176 u177 u178 u179 u180 u181 u182 u183 u184 u185 u186 u187 u188 u189 u190 u191 u192 u193 u194 u195 u196 u197 u198 u199 u200 u201 u202 u203 u204 u205 u206 u207 u208 u209 u210 u211 u212 u213 u214 u215 u216 u217 u218 u219 : Value) (K : Act → World → Prop) (PST : Ending → World → Prop)
    (hK : ∀ (w' : World), w'.heap[w.heap.size]? = some (.cells (wArr [] 0) 340 (0, 0)) → Below w.heap.size w w' → K ⟨#[v0, v1, u2, u3, .pointer (some ⟨w.heap.size, 0, none⟩), u5, u6, u7, u8, u9, u10, u11, u12, u13, u14, u15, u16, u17, u18, u19, u20, u21, u22, u23, u24, u25, u26, u27, u28, u29, u30, u31, u32, u33, u34, u35, u36, u37, u38, u39, u40, u41, u42, u43, u44, u45, u46, u47, u48, u49, u50, u51, u52, u53, u54, u55, u56, u57, u58, u59, u60, u61, u62, u63, u64, u65, u66, u67, u68, u69, u70, u71, u72, u73, u74, u75, u76, u77, u78, u79, u80, u81, u82, u83, u84, u85, u86, u87, u88, u89, u90, u91, u92, u93, u94, u95, u96, u97, u98, u99, u100, u101, u102, u103, u104, u105, u106, u107, u108, u109, u110, u111, u112, u113, u114, u115, u116, u117, u118, u119, u120, u121, u122, u123, u124, u125, u126, u127, u128, u129, u130, u131, u132, u133, u134, u135, u136, u137, u138, u139, u140, u141, u142, u143, u144, u145, u146, u147, u148, u149, u150, u151, u152, u153, u154, u155, u156, u157, u158, u159, u160, u161, u162, u163, u164, u165, u166, u167, u168, u169, u170, u171, u172, u173, u174, u175, u176, u177, u178, u179, u180, u181, u182, u183, u184, u185, u186, u187, u188, u189, u190, u191, u192, u193, u194, u195, u196, u197, u198, u199, u200, u201, u202, u203, u204, u205, u206, u207, u208, u209, u210, u211, u212, u213, u214, u215, u216, u217, u218, u219], []⟩ w') :
    Code.wp Tryz.prog (headSeq tk0) (Exit.then K (bodyPost Tryz.prog Tryz.f212 PST)) ⟨#[v0, v1, u2, u3, u4, u5, u6, u7, u8, u9, u10, u11, u12, u13, u14, u15, u16, u17, u18, u19, u20, u21, u22, u23, u24, u25, u26, u27, u28, u29, u30, u31, u32, u33, u34, u35, u36, u37, u38, u39, u40, u41, u42, u43, u44, u45, u46, u47, u48, u49, u50, u51, u52, u53, u54, u55, u56, u57, u58, u59, u60, u61, u62, u63, u64, u65, u66, u67, u68, u69, u70, u71, u72, u73, u74, u75, u76, u77, u78, u79, u80, u81, u82, u83, u84, u85, u86, u87, u88, u89, u90, u91, u92, u93, u94, u95, u96, u97, u98, u99, u100, u101, u102, u103, u104, u105, u106, u107, u108, u109, u110, u111, u112, u113, u114, u115, u116, u117, u118, u119, u120, u121, u122, u123, u124, u125, u126, u127, u128, u129, u130, u131, u132, u133, u134, u135, u136, u137, u138, u139, u140, u141, u142, u143, u144, u145, u146, u147, u148, u149, u150, u151, u152, u153, u154, u155, u156, u157, u158, u159, u160, u161, u162, u163, u164, u165, u166, u167, u168, u169, u170, u171, u172, u173, u174, u175, u176, u177, u178, u179, u180, u181, u182, u183, u184, u185, u186, u187, u188, u189, u190, u191, u192, u193, u194, u195, u196, u197, u198, u199, u200, u201, u202, u203, u204, u205, u206, u207, u208, u209, u210, u211, u212, u213, u214, u215, u216, u217, u218, u219], []⟩ w := by
  have HK := Lib.hid hK
  clear hK
  conv => arg 2; whnf
  go_wp2_with fail
  exact HK.out _ (by rw [wArr_zero]; exact heap_alloc_new w _) ((Below.refl _ _).alloc (Nat.le_refl _) _)
theorem wArr_start (l m : List UInt8) : wArr l 0 = wArr m 0 := by rw [wArr_zero, wArr_zero]
/-- A block of 64 bytes taken in: the state at the front of a block, what is behind it stays. -/
theorem take_any (w : World) (gs : Nat) (s : S8) (tl : List Value) (ty : TypeId) (hs : w.heap[gs]? = some (.cells (stC s.list tl) ty (0, 0))) (a : Option Addr) (c : Nat) (l : List UInt8) (h : R8 w a 64 c l) (ht : RoundTab w) (h3 : 1 < w.heap.size) :
    Calls Tryz.prog 212 #[.pointer (some ⟨gs, 0, none⟩), .slice a 64 c] w fun e w' => e = .returned (.tuple #[]) ∧ w'.heap[gs]? = some (.cells (stC (blockS l s).list tl) ty (0, 0)) ∧ w.grownBy w' (some gs) := by
  have hc : 64 ≤ c := h.2.1
  have hat : ∀ i, i < 64 → ∃ b off x, a = some ⟨b, off, none⟩ ∧ l[i]? = some x ∧ w.cell? ⟨b, off + i, none⟩ = some (.int .u8 (x.toNat : Int)) := fun i hi => by
    obtain ⟨b, off, x, e, hl, hc⟩ := h.at hi
    exact ⟨b, off, x, e, hl, hc⟩
  obtain ⟨b, off, x00, rfl, -, hc00⟩ := hat 0 (by omega)
  have hbb := World.block_lt_of_cell? w _ hc00
  have hgs : gs < w.heap.size := (Array.getElem?_eq_some_iff.1 hs).1
  have hat2 : ∀ i, i < 64 → ∃ x, l[i]? = some x ∧ w.cell? ⟨b, off + i, none⟩ = some (.int .u8 (x.toNat : Int)) := fun i hi => by
    obtain ⟨b', off', x, e, hl, hc⟩ := hat i hi
    cases e
    exact ⟨x, hl, hc⟩
  go_enter Tryz.func212, Tryz.ntmps212
  refine wp_two (c := tk0) ⟨_, _, rfl⟩ ?_
  refine take_0 w _ _ _ _ _ _ _ _ _ _ _ _ _ _ _ _ _ _ _ _ _ _ _ _ _ _ _ _ _ _ _ _ _ _ _ _ _ _ _ _ _ _ _ _ _ _ _ _ _ _ _ _ _ _ _ _ _ _ _ _ _ _ _ _ _ _ _ _ _ _ _ _ _ _ _ _ _ _ _ _ _ _ _ _ _ _ _ _ _ _ _ _ _ _ _ _ _ _ _ _ _ _ _ _ _ _ _ _ _ _ _ _ _ _ _ _ _ _ _ _ _ _ _ _ _ _ _ _ _ _ _ _ _ _ _ _ _ _ _ _ _ _ _ _ _ _ _ _ _ _ _ _ _ _ _ _ _ _ _ _ _ _ _ _ _ _ _ _ _ _ _ _ _ _ _ _ _ _ _ _ _ _ _ _ _ _ _ _ _ _ _ _ _ _ _ _ _ _ _ _ _ _ _ _ _ _ _ _ _ _ _ _ _ _ _ _ _ _ _ _  _ _ ?_
  intro w1 h1 hb1
  refine wp_two (c := dropSeq 1 tk0) ⟨_, _, rfl⟩ ?_
  refine take_a w w1 w.heap.size b off c l hc hat2 hbb (by rw [wArr_start l []]; exact h1) hb1 _ _ _ _ _ _ _ _ _ _ _ _ _ _ _ _ _ _ _ _ _ _ _ _ _ _ _ _ _ _ _ _ _ _ _ _ _ _ _ _ _ _ _ _ _ _ _ _ _ _ _ _ _ _ _ _ _ _ _ _ _ _ _ _ _ _ _ _ _ _ _ _ _ _ _ _ _ _ _ _ _ _ _ _ _ _ _ _ _ _ _ _ _ _ _ _ _ _ _ _ _ _ _ _ _ _ _ _ _ _ _ _ _ _ _ _ _ _ _ _ _ _ _ _ _ _ _ _ _ _ _ _ _ _ _ _ _ _ _ _ _ _ _ _ _ _ _ _ _ _ _ _ _ _ _ _ _ _ _ _ _ _ _ _ _ _ _ _ _ _ _ _ _ _ _ _ _ _ _ _ _ _ _ _ _ _ _ _ _ _ _ _ _ _ _ _ _ _ _ _ _ _ _ _ _ _ _ _ _ _ _ _ _ _ _ _ _ _  _ _ ?_
  intros
  rename_i w2 h2 hb2
  rw [dropSeq_succ]
  refine wp_two (c := dropSeq 2 tk0) ⟨_, _, rfl⟩ ?_
  refine take_b w w2 w.heap.size l h2 hb2 _ _ _ _ _ _ _ _ _ _ _ _ _ _ _ _ _ _ _ _ _ _ _ _ _ _ _ _ _ _ _ _ _ _ _ _ _ _ _ _ _ _ _ _ _ _ _ _ _ _ _ _ _ _ _ _ _ _ _ _ _ _ _ _ _ _ _ _ _ _ _ _ _ _ _ _ _ _ _ _ _ _ _ _ _ _ _ _ _ _ _ _ _ _ _ _ _ _ _ _ _ _ _ _ _ _ _ _ _ _ _ _ _ _ _ _ _ _ _ _ _ _ _ _ _ _ _ _ _ _ _ _ _ _ _ _ _ _ _ _ _ _ _ _ _ _ _ _ _ _ _ _ _ _ _ _ _ _ _ _ _ _ _ _ _ _ _ _ _ _ _ _ _ _ _ _ _ _ _ _ _ _ _ _ _ _ _ _ _ _ _ _ _ _ _ _ _ _ _ _ _ _ _ _ _ _ _ _ _ _ _ _ _ _ _ _ _ _ _  _ _ ?_
  intros
  rename_i w3 h3' hb3
  rw [dropSeq_succ]
  refine wp_two (c := dropSeq 3 tk0) ⟨_, _, rfl⟩ ?_
  have hs3 := (hb3.block gs hgs).trans hs
  refine take_11 w3 gs w.heap.size _ s.a s.b s.c s.d s.e s.f s.g s.h (fun i hi => ?_) _ _ _ _ _ _ _ _ _ _ _ _ _ _ _ _ _ _ _ _ _ _ _ _ _ _ _ _ _ _ _ _ _ _ _ _ _ _ _ _ _ _ _ _ _ _ _ _ _ _ _ _ _ _ _ _ _ _ _ _ _ _ _ _ _ _ _ _ _ _ _ _ _ _ _ _ _ _ _ _ _ _ _ _ _ _ _ _ _ _ _ _ _ _ _ _ _ _ _ _ _ _ _ _ _ _ _ _ _ _ _ _ _ _ _ _ _ _ _ _ _ _ _ _ _ _ _ _ _ _ _ _ _ _ _ _ _ _ _ _ _ _ _ _ _ _ _ _ _ _ _ _ _ _ _ _ _ _ _ _ _ _ _ _ _ _ _ _ _ _ _ _ _ _ _ _ _ _ _ _ _ _ _ _ _ _ _ _ _ _ _ _ _ _ _ _ _ _ _ _ _ _ _ _ _ _ _ _ _ _ _ _ _ _ _ _ _  _ _ ?_
  · rw [cell_of_row w3 gs i _ _ _ hs3, stC_get _ _ _ hi]; rfl
  intros
  rename_i n
  rw [dropSeq_succ]
  refine wp_two (c := dropSeq 4 tk0) ⟨_, _, rfl⟩ ?_
  have hb4 := below_drewN hb3 n
  refine take_c w (w3.drewN n) gs w.heap.size _ l s h3' hb4 (fun i hi => ?_) _ _ _ _ _ _ _ _ _ _ _ _ _ _ _ _ _ _ _ _ _ _ _ _ _ _ _ _ _ _ _ _ _ _ _ _ _ _ _ _ _ _ _ _ _ _ _ _ _ _ _ _ _ _ _ _ _ _ _ _ _ _ _ _ _ _ _ _ _ _ _ _ _ _ _ _ _ _ _ _ _ _ _ _ _ _ _ _ _ _ _ _ _ _ _ _ _ _ _ _ _ _ _ _ _ _ _ _ _ _ _ _ _ _ _ _ _ _ _ _ _ _ _ _ _ _ _ _ _ _ _ _ _ _ _ _ _ _ _ _ _ _ _ _ _ _ _ _ _ _ _ _ _ _ _ _ _ _ _ _ _ _ _ _ _ _ _ _ _ _ _ _ _ _ _ _ _ _ _ _ _ _ _ _ _ _ _ _ _ _ _ _ _ _ _ _ _ _ _ _ _ _ _ _ _ _ _ _ _  _ _ ?_
  · rw [hb4.cell (p := ⟨1, i, none⟩) h3]; exact ht i hi
  intros
  rename_i w5 h5 hb5
  rw [dropSeq_succ]
  refine take_d w w5 gs _ _ s (rounds l s 64) tl ty (by rw [h5]; exact hs3) ⟨hb5.os, hb5.tape, hb5.output, hb5.size, fun k hk _ => hb5.block k hk⟩ _ _ _ _ _ _ _ _ _ _ _ _ _ _ _ _ _ _ _ _ _ _ _ _ _ _ _ _ _ _ _ _ _ _ _ _ _ _ _ _ _ _ _ _ _ _ _ _ _ _ _ _ _ _ _ _ _ _ _ _ _ _ _ _ _ _ _ _ _ _ _ _ _ _ _ _ _ _ _ _ _ _ _ _ _ _ _ _ _ _ _ _ _ _ _ _ _ _ _ _ _ _ _ _ _ _ _ _ _ _ _ _ _ _ _ _ _ _ _ _ _ _ _ _ _ _ _ _ _ _ _ _ _ _ _ _ _ _ _ _ _ _ _ _ _ _ _ _ _ _ _ _ _ _ _ _ _ _ _ _ _ _ _ _ _ _ _ _ _ _ _ _ _ _ _ _ _ _ _ _ _ _ _ _ _ _ _ _ _ _ _ _ _ _ _ _ _ _ _ _ _ _ _ _ _ _ _ _ _  _ ?_
  exact fun w' h6 h7 => ⟨rfl, h6, h7⟩
end Go.Proofs.YtoboabkaojfbaaaGreatDoor
namespace Go.Proofs.YtoboabkaojfbaaaGreatDoor
open Go Go.RowKit
set_option maxRecDepth 100000
set_option maxHeartbeats 1000000
set_option linter.unusedVariables false
set_option linter.unusedSimpArgs false

open Go.RowKit in
section
variable {P : Program} {w : World} {ops : Array Oper} {rest : List Oper} {o : Oper} {a : Act} {Q : Exit → Act → World → Prop}
/-- copy(dst, src), dst in the midst of a block that is known whole: as many as fit. -/
theorem W_copyIn {K : Act → World → Prop} (d s : Operand) (t t' : TypeId) (ho : o.op = .call { callee := .builtin .copy, args := #[d, s], argTypes := #[t, t'] }) {e : TypeId} {z : Value} {bytes : Nat} (T : Sl P t e z 1 bytes)
    (g off n cap : Nat) (hd : a.eval d = .slice (some ⟨g, off, none⟩) n cap) (cur : List Value) (ty : TypeId) (hg : w.heap[g]? = some (.cells cur.toArray ty (0, 0))) (hfit : off + n ≤ cur.length)
    (sa : Option Addr) (m c : Nat) (l : List UInt8) (hs : a.eval s = .slice sa m c) (hr : R8 w sa m c l)
    (h : ∀ w', w'.heap[g]? = some (.cells (splice cur off ((l.take n).map b8)).toArray ty (0, 0)) → w.grownBy w' (some g) → K (a.put o.dst (goInt (min m n : Nat))) w') :
    o.wp P a w K Q := by
  obtain ⟨i, hi, hz0, hz1, hz2⟩ := info_parts T.inf
  have hlm := hr.1
  by_cases h0 : min m n = 0
  · have hl0 : l.take n = [] := by
      apply List.eq_nil_of_length_eq_zero; simp [hlm]; omega
    have hrun := run_copy_none (P := P) w t t' o.type e (some ⟨g, off, none⟩) sa n cap m c T.und (by rw [hi]; simp [hz1]) h0
    have := h w (by rw [hl0]; simpa [splice] using hg) ⟨rfl, rfl, rfl, Nat.le_refl _, fun _ _ _ => rfl⟩
    rw [h0] at this
    unfold Oper.wp
    simp [execOp, ho, resolve, invoke, builtin, hd, hs, hrun, Result.andThen]
    exact this
  · have hpos : 0 < l.length := by omega
    obtain ⟨b, off', e1, _⟩ := hr.2.2.2 0 hpos
    subst e1
    have hlen : ((l.take n).map b8).length = min m n := by simp [hlm, Nat.min_comm]
    have hr' : R8 w (some ⟨b, off', none⟩) (min m n) c (l.take n) := by
      rw [show l.take n = l.take (min m n) by rw [← hlm, Nat.min_comm, ← List.take_take, List.take_length]]
      exact hr.take _ (by omega)
    have hrun := run_copy_row (P := P) w t t' o.type e g off n cap ⟨b, off', none⟩ m c cur.toArray ty ((l.take n).map b8) T.und (by rw [hi]; simp [hz1]) hg hlen (hr'.cells rfl) (by rw [hlen]; simp; omega) (b8_one _)
    have := h _ (setRow_heap w g _ _ ty _ hg) ⟨rfl, rfl, rfl, by simp, fun k _ hk => setRow_other w g k _ (fun e => hk (by simp [e]))⟩
    rw [← hlen] at this
    unfold Oper.wp
    simp only [execOp, ho, resolve, invoke, builtin, Sem.run_bind, Sem.run_pure, Result.andThen_ok, List.map_toArray, List.map_cons, List.map_nil, hd, hs, hrun]
    have e2 : ∀ x : List Value, cur.take off ++ x ++ cur.drop (off + x.length) = splice cur off x := fun x => by unfold splice; rw [List.append_assoc]
    first
      | exact this
      | (rw [e2]; exact this)
      | (simp only [List.toList_toArray, e2]; exact this)
theorem L_copyIn (hgd : o.guard = none) (d s : Operand) (t t' : TypeId) (ho : o.op = .call { callee := .builtin .copy, args := #[d, s], argTypes := #[t, t'] }) {e : TypeId} {z : Value} {bytes : Nat} (T : Sl P t e z 1 bytes)
    (g off n cap : Nat) (hd : a.eval d = .slice (some ⟨g, off, none⟩) n cap) (cur : List Value) (ty : TypeId) (hg : w.heap[g]? = some (.cells cur.toArray ty (0, 0))) (hfit : off + n ≤ cur.length)
    (sa : Option Addr) (m c : Nat) (l : List UInt8) (hs : a.eval s = .slice sa m c) (hr : R8 w sa m c l)
    (h : ∀ w', w'.heap[g]? = some (.cells (splice cur off ((l.take n).map b8)).toArray ty (0, 0)) → w.grownBy w' (some g) → wpList P ops Q rest (a.put o.dst (goInt (min m n : Nat))) w') :
    wpList P ops Q (o :: rest) a w :=
  wpList_plain hgd fun _ hK => W_copyIn d s t t' ho T g off n cap hd cur ty hg hfit sa m c l hs hr fun w' h2 h3 => hK _ _ (h w' h2 h3)
theorem S_copyIn {K : Act → World → Prop} {E : Prop} (hgd : o.guard = none) (d s : Operand) (t t' : TypeId) (ho : o.op = .call { callee := .builtin .copy, args := #[d, s], argTypes := #[t, t'] }) {e : TypeId} {z : Value} {bytes : Nat} (T : Sl P t e z 1 bytes)
    (g off n cap : Nat) (hd : a.eval d = .slice (some ⟨g, off, none⟩) n cap) (cur : List Value) (ty : TypeId) (hg : w.heap[g]? = some (.cells cur.toArray ty (0, 0))) (hfit : off + n ≤ cur.length)
    (sa : Option Addr) (m c : Nat) (l : List UInt8) (hs : a.eval s = .slice sa m c) (hr : R8 w sa m c l)
    (h : ∀ w', w'.heap[g]? = some (.cells (splice cur off ((l.take n).map b8)).toArray ty (0, 0)) → w.grownBy w' (some g) → K (a.put o.dst (goInt (min m n : Nat))) w') :
    if Region.wanted o (yielded ops a.tmps) = true then Oper.wp P o a w K Q else E := by
  rw [if_pos (by simp [Region.wanted, hgd])]
  exact W_copyIn d s t t' ho T g off n cap hd cur ty hg hfit sa m c l hs hr h
end
theorem slice_to8 (w : World) (a : Option Addr) (n c k : Nat) (hk : k ≤ c) : (Instr.slice 49 (.slice a n c) none (some (.int .i64 (k : Int))) none).run Tryz.prog w = .ok (.slice a k c) w := by
  obtain ⟨h1, h2⟩ := sl22.elem w
  rw [run_slice_h w 49 a n c h1 .i64 k (by omega) (by omega), h2]
  have e : a.map (·.add 0) = a := by cases a with | none => rfl | some x => cases x; simp [Addr.add]
  simp [Result.andThen, sliced, e]
/-- The cells of a hasher behind its state. -/
def tlH (rs : List UInt8) (n : Nat) : List Value := rs.map b8 ++ [.int .u64 (n : Int)]
def hCells (m rs : List UInt8) : Array Value := stC (stOf m).list (tlH rs m.length)
/-- A hasher that has taken m. -/
def HsAt (w : World) (gh : Nat) (m : List UInt8) : Prop := ∃ rs : List UInt8, rs.length = 64 ∧ rs.take (m.length % 64) = rest m ∧ w.heap[gh]? = some (.cells (hCells m rs) 309 (0, 0))
theorem HsAt.keep {w w' : World} {gh : Nat} {m : List UInt8} (h : HsAt w gh m) (hk : w'.heap[gh]? = w.heap[gh]?) : HsAt w' gh m := by
  obtain ⟨rs, h1, h2, h3⟩ := h
  exact ⟨rs, h1, h2, hk.trans h3⟩
theorem HsAt.lt {w : World} {gh : Nat} {m : List UInt8} (h : HsAt w gh m) : gh < w.heap.size := (Array.getElem?_eq_some_iff.1 h.choose_spec.2.2).1
theorem S8.list_len (s : S8) : s.list.length = 8 := rfl
theorem cell_n {w : World} {gh : Nat} {l : List UInt32} (hl : l.length = 8) {rs : List UInt8} (hr : rs.length = 64) {n : Nat} {ty : TypeId} (h : w.heap[gh]? = some (.cells (stC l (tlH rs n)) ty (0, 0))) : w.cell? ⟨gh, 72, none⟩ = some (.int .u64 (n : Int)) := by
  rw [cell_of_row _ _ _ _ _ _ h]
  unfold stC tlH
  rw [List.getElem?_toArray, List.getElem?_append_right (by rw [List.length_map]; omega), List.length_map, hl, List.getElem?_append_right (by rw [List.length_map]; omega), List.length_map, hr]
  rfl
theorem set_n {l : List UInt32} (hl : l.length = 8) {rs : List UInt8} (hr : rs.length = 64) (n k : Nat) : (stC l (tlH rs n)).setIfInBounds 72 (.int .u64 (k : Int)) = stC l (tlH rs k) := by
  unfold stC tlH
  rw [List.setIfInBounds_toArray, List.set_append_right _ _ (by rw [List.length_map]; omega), List.set_append_right _ _ (by rw [List.length_map, List.length_map]; omega)]
  simp [hl, hr]
theorem splice_rest {l : List UInt32} (hl : l.length = 8) {rs : List UInt8} (hr : rs.length = 64) (n q : Nat) (x : List UInt8) (hq : q + x.length ≤ 64) : (splice (l.map wv ++ tlH rs n) (8 + q) (x.map b8)).toArray = stC l (tlH (rs.take q ++ x ++ rs.drop (q + x.length)) n) := by
  unfold splice tlH stC
  have h8 : (l.map wv).length = 8 := by rw [List.length_map]; exact hl
  rw [List.take_append, List.drop_append, h8, List.take_of_length_le (by omega), List.drop_of_length_le (by omega), List.length_map, show 8 + q - 8 = q by omega, show 8 + q + x.length - 8 = q + x.length by omega, List.take_append_of_le_length (by rw [List.length_map]; omega), List.drop_append_of_le_length (by rw [List.length_map]; omega)]
  simp [List.map_take, List.map_drop]
theorem r8_rest {w : World} {gh : Nat} {l : List UInt32} (hl : l.length = 8) {rs : List UInt8} (hr : rs.length = 64) {n : Nat} {ty : TypeId} (h : w.heap[gh]? = some (.cells (stC l (tlH rs n)) ty (0, 0))) : R8 w (some ⟨gh, 8, none⟩) 64 64 rs := by
  refine ⟨hr, Nat.le_refl _, by omega, fun i hi => ⟨gh, 8, rfl, ?_⟩⟩
  rw [cell_of_row _ _ _ _ _ _ h]
  unfold stC tlH
  rw [List.getElem?_toArray, List.getElem?_append_right (by rw [List.length_map]; omega), List.length_map, hl, show 8 + i - 8 = i by omega, List.getElem?_append_left (by rw [List.length_map]; omega), List.getElem?_map, List.getElem?_eq_getElem hi]
  rfl
/-- begin. -/
theorem newh_any (w : World) : Calls Tryz.prog 161 #[] w fun e w' => ∃ gh, e = .returned (.pointer (some ⟨gh, 0, none⟩)) ∧ w.heap.size ≤ gh ∧ HsAt w' gh [] ∧ Below w.heap.size w w' := by
  go_enter Tryz.func161, Tryz.ntmps161
  go_wp2
  go_ret
  have hz : ∀ o1 o2, ((w.alloc o1).alloc o2).heap[w.heap.size + 1]? = some o2 := fun o1 o2 => heap_alloc2_new w o1 o2
  refine ⟨w.heap.size + 1, rfl, Nat.le_succ _, ⟨List.replicate 64 0, by simp, rfl, (hz _ _).trans ?_⟩, ((Below.refl _ _).alloc (Nat.le_refl _) _).alloc (by simp) _⟩
  refine congrArg (fun c => some (Obj.cells c 309 (0, 0))) ?_
  kernel_rfl
theorem wp_two_k {P : Program} {c : Code} {Q : Exit → Act → World → Prop} {a : Act} {w : World} (hc : ∃ x y, c = .seq x y) (h : ∀ K : Act → World → Prop, (∀ a w, Code.wp P (dropSeq 1 c) Q a w → K a w) → Code.wp P (headSeq c) (Exit.then K Q) a w) : Code.wp P c Q a w :=
  wp_two hc (h _ fun _ _ x => x)
theorem r8_grown {w w' : World} {gh : Nat} {a : Option Addr} {n c : Nat} {p : List UInt8} (h : R8 w a n c p) (hap : ∀ x, a = some x → 0 < n → gh ≠ x.block) (hg : w.grownBy w' (some gh)) : R8 w' a n c p := by
  refine ⟨h.1, h.2.1, h.2.2.1, fun i hi => ?_⟩
  obtain ⟨b, off, e, hc⟩ := h.2.2.2 i hi
  exact ⟨b, off, e, (World.cell?_of_block (a := ⟨b, off + i, none⟩) (hg.block b (World.block_lt_of_cell? w _ hc) (fun e2 => hap _ e (by have := h.1; omega) (Option.some.inj e2).symm))).trans hc⟩
theorem rt_grown {w w' : World} {gh : Nat} (h : RoundTab w) (h3 : 1 < w.heap.size) (hne : gh ≠ 1) (hg : w.grownBy w' (some gh)) : RoundTab w' := fun i hi =>
  (World.cell?_of_block (a := ⟨1, i, none⟩) (hg.block 1 h3 (fun e => hne (Option.some.inj e).symm))).trans (h i hi)
theorem grown_trans {w w1 w2 : World} {g : Nat} (h : w.grownBy w1 (some g)) (k : w1.grownBy w2 (some g)) : w.grownBy w2 (some g) :=
  ⟨k.os.trans h.os, k.tape.trans h.tape, k.output.trans h.output, Nat.le_trans h.size k.size, fun i hi hne => (k.block i (Nat.lt_of_lt_of_le hi h.size) hne).trans (h.block i hi hne)⟩
theorem grown_refl (w : World) (r : Option Nat) : w.grownBy w r := ⟨rfl, rfl, rfl, Nat.le_refl _, fun _ _ _ => rfl⟩
theorem dropA_apart {a : Option Addr} {n gh : Nat} (h : ∀ x, a = some x → 0 < n → gh ≠ x.block) (k c : Nat) : ∀ x, dropA a k c = some x → 0 < n - k → gh ≠ x.block := by
  intro x e h0
  unfold dropA at e
  split at e
  · exact h x e (by omega)
  · cases a with
    | none => cases e
    | some y =>
      have hy := h y rfl (by omega)
      obtain rfl := Option.some.inj e
      obtain ⟨b', o', f'⟩ := y
      unfold Addr.add
      dsimp only
      split <;> exact hy
end Go.Proofs.YtoboabkaojfbaaaGreatDoor
