import Derived.Test.YtcnckjlmldnblaaDoorE52
import Derived.Test.YtcnckjlmldnblaaDoorE49a
import Derived.BigGuardPart
import Derived.OrdersHeld
import Derived.Deep.RegionHeld3
import Derived.Handy
namespace Go.Proofs.YtcnckjlmldnblaaDoor
open Go Go.RowKit
set_option linter.unusedVariables false
set_option linter.unusedSimpArgs false
theorem rightV_ok (w : World) (x : Vl) (a : Option Addr) (l c : Nat) (hf : Fit x) (hx : RS 1 Sv w a l c x.ss) :
    Calls Tryd.prog 11 #[VA x a l c] w fun e w' => e = .returned (.int .i64 0) ∧ Below w.heap.size w w' :=
  (evright_any w x a l c hx).mono fun e w' ⟨h, hb⟩ => ⟨by rw [hf.r] at h; exact h, hb⟩
theorem twoV_in (w : World) (t : ByteArray) (xs : List ByteArray) (n : Int) (ht : Fit (textV t)) (rt : RZ w none 0 0 []) (b : Option Addr) (m d : Nat) (hy : Fit (setV xs)) (ry : RZ w b m d xs) (h : doubleW 17 (textV t) (setV xs) = .ok ⟨2, n, ByteArray.empty, []⟩) (hT : ResTab w 1) (h1 : 1 < w.heap.size) :
    Calls Tryd.prog 28 #[.int .i64 17, VA (textV t) none 0 0, VA (setV xs) b m d] w fun e w' => (∃ a' c', e = .returned (.tuple #[.agg #[.int .i64 2, .int .i64 n, .string ByteArray.empty, .slice a' 0 c'], .int .i64 0]) ∧ RZ w' a' 0 c' []) ∧ Below w.heap.size w w' :=
  (twoV_ok w 17 (by unfold Two; decide) (textV t) (setV xs) ⟨2, n, ByteArray.empty, []⟩ none 0 0 ht rt (show (3 : Int) ≠ 0 by decide) b m d hy ry (show (5 : Int) ≠ 0 by decide) h (by simp) hT h1).mono fun e w' ⟨⟨a', c', he, hz⟩, hb⟩ => ⟨⟨a', c', he, hz⟩, hb⟩
/-- What stands in the midst of a law's walk: a beginning left alone, the table, values in boxes. -/
structure Sx (w W : World) (gs : List (Nat × Vc)) : Prop where
  b : Below w.heap.size w W
  t : ResTab W 1
  h : 1 < W.heap.size
  g : ∀ p ∈ gs, W.heap[p.1]? = some (boxS p.2.x p.2.a p.2.l p.2.c) ∧ RZ W p.2.a p.2.l p.2.c p.2.x.ss
theorem Sx.below {w W W' : World} {gs : List (Nat × Vc)} (h : Sx w W gs) (hb : Below W.heap.size W W') : Sx w W' gs :=
  ⟨h.b.trans (hb.mono h.b.size), h.t.below hb h.h h.h, by have := h.h; have := hb.size; omega, fun p hp => ⟨(hb.block _ (Array.getElem?_eq_some_iff.1 (h.g p hp).1).1).trans (h.g p hp).1, (h.g p hp).2.below hb⟩⟩
theorem Sx.alloc {w W : World} {gs : List (Nat × Vc)} (h : Sx w W gs) (v : Vc) (hz : RZ W v.a v.l v.c v.x.ss) : Sx w (W.alloc (boxS v.x v.a v.l v.c)) ((W.heap.size, v) :: gs) := by
  have h1 := h.below (bel1 W (boxS v.x v.a v.l v.c))
  refine ⟨h1.b, h1.t, h1.h, fun p hp => ?_⟩
  rcases List.mem_cons.1 hp with rfl | hp
  · exact ⟨heap_alloc_new W _, hz.below (bel1 _ _)⟩
  · exact h1.g p hp
theorem Sx.sub {w W : World} {gs hs : List (Nat × Vc)} (h : Sx w W gs) (hh : ∀ p ∈ hs, p ∈ gs) : Sx w W hs := ⟨h.b, h.t, h.h, fun p hp => h.g p (hh p hp)⟩
noncomputable def s3 : Code := headSeq (dropSeq 2 (Tryd.f8.body.getD .skip))
noncomputable def s4 : Code := dropSeq 3 (Tryd.f8.body.getD .skip)
/-- What the law's sets are: xs, ys laid; ls what is in the one alone, bs in both, al all, wi with a text, wo without it. -/
structure Sts (xs ys ls bs al wi wo : List ByteArray) (t : ByteArray) : Prop where
  fx : Fit (setV xs)
  fy : Fit (setV ys)
  fl : Fit (setV ls)
  fb : Fit (setV bs)
  fa : Fit (setV al)
  fi : Fit (setV wi)
  fo : Fit (setV wo)
  ft : Fit (textV t)
  less : doubleW 19 (setV xs) (setV ys) = .ok (setV ls)
  both : doubleW 19 (setV xs) (setV ls) = .ok (setV bs)
  all : doubleW 18 (setV xs) (setV ys) = .ok (setV al)
  back : doubleW 18 (setV ls) (setV bs) = .ok (setV xs)
  with_ : doubleW 18 (setV xs) (textV t) = .ok (setV wi)
  out : doubleW 19 (setV wi) (textV t) = .ok (setV wo)
  len : al.length = ls.length + ys.length
  yes : t ∈ xs → wi = xs
  no : t ∉ xs → wi.length = xs.length + 1 ∧ wo = xs
  l20 : ls.length ≤ 20 ∧ ys.length ≤ 20
theorem sts_of (la lb : List ByteArray) (t : ByteArray) (ht : t.size ≤ 1024) : ∃ ls bs al wi wo, Sts (setOf (laidL la)) (setOf (laidL lb)) ls bs al wi wo t := by
  have hx := setOf_rise (laidL la)
  have hy := setOf_rise (laidL lb)
  have lx := laid_len la
  have ly := laid_len lb
  have sx : ∀ m ∈ setOf (laidL la), m.size ≤ 1024 := fun m hm => laid_size m ((setOf_mem _ m).1 hm)
  have sy : ∀ m ∈ setOf (laidL lb), m.size ≤ 1024 := fun m hm => laid_size m ((setOf_mem _ m).1 hm)
  generalize setOf (laidL la) = xs at *
  generalize setOf (laidL lb) = ys at *
  have e1 := sets_less xs ys hx
  have e2 := sets_less xs (xs.filter fun m => !inSS ys m) hx
  have e3 := sets_back xs ys hx
  have e4 := sets_all xs ys hx hy
  have n1 : (xs.filter fun m => !inSS ys m).length ≤ 20 := Nat.le_trans (List.length_filter_le _ _) lx
  have n2 : (xs.filter fun m => !inSS (xs.filter fun m => !inSS ys m) m).length ≤ 20 := Nat.le_trans (List.length_filter_le _ _) lx
  have n3 : (setOf (xs ++ [t])).length ≤ 21 := Nat.le_trans (setOf_length_le _) (by simp; omega)
  have n4 : (setOf ((setOf (xs ++ [t])).filter fun m => !inSS [t] m)).length ≤ 21 := Nat.le_trans (setOf_length_le _) (Nat.le_trans (List.length_filter_le _ _) n3)
  have fx : Fit (setV xs) := by rw [← setOf_self hx]; exact fit_setOf (by rw [setOf_self hx]; omega) sx
  have fy : Fit (setV ys) := by rw [← setOf_self hy]; exact fit_setOf (by rw [setOf_self hy]; omega) sy
  have swi : ∀ m ∈ setOf (xs ++ [t]), m.size ≤ 1024 := fun m hm => by
    rcases List.mem_append.1 ((setOf_mem _ m).1 hm) with h | h
    · exact sx m h
    · simp only [List.mem_singleton] at h
      subst h
      exact ht
  refine ⟨xs.filter fun m => !inSS ys m, xs.filter fun m => !inSS (xs.filter fun m => !inSS ys m) m, setOf (xs ++ ys), setOf (xs ++ [t]), setOf ((setOf (xs ++ [t])).filter fun m => !inSS [t] m), fx, fy, ?_, ?_, ?_, ?_, ?_, ?_, ?_, ?_, ?_, ?_, ?_, ?_, e4, fun h => sets_with_in xs t hx h, fun h => ⟨sets_with_out xs t hx h, sets_without xs t hx h⟩, n1, ly⟩
  · rw [← e1]; exact fit_setOf (by rw [e1]; omega) fun m hm => sx m (List.mem_filter.1 hm).1
  · rw [← e2]; exact fit_setOf (by rw [e2]; omega) fun m hm => sx m (List.mem_filter.1 hm).1
  · exact fit_setOf (by rw [e4]; omega) fun m hm => (List.mem_append.1 hm).elim (sx m) (sy m)
  · exact fit_setOf (by omega) fun m hm => (List.mem_append.1 hm).elim (sx m) fun h => by simp only [List.mem_singleton] at h; subst h; exact ht
  · exact fit_setOf (by omega) fun m hm => swi m (List.mem_filter.1 hm).1
  · exact fit_text (by omega)
  · rw [double_sub _ _ (by rw [e1]; omega), e1]
  · rw [double_sub _ _ (by rw [e2]; omega), e2]
  · exact double_add _ _ (by rw [e4]; omega)
  · rw [double_add _ _ (by rw [e3]; omega), e3]
  · exact double_addt _ _ (by omega)
  · exact double_subt _ _ (by omega)
set_option maxRecDepth 100000 in
set_option maxHeartbeats 16000000 in
theorem sets3 (w W : World) (a : Option Addr) (n c : Nat) (la : List ByteArray) (hla : RS 1 Sv w a n c la) (hsa : ∀ m ∈ la, m.size ≤ maxLen) (b : Option Addr) (m d : Nat) (lb : List ByteArray) (hlb : RS 1 Sv w b m d lb) (hsb : ∀ m ∈ lb, m.size ≤ maxLen) (t : ByteArray) (ht : t.size ≤ 1024) (hs : Sx w W []) (u3 u4 u5 u6 u7 u8 u9 u10 u11 u12 u13 u14 u15 u16 u17 u18 u19 u20 u21 u22 u23 u24 u25 u26 u27 u28 u29 u30 u31 u32 u33 u34 u35 u36 u37 u38 u39 u40 u41 u42 u43 u44 u45 u46 u47 u48 u49 u50 u51 u52 u53 u54 u55 u56 u57 u58 u59 u60 u61 u62 u63 u64 u65 u66 u67 u68 u69 u70 u71 u72 u73 u74 u75 u76 u77 u78 u79 u80 u81 u82 u83 u84 u85 u86 u87 u88 u89 u90 u91 u92 u93 u94 u95 u96 u97 u98 u99 u100 u101 u102 u103 u104 u105 u106 u107 u108 u109 u110 u111 u112 u113 u114 u115 u116 u117 u118 u119 u120 u121 u122 u123 u124 u125 u126 u127 u128 u129 u130 u131 u132 u133 u134 u135 u136 u137 u138 u139 u140 u141 u142 u143 u144 u145 u146 u147 u148 u149 u150 u151 u152 u153 u154 u155 u156 u157 u158 u159 u160 u161 u162 u163 u164 u165 u166 u167 u168 u169 u170 u171 u172 u173 u174 u175 u176 u177 u178 u179 u180 u181 u182 u183 u184 u185 u186 : Value) (K : Act → World → Prop) (hK : ∀ a' w', Code.wp Tryd.prog s4 (bodyPost Tryd.prog Tryd.f8 fun e w' => e = .returned (.bool true) ∧ Below w.heap.size w w') a' w' → K a' w') :
    Code.wp Tryd.prog s3 (Exit.then K (bodyPost Tryd.prog Tryd.f8 fun e w' => e = .returned (.bool true) ∧ Below w.heap.size w w')) ⟨#[.slice a n c, .slice b m d, .string t, u3, u4, u5, u6, u7, u8, u9, u10, u11, u12, u13, u14, u15, u16, u17, u18, u19, u20, u21, u22, u23, u24, u25, u26, u27, u28, u29, u30, u31, u32, u33, u34, u35, u36, u37, u38, u39, u40, u41, u42, u43, u44, u45, u46, u47, u48, u49, u50, u51, u52, u53, u54, u55, u56, u57, u58, u59, u60, u61, u62, u63, u64, u65, u66, u67, u68, u69, u70, u71, u72, u73, u74, u75, u76, u77, u78, u79, u80, u81, u82, u83, u84, u85, u86, u87, u88, u89, u90, u91, u92, u93, u94, u95, u96, u97, u98, u99, u100, u101, u102, u103, u104, u105, u106, u107, u108, u109, u110, u111, u112, u113, u114, u115, u116, u117, u118, u119, u120, u121, u122, u123, u124, u125, u126, u127, u128, u129, u130, u131, u132, u133, u134, u135, u136, u137, u138, u139, u140, u141, u142, u143, u144, u145, u146, u147, u148, u149, u150, u151, u152, u153, u154, u155, u156, u157, u158, u159, u160, u161, u162, u163, u164, u165, u166, u167, u168, u169, u170, u171, u172, u173, u174, u175, u176, u177, u178, u179, u180, u181, u182, u183, u184, u185, u186], []⟩ W := by
  have HLA := Lib.hid hla
  have HLB := Lib.hid hlb
  have HSA := Lib.hid hsa
  have HSB := Lib.hid hsb
  have HS := Lib.hid hs
  obtain ⟨ls, bs, al, wi, wo, hst⟩ := sts_of la lb t ht
  obtain ⟨xs, hxs⟩ : ∃ xs, xs = setOf (laidL la) := ⟨_, rfl⟩
  obtain ⟨ys, hys⟩ : ∃ ys, ys = setOf (laidL lb) := ⟨_, rfl⟩
  rw [← hxs, ← hys] at hst
  have HXS := Lib.hid hxs
  have HYS := Lib.hid hys
  have HT := Lib.hid hst
  clear hla hlb hsa hsb hs hxs hys hst ht
  conv => arg 2; whnf
  go_wp2_with fail
  with_reducible refine (laid_any W a n c la (HLA.out.below HS.out.b) HSA.out HS.out.t HS.out.h).mono ?_
  rintro e z0 ⟨⟨adrx, capx, rfl, hz⟩, hb⟩
  rw [← HXS.out] at hz ⊢
  have HZx := Lib.hid hz
  have HN := Lib.hid (HS.out.below hb)
  clear hz hb
  go_wp2_with fail
  conv => arg 2; whnf
  go_upto_region 4 with (fail)
  obtain ⟨v1, hv1⟩ : ∃ v1, v1 = z0.alloc (boxS (setV xs) adrx xs.length capx) := ⟨_, rfl⟩
  rw [← hv1]
  have hs' := HN.out.alloc ⟨(setV xs), adrx, xs.length, capx⟩ HZx.out
  rw [show z0.alloc (boxS (⟨(setV xs), adrx, xs.length, capx⟩ : Vc).x (⟨(setV xs), adrx, xs.length, capx⟩ : Vc).a (⟨(setV xs), adrx, xs.length, capx⟩ : Vc).l (⟨(setV xs), adrx, xs.length, capx⟩ : Vc).c) = v1 from hv1.symm] at hs'
  clear HS HN hv1
  have HS := Lib.hid hs'
  clear hs'
  go_wp2_with fail
  with_reducible refine (laid_any v1 b m d lb (HLB.out.below HS.out.b) HSB.out HS.out.t HS.out.h).mono ?_
  rintro e z1 ⟨⟨adry, capy, rfl, hz⟩, hb⟩
  rw [← HYS.out] at hz ⊢
  have HZy := Lib.hid hz
  have HN := Lib.hid (HS.out.below hb)
  clear hz hb
  go_upto_region 5 with (fail)
  obtain ⟨v2, hv2⟩ : ∃ v2, v2 = z1.alloc (boxS (setV ys) adry ys.length capy) := ⟨_, rfl⟩
  rw [← hv2]
  have hs' := HN.out.alloc ⟨(setV ys), adry, ys.length, capy⟩ HZy.out
  rw [show z1.alloc (boxS (⟨(setV ys), adry, ys.length, capy⟩ : Vc).x (⟨(setV ys), adry, ys.length, capy⟩ : Vc).a (⟨(setV ys), adry, ys.length, capy⟩ : Vc).l (⟨(setV ys), adry, ys.length, capy⟩ : Vc).c) = v2 from hv2.symm] at hs'
  clear HS HN hv2
  have HS := Lib.hid hs'
  clear hs'
  obtain ⟨c0, c1, c2, c3, -⟩ := box4 (HS.out.g _ (List.Mem.tail _ (List.Mem.head _))).1
  obtain ⟨d0, d1, d2, d3, -⟩ := box4 (HS.out.g _ (List.Mem.head _)).1
  go_wp2_with fail
  with_reducible refine (twoV_ok v2 19 (by unfold Two; decide) (setV xs) (setV ys) (setV ls) adrx xs.length capx HT.out.fx (HS.out.g _ (List.Mem.tail _ (List.Mem.head _))).2 (show (5 : Int) ≠ 0 by decide) adry ys.length capy HT.out.fy (HS.out.g _ (List.Mem.head _)).2 (show (5 : Int) ≠ 0 by decide) HT.out.less (right_parts HT.out.fl.r).2.2.2.2 HS.out.t HS.out.h).mono ?_
  rintro e z2 ⟨⟨adrl, capl, rfl, hz⟩, hb⟩
  have HZl := Lib.hid hz
  have HN := Lib.hid (HS.out.below hb)
  clear hz hb c0 c1 c2 c3 d0 d1 d2 d3
  go_upto_region 6 with (fail)
  obtain ⟨v3, hv3⟩ : ∃ v3, v3 = z2.alloc (boxS (setV ls) adrl ls.length capl) := ⟨_, rfl⟩
  rw [← hv3]
  have hs' := HN.out.alloc ⟨(setV ls), adrl, ls.length, capl⟩ HZl.out
  rw [show z2.alloc (boxS (⟨(setV ls), adrl, ls.length, capl⟩ : Vc).x (⟨(setV ls), adrl, ls.length, capl⟩ : Vc).a (⟨(setV ls), adrl, ls.length, capl⟩ : Vc).l (⟨(setV ls), adrl, ls.length, capl⟩ : Vc).c) = v3 from hv3.symm] at hs'
  clear HS HN hv3
  have HS := Lib.hid hs'
  clear hs'
  obtain ⟨c0, c1, c2, c3, -⟩ := box4 (HS.out.g _ (List.Mem.tail _ (List.Mem.tail _ (List.Mem.head _)))).1
  obtain ⟨d0, d1, d2, d3, -⟩ := box4 (HS.out.g _ (List.Mem.head _)).1
  go_wp2_with fail
  with_reducible refine (twoV_ok v3 19 (by unfold Two; decide) (setV xs) (setV ls) (setV bs) adrx xs.length capx HT.out.fx (HS.out.g _ (List.Mem.tail _ (List.Mem.tail _ (List.Mem.head _)))).2 (show (5 : Int) ≠ 0 by decide) adrl ls.length capl HT.out.fl (HS.out.g _ (List.Mem.head _)).2 (show (5 : Int) ≠ 0 by decide) HT.out.both (right_parts HT.out.fb.r).2.2.2.2 HS.out.t HS.out.h).mono ?_
  rintro e z3 ⟨⟨adrb, capb, rfl, hz⟩, hb⟩
  have HZb := Lib.hid hz
  have HN := Lib.hid (HS.out.below hb)
  clear hz hb c0 c1 c2 c3 d0 d1 d2 d3
  go_upto_region 7 with (fail)
  obtain ⟨v4, hv4⟩ : ∃ v4, v4 = z3.alloc (boxS (setV bs) adrb bs.length capb) := ⟨_, rfl⟩
  rw [← hv4]
  have hs' := HN.out.alloc ⟨(setV bs), adrb, bs.length, capb⟩ HZb.out
  rw [show z3.alloc (boxS (⟨(setV bs), adrb, bs.length, capb⟩ : Vc).x (⟨(setV bs), adrb, bs.length, capb⟩ : Vc).a (⟨(setV bs), adrb, bs.length, capb⟩ : Vc).l (⟨(setV bs), adrb, bs.length, capb⟩ : Vc).c) = v4 from hv4.symm] at hs'
  clear HS HN hv4
  have HS := Lib.hid hs'
  clear hs'
  obtain ⟨c0, c1, c2, c3, -⟩ := box4 (HS.out.g _ (List.Mem.tail _ (List.Mem.tail _ (List.Mem.tail _ (List.Mem.head _))))).1
  obtain ⟨d0, d1, d2, d3, -⟩ := box4 (HS.out.g _ (List.Mem.tail _ (List.Mem.tail _ (List.Mem.head _)))).1
  go_wp2_with fail
  with_reducible refine (twoV_ok v4 18 (by unfold Two; decide) (setV xs) (setV ys) (setV al) adrx xs.length capx HT.out.fx (HS.out.g _ (List.Mem.tail _ (List.Mem.tail _ (List.Mem.tail _ (List.Mem.head _))))).2 (show (5 : Int) ≠ 0 by decide) adry ys.length capy HT.out.fy (HS.out.g _ (List.Mem.tail _ (List.Mem.tail _ (List.Mem.head _)))).2 (show (5 : Int) ≠ 0 by decide) HT.out.all (right_parts HT.out.fa.r).2.2.2.2 HS.out.t HS.out.h).mono ?_
  rintro e z4 ⟨⟨adral, capal, rfl, hz⟩, hb⟩
  have HZal := Lib.hid hz
  have HN := Lib.hid (HS.out.below hb)
  clear hz hb c0 c1 c2 c3 d0 d1 d2 d3
  go_upto_region 8 with (fail)
  obtain ⟨v5, hv5⟩ : ∃ v5, v5 = z4.alloc (boxS (setV al) adral al.length capal) := ⟨_, rfl⟩
  rw [← hv5]
  have hs' := HN.out.alloc ⟨(setV al), adral, al.length, capal⟩ HZal.out
  rw [show z4.alloc (boxS (⟨(setV al), adral, al.length, capal⟩ : Vc).x (⟨(setV al), adral, al.length, capal⟩ : Vc).a (⟨(setV al), adral, al.length, capal⟩ : Vc).l (⟨(setV al), adral, al.length, capal⟩ : Vc).c) = v5 from hv5.symm] at hs'
  clear HS HN hv5
  have HS := Lib.hid hs'
  clear hs'
  obtain ⟨c0, c1, c2, c3, -⟩ := box4 (HS.out.g _ (List.Mem.tail _ (List.Mem.tail _ (List.Mem.head _)))).1
  obtain ⟨d0, d1, d2, d3, -⟩ := box4 (HS.out.g _ (List.Mem.tail _ (List.Mem.head _))).1
  go_wp2_with fail
  with_reducible refine (twoV_ok v5 18 (by unfold Two; decide) (setV ls) (setV bs) (setV xs) adrl ls.length capl HT.out.fl (HS.out.g _ (List.Mem.tail _ (List.Mem.tail _ (List.Mem.head _)))).2 (show (5 : Int) ≠ 0 by decide) adrb bs.length capb HT.out.fb (HS.out.g _ (List.Mem.tail _ (List.Mem.head _))).2 (show (5 : Int) ≠ 0 by decide) HT.out.back (right_parts HT.out.fx.r).2.2.2.2 HS.out.t HS.out.h).mono ?_
  rintro e z5 ⟨⟨adrk, capk, rfl, hz⟩, hb⟩
  have HZk := Lib.hid hz
  have HN := Lib.hid (HS.out.below hb)
  clear hz hb c0 c1 c2 c3 d0 d1 d2 d3
  go_upto_region 9 with (fail)
  obtain ⟨v6, hv6⟩ : ∃ v6, v6 = z5.alloc (boxS (setV xs) adrk xs.length capk) := ⟨_, rfl⟩
  rw [← hv6]
  have hs' := HN.out.alloc ⟨(setV xs), adrk, xs.length, capk⟩ HZk.out
  rw [show z5.alloc (boxS (⟨(setV xs), adrk, xs.length, capk⟩ : Vc).x (⟨(setV xs), adrk, xs.length, capk⟩ : Vc).a (⟨(setV xs), adrk, xs.length, capk⟩ : Vc).l (⟨(setV xs), adrk, xs.length, capk⟩ : Vc).c) = v6 from hv6.symm] at hs'
  clear HS HN hv6
  have HS := Lib.hid hs'
  clear hs'
  obtain ⟨k0, k1, k2, k3, -⟩ := box4 (HS.out.g _ (List.Mem.head _)).1
  obtain ⟨c0, c1, c2, c3, -⟩ := box4 (HS.out.g _ (List.Mem.tail _ (List.Mem.tail _ (List.Mem.tail _ (List.Mem.tail _ (List.Mem.tail _ (List.Mem.head _))))))).1
  obtain ⟨p0, p1, p2, p3, -⟩ := box4 (HS.out.g _ (List.Mem.tail _ (List.Mem.head _))).1
  obtain ⟨l0, l1, l2, l3, -⟩ := box4 (HS.out.g _ (List.Mem.tail _ (List.Mem.tail _ (List.Mem.tail _ (List.Mem.head _))))).1
  obtain ⟨q0, q1, q2, q3, -⟩ := box4 (HS.out.g _ (List.Mem.tail _ (List.Mem.tail _ (List.Mem.tail _ (List.Mem.tail _ (List.Mem.head _)))))).1
  have hl1 := HT.out.l20.1
  have hl2 := HT.out.l20.2
  have hln : ((al.length : Int) != (ls.length : Int) + (ys.length : Int)) = false := by have := HT.out.len; simp; omega
  go_wp2_with fail
  with_reducible refine (sameV_any v6 (setV xs) adrk xs.length capk (HS.out.g _ (List.Mem.head _)).2.rs adrx capx (HS.out.g _ (List.Mem.tail _ (List.Mem.tail _ (List.Mem.tail _ (List.Mem.tail _ (List.Mem.tail _ (List.Mem.head _))))))).2.rs).mono ?_
  rintro e w9 ⟨rfl, hb9⟩
  have HN := Lib.hid (HS.out.below hb9)
  clear HS
  have HS := Lib.hid HN.out
  clear hb9 c0 c1 c2 c3 k0 k1 k2 k3 p0 p1 p2 p3 l0 l1 l2 l3 q0 q1 q2 q3
  obtain ⟨p0, p1, p2, p3, -⟩ := box4 (HS.out.g _ (List.Mem.tail _ (List.Mem.head _))).1
  obtain ⟨l0, l1, l2, l3, -⟩ := box4 (HS.out.g _ (List.Mem.tail _ (List.Mem.tail _ (List.Mem.tail _ (List.Mem.head _))))).1
  obtain ⟨q0, q1, q2, q3, -⟩ := box4 (HS.out.g _ (List.Mem.tail _ (List.Mem.tail _ (List.Mem.tail _ (List.Mem.tail _ (List.Mem.head _)))))).1
  go_upto_region 12 with (fail)
  clear p0 p1 p2 p3 l0 l1 l2 l3 q0 q1 q2 q3 hln hl1 hl2
  obtain ⟨v7, hv7⟩ : ∃ v7, v7 = w9.alloc (boxS (textV t) none 0 0) := ⟨_, rfl⟩
  rw [← hv7]
  have hs' := HN.out.alloc ⟨(textV t), none, 0, 0⟩ ⟨rs_nil1 _, fun _ => rfl⟩
  rw [show w9.alloc (boxS (⟨(textV t), none, 0, 0⟩ : Vc).x (⟨(textV t), none, 0, 0⟩ : Vc).a (⟨(textV t), none, 0, 0⟩ : Vc).l (⟨(textV t), none, 0, 0⟩ : Vc).c) = v7 from hv7.symm] at hs'
  clear HS HN hv7
  have HS := Lib.hid hs'
  clear hs'
  by_cases hin : t ∈ xs
  · have hwi : xs = wi := (HT.out.yes hin).symm
    subst hwi
    have HIN := Lib.hid (show doubleW 17 (textV t) (setV xs) = .ok ⟨2, 1, ByteArray.empty, []⟩ by rw [double_in, (inSS_iff xs t).2 hin]; rfl)
    clear hin
    obtain ⟨c0, c1, c2, c3, -⟩ := box4 (HS.out.g _ (List.Mem.head _)).1
    obtain ⟨d0, d1, d2, d3, -⟩ := box4 (HS.out.g _ (List.Mem.tail _ (List.Mem.tail _ (List.Mem.tail _ (List.Mem.tail _ (List.Mem.tail _ (List.Mem.tail _ (List.Mem.head _)))))))).1
    go_wp2_with fail
    with_reducible refine (twoV_in v7 t xs 1 HT.out.ft (HS.out.g _ (List.Mem.head _)).2 adrx xs.length capx HT.out.fx (HS.out.g _ (List.Mem.tail _ (List.Mem.tail _ (List.Mem.tail _ (List.Mem.tail _ (List.Mem.tail _ (List.Mem.tail _ (List.Mem.head _)))))))).2 HIN.out HS.out.t HS.out.h).mono ?_
    rintro e zi ⟨⟨adri, capi, rfl, hz⟩, hb⟩
    have HZi := Lib.hid hz
    have HN := Lib.hid (HS.out.below hb)
    clear hz hb c0 c1 c2 c3 d0 d1 d2 d3
    go_upto_region 13 with (fail)
    obtain ⟨v8, hv8⟩ : ∃ v8, v8 = zi.alloc (boxS ⟨2, 1, ByteArray.empty, []⟩ adri 0 capi) := ⟨_, rfl⟩
    rw [← hv8]
    have hs' := HN.out.alloc ⟨⟨2, 1, ByteArray.empty, []⟩, adri, 0, capi⟩ HZi.out
    rw [show zi.alloc (boxS (⟨⟨2, 1, ByteArray.empty, []⟩, adri, 0, capi⟩ : Vc).x (⟨⟨2, 1, ByteArray.empty, []⟩, adri, 0, capi⟩ : Vc).a (⟨⟨2, 1, ByteArray.empty, []⟩, adri, 0, capi⟩ : Vc).l (⟨⟨2, 1, ByteArray.empty, []⟩, adri, 0, capi⟩ : Vc).c) = v8 from hv8.symm] at hs'
    clear HS HN hv8
    have HS := Lib.hid hs'
    clear hs'
    obtain ⟨c0, c1, c2, c3, -⟩ := box4 (HS.out.g _ (List.Mem.tail _ (List.Mem.tail _ (List.Mem.tail _ (List.Mem.tail _ (List.Mem.tail _ (List.Mem.tail _ (List.Mem.tail _ (List.Mem.head _))))))))).1
    obtain ⟨d0, d1, d2, d3, -⟩ := box4 (HS.out.g _ (List.Mem.tail _ (List.Mem.head _))).1
    go_wp2_with fail
    with_reducible refine (twoV_ok v8 18 (by unfold Two; decide) (setV xs) (textV t) (setV xs) adrx xs.length capx HT.out.fx (HS.out.g _ (List.Mem.tail _ (List.Mem.tail _ (List.Mem.tail _ (List.Mem.tail _ (List.Mem.tail _ (List.Mem.tail _ (List.Mem.tail _ (List.Mem.head _))))))))).2 (show (5 : Int) ≠ 0 by decide) none 0 0 HT.out.ft (HS.out.g _ (List.Mem.tail _ (List.Mem.head _))).2 (show (3 : Int) ≠ 0 by decide) HT.out.with_ (right_parts HT.out.fi.r).2.2.2.2 HS.out.t HS.out.h).mono ?_
    rintro e z8 ⟨⟨adrwi, capwi, rfl, hz⟩, hb⟩
    have HZwi := Lib.hid hz
    have HN := Lib.hid (HS.out.below hb)
    clear hz hb c0 c1 c2 c3 d0 d1 d2 d3
    go_upto_region 14 with (fail)
    obtain ⟨v9, hv9⟩ : ∃ v9, v9 = z8.alloc (boxS (setV xs) adrwi xs.length capwi) := ⟨_, rfl⟩
    rw [← hv9]
    have hs' := HN.out.alloc ⟨(setV xs), adrwi, xs.length, capwi⟩ HZwi.out
    rw [show z8.alloc (boxS (⟨(setV xs), adrwi, xs.length, capwi⟩ : Vc).x (⟨(setV xs), adrwi, xs.length, capwi⟩ : Vc).a (⟨(setV xs), adrwi, xs.length, capwi⟩ : Vc).l (⟨(setV xs), adrwi, xs.length, capwi⟩ : Vc).c) = v9 from hv9.symm] at hs'
    clear HS HN hv9
    have HS := Lib.hid hs'
    clear hs'
    obtain ⟨c0, c1, c2, c3, -⟩ := box4 (HS.out.g _ (List.Mem.head _)).1
    obtain ⟨d0, d1, d2, d3, -⟩ := box4 (HS.out.g _ (List.Mem.tail _ (List.Mem.tail _ (List.Mem.head _)))).1
    go_wp2_with fail
    with_reducible refine (twoV_ok v9 19 (by unfold Two; decide) (setV xs) (textV t) (setV wo) adrwi xs.length capwi HT.out.fi (HS.out.g _ (List.Mem.head _)).2 (show (5 : Int) ≠ 0 by decide) none 0 0 HT.out.ft (HS.out.g _ (List.Mem.tail _ (List.Mem.tail _ (List.Mem.head _)))).2 (show (3 : Int) ≠ 0 by decide) HT.out.out (right_parts HT.out.fo.r).2.2.2.2 HS.out.t HS.out.h).mono ?_
    rintro e z9 ⟨⟨adrwo, capwo, rfl, hz⟩, hb⟩
    have HZwo := Lib.hid hz
    have HN := Lib.hid (HS.out.below hb)
    clear hz hb c0 c1 c2 c3 d0 d1 d2 d3
    go_upto_region 15 with (fail)
    obtain ⟨v10, hv10⟩ : ∃ v10, v10 = z9.alloc (boxS (setV wo) adrwo wo.length capwo) := ⟨_, rfl⟩
    rw [← hv10]
    have hs' := HN.out.alloc ⟨(setV wo), adrwo, wo.length, capwo⟩ HZwo.out
    rw [show z9.alloc (boxS (⟨(setV wo), adrwo, wo.length, capwo⟩ : Vc).x (⟨(setV wo), adrwo, wo.length, capwo⟩ : Vc).a (⟨(setV wo), adrwo, wo.length, capwo⟩ : Vc).l (⟨(setV wo), adrwo, wo.length, capwo⟩ : Vc).c) = v10 from hv10.symm] at hs'
    clear HS HN hv10
    have HS := Lib.hid hs'
    clear hs'
    obtain ⟨i0, i1, i2, i3, -⟩ := box4 (HS.out.g _ (List.Mem.tail _ (List.Mem.tail _ (List.Mem.head _)))).1
    obtain ⟨r0, r1, r2, r3, -⟩ := box4 (HS.out.g _ (List.Mem.tail _ (List.Mem.head _))).1
    obtain ⟨s0, s1, s2, s3, -⟩ := box4 (HS.out.g _ (List.Mem.tail _ (List.Mem.tail _ (List.Mem.tail _ (List.Mem.tail _ (List.Mem.tail _ (List.Mem.tail _ (List.Mem.tail _ (List.Mem.tail _ (List.Mem.tail _ (List.Mem.head _))))))))))).1
    obtain ⟨o0, o1, o2, o3, -⟩ := box4 (HS.out.g _ (List.Mem.head _)).1
    refine wp_region_held_drew (S := (fun w' => Below v10.heap.size v10 w' ∧ w'.cell? ⟨zi.heap.size, 1, none⟩ = some (.int .i64 1) ∧ w'.cell? ⟨z8.heap.size, 0, none⟩ = some (.int .i64 5) ∧ w'.cell? ⟨z8.heap.size, 1, none⟩ = some (.int .i64 0) ∧ w'.cell? ⟨z8.heap.size, 2, none⟩ = some (.string ByteArray.empty) ∧ w'.cell? ⟨z8.heap.size, 3, none⟩ = some (.slice adrwi xs.length capwi) ∧ w'.cell? ⟨z0.heap.size, 0, none⟩ = some (.int .i64 5) ∧ w'.cell? ⟨z0.heap.size, 1, none⟩ = some (.int .i64 0) ∧ w'.cell? ⟨z0.heap.size, 2, none⟩ = some (.string ByteArray.empty) ∧ w'.cell? ⟨z0.heap.size, 3, none⟩ = some (.slice adrx xs.length capx) ∧ w'.cell? ⟨z9.heap.size, 0, none⟩ = some (.int .i64 5) ∧ w'.cell? ⟨z9.heap.size, 1, none⟩ = some (.int .i64 0) ∧ w'.cell? ⟨z9.heap.size, 2, none⟩ = some (.string ByteArray.empty) ∧ w'.cell? ⟨z9.heap.size, 3, none⟩ = some (.slice adrwo wo.length capwo))) (by kernel_rfl) ⟨(Below.refl _ _).drew, i1, r0, r1, r2, r3, s0, s1, s2, s3, o0, o1, o2, o3⟩ (fun hHeld => ?_)
    clear i0 i1 i2 i3 r0 r1 r2 r3 s0 s1 s2 s3 o0 o1 o2 o3
    refine wpAnyH_take (i := 0) (oi := _) (v := ?_) rfl (by kernel_rfl) (by kernel_rfl) (by kernel_rfl) (fun _ _ _ h => h) (Or.inl ⟨by rfl, ?_⟩) (by assumption) ?_
    rotate_left
    · intro w hSw
      (try dsimp only at hSw)
      go_simp
      all_goals (first | done | with_reducible rfl)
    (try simp only [Act.put, List.setIfInBounds_toArray, List.set_cons_zero, List.set_cons_succ, List.getElem_toArray, List.getElem_cons_succ, List.getElem_cons_zero])
    refine wpAnyH_take (i := 1) (oi := _) (v := ?_) rfl (by kernel_rfl) (by kernel_rfl) (by kernel_rfl) (fun _ _ _ h => h) (Or.inl ⟨by rfl, ?_⟩) (by assumption) ?_
    rotate_left
    · intro w hSw
      (try dsimp only at hSw)
      go_simp
      all_goals (first | done | with_reducible rfl)
    (try simp only [Act.put, List.setIfInBounds_toArray, List.set_cons_zero, List.set_cons_succ, List.getElem_toArray, List.getElem_cons_succ, List.getElem_cons_zero])
    refine wpAnyH_take (i := 2) (oi := _) (v := ?_) rfl (by kernel_rfl) (by kernel_rfl) (by kernel_rfl) (fun _ _ _ h => h) (Or.inl ⟨by rfl, ?_⟩) (by assumption) ?_
    rotate_left
    · intro w hSw
      (try dsimp only at hSw)
      go_simp
      all_goals (first | done | with_reducible rfl)
    (try simp only [Act.put, List.setIfInBounds_toArray, List.set_cons_zero, List.set_cons_succ, List.getElem_toArray, List.getElem_cons_succ, List.getElem_cons_zero])
    refine wpAnyH_take (i := 3) (oi := _) (v := ?_) rfl (by kernel_rfl) (by kernel_rfl) (by kernel_rfl) (fun _ _ _ h => h) (Or.inl ⟨by rfl, ?_⟩) (by assumption) ?_
    rotate_left
    · intro w hSw
      (try dsimp only at hSw)
      go_simp
      all_goals (first | done | with_reducible rfl)
    (try simp only [Act.put, List.setIfInBounds_toArray, List.set_cons_zero, List.set_cons_succ, List.getElem_toArray, List.getElem_cons_succ, List.getElem_cons_zero])
    refine wpAnyH_take (i := 4) (oi := _) (v := ?_) rfl (by kernel_rfl) (by kernel_rfl) (by kernel_rfl) (fun _ _ _ h => h) (Or.inl ⟨by rfl, ?_⟩) (by assumption) ?_
    rotate_left
    · intro w hSw
      (try dsimp only at hSw)
      go_simp
      all_goals (first | done | with_reducible rfl)
    (try simp only [Act.put, List.setIfInBounds_toArray, List.set_cons_zero, List.set_cons_succ, List.getElem_toArray, List.getElem_cons_succ, List.getElem_cons_zero])
    refine wpAnyH_take (i := 5) (oi := _) (v := ?_) rfl (by kernel_rfl) (by kernel_rfl) (by kernel_rfl) (fun _ _ _ h => h) (Or.inl ⟨by rfl, ?_⟩) (by assumption) ?_
    rotate_left
    · intro w hSw
      (try dsimp only at hSw)
      go_simp
      all_goals (first | done | with_reducible rfl)
    (try simp only [Act.put, List.setIfInBounds_toArray, List.set_cons_zero, List.set_cons_succ, List.getElem_toArray, List.getElem_cons_succ, List.getElem_cons_zero])
    refine wpAnyH_take (i := 6) (oi := _) (v := ?_) rfl (by kernel_rfl) (by kernel_rfl) (by kernel_rfl) (fun _ _ _ h => h) (Or.inl ⟨by rfl, ?_⟩) (by assumption) ?_
    rotate_left
    · intro w hSw
      (try dsimp only at hSw)
      go_simp
      all_goals (first | done | with_reducible rfl)
    (try simp only [Act.put, List.setIfInBounds_toArray, List.set_cons_zero, List.set_cons_succ, List.getElem_toArray, List.getElem_cons_succ, List.getElem_cons_zero])
    refine wpAnyH_take (i := 7) (oi := _) (v := ?_) rfl (by kernel_rfl) (by kernel_rfl) (by kernel_rfl) (fun _ _ _ h => h) (Or.inl ⟨by rfl, ?_⟩) (by assumption) ?_
    rotate_left
    · intro w hSw
      (try dsimp only at hSw)
      go_simp
      all_goals (first | done | with_reducible rfl)
    (try simp only [Act.put, List.setIfInBounds_toArray, List.set_cons_zero, List.set_cons_succ, List.getElem_toArray, List.getElem_cons_succ, List.getElem_cons_zero])
    refine wpAnyH_take (i := 8) (oi := _) (v := ?_) rfl (by kernel_rfl) (by kernel_rfl) (by kernel_rfl) (fun _ _ _ h => h) (Or.inl ⟨by rfl, ?_⟩) (by assumption) ?_
    rotate_left
    · intro w hSw
      (try dsimp only at hSw)
      go_simp
      all_goals (first | done | with_reducible rfl)
    (try simp only [Act.put, List.setIfInBounds_toArray, List.set_cons_zero, List.set_cons_succ, List.getElem_toArray, List.getElem_cons_succ, List.getElem_cons_zero])
    refine wpAnyH_take (i := 9) (oi := _) (v := ?_) rfl (by kernel_rfl) (by kernel_rfl) (by kernel_rfl) (fun _ _ _ h => h) (Or.inl ⟨by rfl, ?_⟩) (by assumption) ?_
    rotate_left
    · intro w hSw
      (try dsimp only at hSw)
      go_simp
      all_goals (first | done | with_reducible rfl)
    (try simp only [Act.put, List.setIfInBounds_toArray, List.set_cons_zero, List.set_cons_succ, List.getElem_toArray, List.getElem_cons_succ, List.getElem_cons_zero])
    refine wpAnyH_take (i := 10) (oi := _) (v := ?_) rfl (by kernel_rfl) (by kernel_rfl) (by kernel_rfl) (fun _ _ _ h => h) (Or.inl ⟨by rfl, ?_⟩) (by assumption) ?_
    rotate_left
    · intro w hSw
      (try dsimp only at hSw)
      go_simp
      all_goals (first | done | with_reducible rfl)
    (try simp only [Act.put, List.setIfInBounds_toArray, List.set_cons_zero, List.set_cons_succ, List.getElem_toArray, List.getElem_cons_succ, List.getElem_cons_zero])
    refine wpAnyH_take (i := 11) (oi := _) (v := ?_) rfl (by kernel_rfl) (by kernel_rfl) (by kernel_rfl) (fun _ _ _ h => h) (Or.inl ⟨by rfl, ?_⟩) (by assumption) ?_
    rotate_left
    · intro w hSw
      (try dsimp only at hSw)
      go_simp
      all_goals (first | done | with_reducible rfl)
    (try simp only [Act.put, List.setIfInBounds_toArray, List.set_cons_zero, List.set_cons_succ, List.getElem_toArray, List.getElem_cons_succ, List.getElem_cons_zero])
    refine wpAnyH_take (i := 12) (oi := _) (v := ?_) rfl (by kernel_rfl) (by kernel_rfl) (by kernel_rfl) (fun _ _ _ h => h) (Or.inl ⟨by rfl, ?_⟩) (by assumption) ?_
    rotate_left
    · intro w hSw
      (try dsimp only at hSw)
      go_simp
      all_goals (first | done | with_reducible rfl)
    (try simp only [Act.put, List.setIfInBounds_toArray, List.set_cons_zero, List.set_cons_succ, List.getElem_toArray, List.getElem_cons_succ, List.getElem_cons_zero])
    refine wpAnyH_take (i := 13) (oi := _) (v := ?_) rfl (by kernel_rfl) (by kernel_rfl) (by kernel_rfl) (fun _ _ _ h => h) (Or.inl ⟨by rfl, ?_⟩) (by assumption) ?_
    rotate_left
    · intro w hSw
      (try dsimp only at hSw)
      go_simp
      all_goals (first | done | with_reducible rfl)
    (try simp only [Act.put, List.setIfInBounds_toArray, List.set_cons_zero, List.set_cons_succ, List.getElem_toArray, List.getElem_cons_succ, List.getElem_cons_zero])
    refine wpAnyH_take (i := 14) (oi := _) (v := ?_) rfl (by kernel_rfl) (by kernel_rfl) (by kernel_rfl) (fun _ _ _ h => h) (Or.inl ⟨by rfl, ?_⟩) (by assumption) ?_
    rotate_left
    · intro w hSw
      (try dsimp only at hSw)
      go_simp
      all_goals (first | done | with_reducible rfl)
    (try simp only [Act.put, List.setIfInBounds_toArray, List.set_cons_zero, List.set_cons_succ, List.getElem_toArray, List.getElem_cons_succ, List.getElem_cons_zero])
    refine wpAnyH_take (i := 15) (oi := _) (v := ?_) rfl (by kernel_rfl) (by kernel_rfl) (by kernel_rfl) (fun _ _ _ h => h) (Or.inl ⟨by rfl, ?_⟩) (by assumption) ?_
    rotate_left
    · intro w hSw
      (try dsimp only at hSw)
      go_simp
      all_goals (first | done | with_reducible rfl)
    (try simp only [Act.put, List.setIfInBounds_toArray, List.set_cons_zero, List.set_cons_succ, List.getElem_toArray, List.getElem_cons_succ, List.getElem_cons_zero])
    refine wpAnyH_ready (rs := [16]) (by kernel_rfl) (by simp) ?_
    refine AllReadyH.cons (o := _) rfl (fun K hK => ?_) AllReadyH.nil
    go_simp
    refine (sameV_any _ (setV xs) adrwi xs.length capwi ((HS.out.g _ (List.Mem.tail _ (List.Mem.head _))).2.rs.below hHeld.1) adrx capx ((HS.out.g _ (List.Mem.tail _ (List.Mem.tail _ (List.Mem.tail _ (List.Mem.tail _ (List.Mem.tail _ (List.Mem.tail _ (List.Mem.tail _ (List.Mem.tail _ (List.Mem.tail _ (List.Mem.head _))))))))))).2.rs.below hHeld.1)).mono ?_
    rintro e wn ⟨rfl, hb⟩
    refine hK.out _ _ ⟨hHeld.1.trans (hb.mono hHeld.1.size), keepb hb hHeld.2.1, keepb hb hHeld.2.2.1, keepb hb hHeld.2.2.2.1, keepb hb hHeld.2.2.2.2.1, keepb hb hHeld.2.2.2.2.2.1, keepb hb hHeld.2.2.2.2.2.2.1, keepb hb hHeld.2.2.2.2.2.2.2.1, keepb hb hHeld.2.2.2.2.2.2.2.2.1, keepb hb hHeld.2.2.2.2.2.2.2.2.2.1, keepb hb hHeld.2.2.2.2.2.2.2.2.2.2.1, keepb hb hHeld.2.2.2.2.2.2.2.2.2.2.2.1, keepb hb hHeld.2.2.2.2.2.2.2.2.2.2.2.2.1, keepb hb hHeld.2.2.2.2.2.2.2.2.2.2.2.2.2⟩ (fun hHeld => ?_)
    clear hK K
    (try simp only [Act.put, List.setIfInBounds_toArray, List.set_cons_zero, List.set_cons_succ, List.getElem_toArray, List.getElem_cons_succ, List.getElem_cons_zero])
    clear hb
    refine wpAnyH_take (i := 17) (oi := _) (v := ?_) rfl (by kernel_rfl) (by kernel_rfl) (by kernel_rfl) (fun _ _ _ h => h) (Or.inl ⟨by rfl, ?_⟩) (by assumption) ?_
    rotate_left
    · intro w hSw
      (try dsimp only at hSw)
      go_simp
      all_goals (first | done | with_reducible rfl)
    (try simp only [Act.put, List.setIfInBounds_toArray, List.set_cons_zero, List.set_cons_succ, List.getElem_toArray, List.getElem_cons_succ, List.getElem_cons_zero])
    refine wpAnyH_take (i := 18) (oi := _) (v := ?_) rfl (by kernel_rfl) (by kernel_rfl) (by kernel_rfl) (fun _ _ _ h => h) (Or.inl ⟨by rfl, ?_⟩) (by assumption) ?_
    rotate_left
    · intro w hSw
      (try dsimp only at hSw)
      go_simp
      all_goals (first | done | with_reducible rfl)
    (try simp only [Act.put, List.setIfInBounds_toArray, List.set_cons_zero, List.set_cons_succ, List.getElem_toArray, List.getElem_cons_succ, List.getElem_cons_zero])
    refine wpAnyH_take (i := 19) (oi := _) (v := ?_) rfl (by kernel_rfl) (by kernel_rfl) (by kernel_rfl) (fun _ _ _ h => h) (Or.inl ⟨by rfl, ?_⟩) (by assumption) ?_
    rotate_left
    · intro w hSw
      (try dsimp only at hSw)
      go_simp
      all_goals (first | done | with_reducible rfl)
    (try simp only [Act.put, List.setIfInBounds_toArray, List.set_cons_zero, List.set_cons_succ, List.getElem_toArray, List.getElem_cons_succ, List.getElem_cons_zero])
    refine wpAnyH_take (i := 20) (oi := _) (v := ?_) rfl (by kernel_rfl) (by kernel_rfl) (by kernel_rfl) (fun _ _ _ h => h) (Or.inl ⟨by rfl, ?_⟩) (by assumption) ?_
    rotate_left
    · intro w hSw
      (try dsimp only at hSw)
      go_simp
      all_goals (first | done | with_reducible rfl)
    (try simp only [Act.put, List.setIfInBounds_toArray, List.set_cons_zero, List.set_cons_succ, List.getElem_toArray, List.getElem_cons_succ, List.getElem_cons_zero])
    refine wpAnyH_take (i := 21) (oi := _) (v := ?_) rfl (by kernel_rfl) (by kernel_rfl) (by kernel_rfl) (fun _ _ _ h => h) (Or.inl ⟨by rfl, ?_⟩) (by assumption) ?_
    rotate_left
    · intro w hSw
      (try dsimp only at hSw)
      go_simp
      all_goals (first | done | with_reducible rfl)
    (try simp only [Act.put, List.setIfInBounds_toArray, List.set_cons_zero, List.set_cons_succ, List.getElem_toArray, List.getElem_cons_succ, List.getElem_cons_zero])
    refine wpAnyH_take (i := 22) (oi := _) (v := ?_) rfl (by kernel_rfl) (by kernel_rfl) (by kernel_rfl) (fun _ _ _ h => h) (Or.inl ⟨by rfl, ?_⟩) (by assumption) ?_
    rotate_left
    · intro w hSw
      (try dsimp only at hSw)
      go_simp
      all_goals (first | done | with_reducible rfl)
    (try simp only [Act.put, List.setIfInBounds_toArray, List.set_cons_zero, List.set_cons_succ, List.getElem_toArray, List.getElem_cons_succ, List.getElem_cons_zero])
    refine wpAnyH_take (i := 23) (oi := _) (v := ?_) rfl (by kernel_rfl) (by kernel_rfl) (by kernel_rfl) (fun _ _ _ h => h) (Or.inl ⟨by rfl, ?_⟩) (by assumption) ?_
    rotate_left
    · intro w hSw
      (try dsimp only at hSw)
      go_simp
      all_goals (first | done | with_reducible rfl)
    (try simp only [Act.put, List.setIfInBounds_toArray, List.set_cons_zero, List.set_cons_succ, List.getElem_toArray, List.getElem_cons_succ, List.getElem_cons_zero])
    refine wpAnyH_take (i := 24) (oi := _) (v := undef) rfl (by kernel_rfl) (by kernel_rfl) (by kernel_rfl) (fun _ _ _ h => h) (Or.inr ⟨by rfl, rfl⟩) (by assumption) ?_
    (try simp only [Act.put, List.setIfInBounds_toArray, List.set_cons_zero, List.set_cons_succ, List.getElem_toArray, List.getElem_cons_succ, List.getElem_cons_zero])
    refine wpAnyH_take (i := 25) (oi := _) (v := undef) rfl (by kernel_rfl) (by kernel_rfl) (by kernel_rfl) (fun _ _ _ h => h) (Or.inr ⟨by rfl, rfl⟩) (by assumption) ?_
    (try simp only [Act.put, List.setIfInBounds_toArray, List.set_cons_zero, List.set_cons_succ, List.getElem_toArray, List.getElem_cons_succ, List.getElem_cons_zero])
    refine wpAnyH_take (i := 26) (oi := _) (v := undef) rfl (by kernel_rfl) (by kernel_rfl) (by kernel_rfl) (fun _ _ _ h => h) (Or.inr ⟨by rfl, rfl⟩) (by assumption) ?_
    (try simp only [Act.put, List.setIfInBounds_toArray, List.set_cons_zero, List.set_cons_succ, List.getElem_toArray, List.getElem_cons_succ, List.getElem_cons_zero])
    refine wpAnyH_take (i := 27) (oi := _) (v := undef) rfl (by kernel_rfl) (by kernel_rfl) (by kernel_rfl) (fun _ _ _ h => h) (Or.inr ⟨by rfl, rfl⟩) (by assumption) ?_
    (try simp only [Act.put, List.setIfInBounds_toArray, List.set_cons_zero, List.set_cons_succ, List.getElem_toArray, List.getElem_cons_succ, List.getElem_cons_zero])
    refine wpAnyH_take (i := 28) (oi := _) (v := ?_) rfl (by kernel_rfl) (by kernel_rfl) (by kernel_rfl) (fun _ _ _ h => h) (Or.inl ⟨by rfl, ?_⟩) (by assumption) ?_
    rotate_left
    · intro w hSw
      (try dsimp only at hSw)
      go_simp
      all_goals (first | done | with_reducible rfl)
    (try simp only [Act.put, List.setIfInBounds_toArray, List.set_cons_zero, List.set_cons_succ, List.getElem_toArray, List.getElem_cons_succ, List.getElem_cons_zero])
    refine wpAnyH_take (i := 29) (oi := _) (v := ?_) rfl (by kernel_rfl) (by kernel_rfl) (by kernel_rfl) (fun _ _ _ h => h) (Or.inl ⟨by rfl, ?_⟩) (by assumption) ?_
    rotate_left
    · intro w hSw
      (try dsimp only at hSw)
      go_simp
      all_goals (first | done | with_reducible rfl)
    (try simp only [Act.put, List.setIfInBounds_toArray, List.set_cons_zero, List.set_cons_succ, List.getElem_toArray, List.getElem_cons_succ, List.getElem_cons_zero])
    refine wpAnyH_done (by kernel_rfl) ?_ _
    have HN := Lib.hid (HS.out.below hHeld.1)
    clear HS hHeld
    have HS := Lib.hid HN.out
    clear HN
    go_upto_region 17 with (fail)
    obtain ⟨p0, p1, p2, p3, -⟩ := box4 (HS.out.g _ (List.Mem.tail _ (List.Mem.tail _ (List.Mem.tail _ (List.Mem.tail _ (List.Mem.tail _ (List.Mem.head _))))))).1
    go_wp2_with fail
    obtain ⟨w4, hw4⟩ : ∃ w4, w4 = wn.alloc (boxS (setV al) adral al.length capal) := ⟨_, rfl⟩
    have g4 : w4.heap[wn.heap.size]? = some (.cells (([⟨setV al, adral, al.length, capal⟩] : List Vc).flatMap Vc.cs).toArray 25 (0, 0)) := by rw [hw4]; exact heap_alloc_new wn _
    have hb4 : Below wn.heap.size wn w4 := by rw [hw4]; exact bel1 _ _
    rw [← hw4]
    clear hw4
    have HN := Lib.hid (HS.out.below hb4)
    have HR4 := Lib.hid (RS.of_row Vc.cs Vc_len [⟨setV al, adral, al.length, capal⟩] g4 1 1 rfl (by omega) (by omega))
    have HL4 := Lib.hid (show al.length ≤ 64 from (right_parts HT.out.fa.r).2.2.2.2)
    have HVS := Lib.hid (show ∀ v ∈ ([⟨setV al, adral, al.length, capal⟩] : List Vc), RZ w4 v.a v.l v.c v.x.ss ∧ I64 v.x.n ∧ v.l ≤ 1000000 from fun v hv => by
      simp only [List.mem_singleton] at hv
      subst hv
      exact ⟨((HS.out.g _ (List.Mem.tail _ (List.Mem.tail _ (List.Mem.tail _ (List.Mem.tail _ (List.Mem.tail _ (List.Mem.head _))))))).2).below hb4, HT.out.fa.n, by have := HL4.out; show al.length ≤ 1000000; omega⟩)
    clear HS g4 hb4 p0 p1 p2 p3
    have HS := Lib.hid HN.out
    clear HN
    with_reducible refine (worthop_any w4 27 (some ⟨wn.heap.size, 0, none⟩) 1 1 [⟨setV al, adral, al.length, capal⟩] HR4.out (by omega) HVS.out HS.out.t HS.out.h).mono ?_
    rintro e w5 ⟨⟨ka, kc, hm⟩, hb5⟩
    rw [size_worth ka kc _ HT.out.fa rfl] at hm
    obtain ⟨v, rfl, hs⟩ := hm
    obtain ⟨a5, l5, c5, rfl, hl5, -⟩ := id hs
    have hl0 : l5 = 0 := hl5
    subst hl0
    have HZ5 := Lib.hid (hs.rz (by omega))
    have HN := Lib.hid (HS.out.below hb5)
    clear hs hl5 hb5
    go_upto_region 18 with (fail)
    obtain ⟨v11, hv11⟩ : ∃ v11, v11 = w5.alloc (boxS (intV (al.length : Int)) a5 0 c5) := ⟨_, rfl⟩
    rw [← hv11]
    have hs' := HN.out.alloc ⟨(intV (al.length : Int)), a5, 0, c5⟩ HZ5.out
    rw [show w5.alloc (boxS (⟨(intV (al.length : Int)), a5, 0, c5⟩ : Vc).x (⟨(intV (al.length : Int)), a5, 0, c5⟩ : Vc).a (⟨(intV (al.length : Int)), a5, 0, c5⟩ : Vc).l (⟨(intV (al.length : Int)), a5, 0, c5⟩ : Vc).c) = v11 from hv11.symm] at hs'
    clear HS HN hv11
    have HS := Lib.hid hs'
    clear hs'
    obtain ⟨c0, c1, c2, c3, -⟩ := box4 (HS.out.g _ (List.Mem.head _)).1
    obtain ⟨p0, p1, p2, p3, -⟩ := box4 (HS.out.g _ (List.Mem.tail _ (List.Mem.tail _ (List.Mem.tail _ (List.Mem.tail _ (List.Mem.tail _ (List.Mem.tail _ (List.Mem.head _)))))))).1
    obtain ⟨o0, o1, o2, o3, -⟩ := box4 (HS.out.g _ (List.Mem.tail _ (List.Mem.head _))).1
    have c1' : v11.cell? ⟨w5.heap.size, 1, none⟩ = some (.int .i64 (al.length : Int)) := c1
    have hl64 : al.length ≤ 64 := HL4.out
    clear c0 c1 c2 c3
    go_wp2_with fail
    with_reducible refine (rightV_ok v11 (setV al) adral al.length capal HT.out.fa (HS.out.g _ (List.Mem.tail _ (List.Mem.tail _ (List.Mem.tail _ (List.Mem.tail _ (List.Mem.tail _ (List.Mem.tail _ (List.Mem.head _)))))))).2.rs).mono ?_
    rintro e w6 ⟨rfl, hb6⟩
    have HN := Lib.hid (HS.out.below hb6)
    clear HS hb6 c1' p0 p1 p2 p3 o0 o1 o2 o3
    have HS := Lib.hid HN.out
    clear HN
    obtain ⟨o0, o1, o2, o3, -⟩ := box4 (HS.out.g _ (List.Mem.tail _ (List.Mem.head _))).1
    go_wp2_with fail
    with_reducible refine (rightV_ok w6 (setV wo) adrwo wo.length capwo HT.out.fo (HS.out.g _ (List.Mem.tail _ (List.Mem.head _))).2.rs).mono ?_
    rintro e w7 ⟨rfl, hb7⟩
    have HN := Lib.hid (HS.out.below hb7)
    clear HS hb7 o0 o1 o2 o3
    have HS := Lib.hid HN.out
    clear HN
    go_wp2_with fail
    with_reducible refine (known_any w7 HS.out.t HS.out.h).mono ?_
    rintro e w8 ⟨rfl, hb8⟩
    go_wp2_with fail
    go_ret
    exact ⟨rfl, HS.out.b.trans (hb8.mono HS.out.b.size)⟩
  · have hne := HT.out.no hin
    have hwo : xs = wo := hne.2.symm
    have HNE := Lib.hid (show wi.length ≠ xs.length by omega)
    subst hwo
    have HIN := Lib.hid (show doubleW 17 (textV t) (setV xs) = .ok ⟨2, 0, ByteArray.empty, []⟩ by rw [double_in, (inSS_not xs t).2 hin]; rfl)
    clear hin hne
    obtain ⟨c0, c1, c2, c3, -⟩ := box4 (HS.out.g _ (List.Mem.head _)).1
    obtain ⟨d0, d1, d2, d3, -⟩ := box4 (HS.out.g _ (List.Mem.tail _ (List.Mem.tail _ (List.Mem.tail _ (List.Mem.tail _ (List.Mem.tail _ (List.Mem.tail _ (List.Mem.head _)))))))).1
    go_wp2_with fail
    with_reducible refine (twoV_in v7 t xs 0 HT.out.ft (HS.out.g _ (List.Mem.head _)).2 adrx xs.length capx HT.out.fx (HS.out.g _ (List.Mem.tail _ (List.Mem.tail _ (List.Mem.tail _ (List.Mem.tail _ (List.Mem.tail _ (List.Mem.tail _ (List.Mem.head _)))))))).2 HIN.out HS.out.t HS.out.h).mono ?_
    rintro e zi ⟨⟨adri, capi, rfl, hz⟩, hb⟩
    have HZi := Lib.hid hz
    have HN := Lib.hid (HS.out.below hb)
    clear hz hb c0 c1 c2 c3 d0 d1 d2 d3
    go_upto_region 13 with (fail)
    obtain ⟨v8, hv8⟩ : ∃ v8, v8 = zi.alloc (boxS ⟨2, 0, ByteArray.empty, []⟩ adri 0 capi) := ⟨_, rfl⟩
    rw [← hv8]
    have hs' := HN.out.alloc ⟨⟨2, 0, ByteArray.empty, []⟩, adri, 0, capi⟩ HZi.out
    rw [show zi.alloc (boxS (⟨⟨2, 0, ByteArray.empty, []⟩, adri, 0, capi⟩ : Vc).x (⟨⟨2, 0, ByteArray.empty, []⟩, adri, 0, capi⟩ : Vc).a (⟨⟨2, 0, ByteArray.empty, []⟩, adri, 0, capi⟩ : Vc).l (⟨⟨2, 0, ByteArray.empty, []⟩, adri, 0, capi⟩ : Vc).c) = v8 from hv8.symm] at hs'
    clear HS HN hv8
    have HS := Lib.hid hs'
    clear hs'
    obtain ⟨c0, c1, c2, c3, -⟩ := box4 (HS.out.g _ (List.Mem.tail _ (List.Mem.tail _ (List.Mem.tail _ (List.Mem.tail _ (List.Mem.tail _ (List.Mem.tail _ (List.Mem.tail _ (List.Mem.head _))))))))).1
    obtain ⟨d0, d1, d2, d3, -⟩ := box4 (HS.out.g _ (List.Mem.tail _ (List.Mem.head _))).1
    go_wp2_with fail
    with_reducible refine (twoV_ok v8 18 (by unfold Two; decide) (setV xs) (textV t) (setV wi) adrx xs.length capx HT.out.fx (HS.out.g _ (List.Mem.tail _ (List.Mem.tail _ (List.Mem.tail _ (List.Mem.tail _ (List.Mem.tail _ (List.Mem.tail _ (List.Mem.tail _ (List.Mem.head _))))))))).2 (show (5 : Int) ≠ 0 by decide) none 0 0 HT.out.ft (HS.out.g _ (List.Mem.tail _ (List.Mem.head _))).2 (show (3 : Int) ≠ 0 by decide) HT.out.with_ (right_parts HT.out.fi.r).2.2.2.2 HS.out.t HS.out.h).mono ?_
    rintro e z8 ⟨⟨adrwi, capwi, rfl, hz⟩, hb⟩
    have HZwi := Lib.hid hz
    have HN := Lib.hid (HS.out.below hb)
    clear hz hb c0 c1 c2 c3 d0 d1 d2 d3
    go_upto_region 14 with (fail)
    obtain ⟨v9, hv9⟩ : ∃ v9, v9 = z8.alloc (boxS (setV wi) adrwi wi.length capwi) := ⟨_, rfl⟩
    rw [← hv9]
    have hs' := HN.out.alloc ⟨(setV wi), adrwi, wi.length, capwi⟩ HZwi.out
    rw [show z8.alloc (boxS (⟨(setV wi), adrwi, wi.length, capwi⟩ : Vc).x (⟨(setV wi), adrwi, wi.length, capwi⟩ : Vc).a (⟨(setV wi), adrwi, wi.length, capwi⟩ : Vc).l (⟨(setV wi), adrwi, wi.length, capwi⟩ : Vc).c) = v9 from hv9.symm] at hs'
    clear HS HN hv9
    have HS := Lib.hid hs'
    clear hs'
    obtain ⟨c0, c1, c2, c3, -⟩ := box4 (HS.out.g _ (List.Mem.head _)).1
    obtain ⟨d0, d1, d2, d3, -⟩ := box4 (HS.out.g _ (List.Mem.tail _ (List.Mem.tail _ (List.Mem.head _)))).1
    go_wp2_with fail
    with_reducible refine (twoV_ok v9 19 (by unfold Two; decide) (setV wi) (textV t) (setV xs) adrwi wi.length capwi HT.out.fi (HS.out.g _ (List.Mem.head _)).2 (show (5 : Int) ≠ 0 by decide) none 0 0 HT.out.ft (HS.out.g _ (List.Mem.tail _ (List.Mem.tail _ (List.Mem.head _)))).2 (show (3 : Int) ≠ 0 by decide) HT.out.out (right_parts HT.out.fo.r).2.2.2.2 HS.out.t HS.out.h).mono ?_
    rintro e z9 ⟨⟨adrwo, capwo, rfl, hz⟩, hb⟩
    have HZwo := Lib.hid hz
    have HN := Lib.hid (HS.out.below hb)
    clear hz hb c0 c1 c2 c3 d0 d1 d2 d3
    go_upto_region 15 with (fail)
    obtain ⟨v10, hv10⟩ : ∃ v10, v10 = z9.alloc (boxS (setV xs) adrwo xs.length capwo) := ⟨_, rfl⟩
    rw [← hv10]
    have hs' := HN.out.alloc ⟨(setV xs), adrwo, xs.length, capwo⟩ HZwo.out
    rw [show z9.alloc (boxS (⟨(setV xs), adrwo, xs.length, capwo⟩ : Vc).x (⟨(setV xs), adrwo, xs.length, capwo⟩ : Vc).a (⟨(setV xs), adrwo, xs.length, capwo⟩ : Vc).l (⟨(setV xs), adrwo, xs.length, capwo⟩ : Vc).c) = v10 from hv10.symm] at hs'
    clear HS HN hv10
    have HS := Lib.hid hs'
    clear hs'
    obtain ⟨i0, i1, i2, i3, -⟩ := box4 (HS.out.g _ (List.Mem.tail _ (List.Mem.tail _ (List.Mem.head _)))).1
    obtain ⟨r0, r1, r2, r3, -⟩ := box4 (HS.out.g _ (List.Mem.tail _ (List.Mem.head _))).1
    obtain ⟨s0, s1, s2, s3, -⟩ := box4 (HS.out.g _ (List.Mem.tail _ (List.Mem.tail _ (List.Mem.tail _ (List.Mem.tail _ (List.Mem.tail _ (List.Mem.tail _ (List.Mem.tail _ (List.Mem.tail _ (List.Mem.tail _ (List.Mem.head _))))))))))).1
    obtain ⟨o0, o1, o2, o3, -⟩ := box4 (HS.out.g _ (List.Mem.head _)).1
    refine wp_region_held_drew (S := (fun w' => Below v10.heap.size v10 w' ∧ w'.cell? ⟨zi.heap.size, 1, none⟩ = some (.int .i64 0) ∧ w'.cell? ⟨z8.heap.size, 0, none⟩ = some (.int .i64 5) ∧ w'.cell? ⟨z8.heap.size, 1, none⟩ = some (.int .i64 0) ∧ w'.cell? ⟨z8.heap.size, 2, none⟩ = some (.string ByteArray.empty) ∧ w'.cell? ⟨z8.heap.size, 3, none⟩ = some (.slice adrwi wi.length capwi) ∧ w'.cell? ⟨z0.heap.size, 0, none⟩ = some (.int .i64 5) ∧ w'.cell? ⟨z0.heap.size, 1, none⟩ = some (.int .i64 0) ∧ w'.cell? ⟨z0.heap.size, 2, none⟩ = some (.string ByteArray.empty) ∧ w'.cell? ⟨z0.heap.size, 3, none⟩ = some (.slice adrx xs.length capx) ∧ w'.cell? ⟨z9.heap.size, 0, none⟩ = some (.int .i64 5) ∧ w'.cell? ⟨z9.heap.size, 1, none⟩ = some (.int .i64 0) ∧ w'.cell? ⟨z9.heap.size, 2, none⟩ = some (.string ByteArray.empty) ∧ w'.cell? ⟨z9.heap.size, 3, none⟩ = some (.slice adrwo xs.length capwo))) (by kernel_rfl) ⟨(Below.refl _ _).drew, i1, r0, r1, r2, r3, s0, s1, s2, s3, o0, o1, o2, o3⟩ (fun hHeld => ?_)
    clear i0 i1 i2 i3 r0 r1 r2 r3 s0 s1 s2 s3 o0 o1 o2 o3
    refine wpAnyH_take (i := 0) (oi := _) (v := ?_) rfl (by kernel_rfl) (by kernel_rfl) (by kernel_rfl) (fun _ _ _ h => h) (Or.inl ⟨by rfl, ?_⟩) (by assumption) ?_
    rotate_left
    · intro w hSw
      (try dsimp only at hSw)
      go_simp
      all_goals (first | done | with_reducible rfl)
    (try simp only [Act.put, List.setIfInBounds_toArray, List.set_cons_zero, List.set_cons_succ, List.getElem_toArray, List.getElem_cons_succ, List.getElem_cons_zero])
    refine wpAnyH_take (i := 1) (oi := _) (v := ?_) rfl (by kernel_rfl) (by kernel_rfl) (by kernel_rfl) (fun _ _ _ h => h) (Or.inl ⟨by rfl, ?_⟩) (by assumption) ?_
    rotate_left
    · intro w hSw
      (try dsimp only at hSw)
      go_simp
      all_goals (first | done | with_reducible rfl)
    (try simp only [Act.put, List.setIfInBounds_toArray, List.set_cons_zero, List.set_cons_succ, List.getElem_toArray, List.getElem_cons_succ, List.getElem_cons_zero])
    refine wpAnyH_take (i := 2) (oi := _) (v := ?_) rfl (by kernel_rfl) (by kernel_rfl) (by kernel_rfl) (fun _ _ _ h => h) (Or.inl ⟨by rfl, ?_⟩) (by assumption) ?_
    rotate_left
    · intro w hSw
      (try dsimp only at hSw)
      go_simp
      all_goals (first | done | with_reducible rfl)
    (try simp only [Act.put, List.setIfInBounds_toArray, List.set_cons_zero, List.set_cons_succ, List.getElem_toArray, List.getElem_cons_succ, List.getElem_cons_zero])
    refine wpAnyH_take (i := 3) (oi := _) (v := ?_) rfl (by kernel_rfl) (by kernel_rfl) (by kernel_rfl) (fun _ _ _ h => h) (Or.inl ⟨by rfl, ?_⟩) (by assumption) ?_
    rotate_left
    · intro w hSw
      (try dsimp only at hSw)
      go_simp
      all_goals (first | done | with_reducible rfl)
    (try simp only [Act.put, List.setIfInBounds_toArray, List.set_cons_zero, List.set_cons_succ, List.getElem_toArray, List.getElem_cons_succ, List.getElem_cons_zero])
    refine wpAnyH_take (i := 4) (oi := _) (v := ?_) rfl (by kernel_rfl) (by kernel_rfl) (by kernel_rfl) (fun _ _ _ h => h) (Or.inl ⟨by rfl, ?_⟩) (by assumption) ?_
    rotate_left
    · intro w hSw
      (try dsimp only at hSw)
      go_simp
      all_goals (first | done | with_reducible rfl)
    (try simp only [Act.put, List.setIfInBounds_toArray, List.set_cons_zero, List.set_cons_succ, List.getElem_toArray, List.getElem_cons_succ, List.getElem_cons_zero])
    refine wpAnyH_take (i := 5) (oi := _) (v := ?_) rfl (by kernel_rfl) (by kernel_rfl) (by kernel_rfl) (fun _ _ _ h => h) (Or.inl ⟨by rfl, ?_⟩) (by assumption) ?_
    rotate_left
    · intro w hSw
      (try dsimp only at hSw)
      go_simp
      all_goals (first | done | with_reducible rfl)
    (try simp only [Act.put, List.setIfInBounds_toArray, List.set_cons_zero, List.set_cons_succ, List.getElem_toArray, List.getElem_cons_succ, List.getElem_cons_zero])
    refine wpAnyH_take (i := 6) (oi := _) (v := ?_) rfl (by kernel_rfl) (by kernel_rfl) (by kernel_rfl) (fun _ _ _ h => h) (Or.inl ⟨by rfl, ?_⟩) (by assumption) ?_
    rotate_left
    · intro w hSw
      (try dsimp only at hSw)
      go_simp
      all_goals (first | done | with_reducible rfl)
    (try simp only [Act.put, List.setIfInBounds_toArray, List.set_cons_zero, List.set_cons_succ, List.getElem_toArray, List.getElem_cons_succ, List.getElem_cons_zero])
    refine wpAnyH_take (i := 7) (oi := _) (v := ?_) rfl (by kernel_rfl) (by kernel_rfl) (by kernel_rfl) (fun _ _ _ h => h) (Or.inl ⟨by rfl, ?_⟩) (by assumption) ?_
    rotate_left
    · intro w hSw
      (try dsimp only at hSw)
      go_simp
      all_goals (first | done | with_reducible rfl)
    (try simp only [Act.put, List.setIfInBounds_toArray, List.set_cons_zero, List.set_cons_succ, List.getElem_toArray, List.getElem_cons_succ, List.getElem_cons_zero])
    refine wpAnyH_take (i := 8) (oi := _) (v := ?_) rfl (by kernel_rfl) (by kernel_rfl) (by kernel_rfl) (fun _ _ _ h => h) (Or.inl ⟨by rfl, ?_⟩) (by assumption) ?_
    rotate_left
    · intro w hSw
      (try dsimp only at hSw)
      go_simp
      all_goals (first | done | with_reducible rfl)
    (try simp only [Act.put, List.setIfInBounds_toArray, List.set_cons_zero, List.set_cons_succ, List.getElem_toArray, List.getElem_cons_succ, List.getElem_cons_zero])
    refine wpAnyH_take (i := 9) (oi := _) (v := ?_) rfl (by kernel_rfl) (by kernel_rfl) (by kernel_rfl) (fun _ _ _ h => h) (Or.inl ⟨by rfl, ?_⟩) (by assumption) ?_
    rotate_left
    · intro w hSw
      (try dsimp only at hSw)
      go_simp
      all_goals (first | done | with_reducible rfl)
    (try simp only [Act.put, List.setIfInBounds_toArray, List.set_cons_zero, List.set_cons_succ, List.getElem_toArray, List.getElem_cons_succ, List.getElem_cons_zero])
    refine wpAnyH_take (i := 10) (oi := _) (v := ?_) rfl (by kernel_rfl) (by kernel_rfl) (by kernel_rfl) (fun _ _ _ h => h) (Or.inl ⟨by rfl, ?_⟩) (by assumption) ?_
    rotate_left
    · intro w hSw
      (try dsimp only at hSw)
      go_simp
      all_goals (first | done | with_reducible rfl)
    (try simp only [Act.put, List.setIfInBounds_toArray, List.set_cons_zero, List.set_cons_succ, List.getElem_toArray, List.getElem_cons_succ, List.getElem_cons_zero])
    refine wpAnyH_take (i := 11) (oi := _) (v := ?_) rfl (by kernel_rfl) (by kernel_rfl) (by kernel_rfl) (fun _ _ _ h => h) (Or.inl ⟨by rfl, ?_⟩) (by assumption) ?_
    rotate_left
    · intro w hSw
      (try dsimp only at hSw)
      go_simp
      all_goals (first | done | with_reducible rfl)
    (try simp only [Act.put, List.setIfInBounds_toArray, List.set_cons_zero, List.set_cons_succ, List.getElem_toArray, List.getElem_cons_succ, List.getElem_cons_zero])
    refine wpAnyH_take (i := 12) (oi := _) (v := ?_) rfl (by kernel_rfl) (by kernel_rfl) (by kernel_rfl) (fun _ _ _ h => h) (Or.inl ⟨by rfl, ?_⟩) (by assumption) ?_
    rotate_left
    · intro w hSw
      (try dsimp only at hSw)
      go_simp
      all_goals (first | done | with_reducible rfl)
    (try simp only [Act.put, List.setIfInBounds_toArray, List.set_cons_zero, List.set_cons_succ, List.getElem_toArray, List.getElem_cons_succ, List.getElem_cons_zero])
    refine wpAnyH_take (i := 13) (oi := _) (v := ?_) rfl (by kernel_rfl) (by kernel_rfl) (by kernel_rfl) (fun _ _ _ h => h) (Or.inl ⟨by rfl, ?_⟩) (by assumption) ?_
    rotate_left
    · intro w hSw
      (try dsimp only at hSw)
      go_simp
      all_goals (first | done | with_reducible rfl)
    (try simp only [Act.put, List.setIfInBounds_toArray, List.set_cons_zero, List.set_cons_succ, List.getElem_toArray, List.getElem_cons_succ, List.getElem_cons_zero])
    refine wpAnyH_take (i := 14) (oi := _) (v := ?_) rfl (by kernel_rfl) (by kernel_rfl) (by kernel_rfl) (fun _ _ _ h => h) (Or.inl ⟨by rfl, ?_⟩) (by assumption) ?_
    rotate_left
    · intro w hSw
      (try dsimp only at hSw)
      go_simp
      all_goals (first | done | with_reducible rfl)
    (try simp only [Act.put, List.setIfInBounds_toArray, List.set_cons_zero, List.set_cons_succ, List.getElem_toArray, List.getElem_cons_succ, List.getElem_cons_zero])
    refine wpAnyH_take (i := 15) (oi := _) (v := ?_) rfl (by kernel_rfl) (by kernel_rfl) (by kernel_rfl) (fun _ _ _ h => h) (Or.inl ⟨by rfl, ?_⟩) (by assumption) ?_
    rotate_left
    · intro w hSw
      (try dsimp only at hSw)
      go_simp
      all_goals (first | done | with_reducible rfl)
    (try simp only [Act.put, List.setIfInBounds_toArray, List.set_cons_zero, List.set_cons_succ, List.getElem_toArray, List.getElem_cons_succ, List.getElem_cons_zero])
    refine wpAnyH_ready (rs := [16]) (by kernel_rfl) (by simp) ?_
    refine AllReadyH.cons (o := _) rfl (fun K hK => ?_) AllReadyH.nil
    go_simp
    refine (sameV_len _ wi xs adrwi wi.length capwi adrx xs.length capx HNE.out).mono ?_
    rintro e wn ⟨rfl, hb⟩
    refine hK.out _ _ ⟨hHeld.1.trans (hb.mono hHeld.1.size), keepb hb hHeld.2.1, keepb hb hHeld.2.2.1, keepb hb hHeld.2.2.2.1, keepb hb hHeld.2.2.2.2.1, keepb hb hHeld.2.2.2.2.2.1, keepb hb hHeld.2.2.2.2.2.2.1, keepb hb hHeld.2.2.2.2.2.2.2.1, keepb hb hHeld.2.2.2.2.2.2.2.2.1, keepb hb hHeld.2.2.2.2.2.2.2.2.2.1, keepb hb hHeld.2.2.2.2.2.2.2.2.2.2.1, keepb hb hHeld.2.2.2.2.2.2.2.2.2.2.2.1, keepb hb hHeld.2.2.2.2.2.2.2.2.2.2.2.2.1, keepb hb hHeld.2.2.2.2.2.2.2.2.2.2.2.2.2⟩ (fun hHeld => ?_)
    clear hK K
    (try simp only [Act.put, List.setIfInBounds_toArray, List.set_cons_zero, List.set_cons_succ, List.getElem_toArray, List.getElem_cons_succ, List.getElem_cons_zero])
    clear hb
    refine wpAnyH_take (i := 17) (oi := _) (v := ?_) rfl (by kernel_rfl) (by kernel_rfl) (by kernel_rfl) (fun _ _ _ h => h) (Or.inl ⟨by rfl, ?_⟩) (by assumption) ?_
    rotate_left
    · intro w hSw
      (try dsimp only at hSw)
      go_simp
      all_goals (first | done | with_reducible rfl)
    (try simp only [Act.put, List.setIfInBounds_toArray, List.set_cons_zero, List.set_cons_succ, List.getElem_toArray, List.getElem_cons_succ, List.getElem_cons_zero])
    refine wpAnyH_take (i := 18) (oi := _) (v := ?_) rfl (by kernel_rfl) (by kernel_rfl) (by kernel_rfl) (fun _ _ _ h => h) (Or.inl ⟨by rfl, ?_⟩) (by assumption) ?_
    rotate_left
    · intro w hSw
      (try dsimp only at hSw)
      go_simp
      all_goals (first | done | with_reducible rfl)
    (try simp only [Act.put, List.setIfInBounds_toArray, List.set_cons_zero, List.set_cons_succ, List.getElem_toArray, List.getElem_cons_succ, List.getElem_cons_zero])
    refine wpAnyH_take (i := 19) (oi := _) (v := ?_) rfl (by kernel_rfl) (by kernel_rfl) (by kernel_rfl) (fun _ _ _ h => h) (Or.inl ⟨by rfl, ?_⟩) (by assumption) ?_
    rotate_left
    · intro w hSw
      (try dsimp only at hSw)
      go_simp
      all_goals (first | done | with_reducible rfl)
    (try simp only [Act.put, List.setIfInBounds_toArray, List.set_cons_zero, List.set_cons_succ, List.getElem_toArray, List.getElem_cons_succ, List.getElem_cons_zero])
    refine wpAnyH_take (i := 20) (oi := _) (v := ?_) rfl (by kernel_rfl) (by kernel_rfl) (by kernel_rfl) (fun _ _ _ h => h) (Or.inl ⟨by rfl, ?_⟩) (by assumption) ?_
    rotate_left
    · intro w hSw
      (try dsimp only at hSw)
      go_simp
      all_goals (first | done | with_reducible rfl)
    (try simp only [Act.put, List.setIfInBounds_toArray, List.set_cons_zero, List.set_cons_succ, List.getElem_toArray, List.getElem_cons_succ, List.getElem_cons_zero])
    refine wpAnyH_take (i := 21) (oi := _) (v := ?_) rfl (by kernel_rfl) (by kernel_rfl) (by kernel_rfl) (fun _ _ _ h => h) (Or.inl ⟨by rfl, ?_⟩) (by assumption) ?_
    rotate_left
    · intro w hSw
      (try dsimp only at hSw)
      go_simp
      all_goals (first | done | with_reducible rfl)
    (try simp only [Act.put, List.setIfInBounds_toArray, List.set_cons_zero, List.set_cons_succ, List.getElem_toArray, List.getElem_cons_succ, List.getElem_cons_zero])
    refine wpAnyH_take (i := 22) (oi := _) (v := ?_) rfl (by kernel_rfl) (by kernel_rfl) (by kernel_rfl) (fun _ _ _ h => h) (Or.inl ⟨by rfl, ?_⟩) (by assumption) ?_
    rotate_left
    · intro w hSw
      (try dsimp only at hSw)
      go_simp
      all_goals (first | done | with_reducible rfl)
    (try simp only [Act.put, List.setIfInBounds_toArray, List.set_cons_zero, List.set_cons_succ, List.getElem_toArray, List.getElem_cons_succ, List.getElem_cons_zero])
    refine wpAnyH_take (i := 23) (oi := _) (v := ?_) rfl (by kernel_rfl) (by kernel_rfl) (by kernel_rfl) (fun _ _ _ h => h) (Or.inl ⟨by rfl, ?_⟩) (by assumption) ?_
    rotate_left
    · intro w hSw
      (try dsimp only at hSw)
      go_simp
      all_goals (first | done | with_reducible rfl)
    (try simp only [Act.put, List.setIfInBounds_toArray, List.set_cons_zero, List.set_cons_succ, List.getElem_toArray, List.getElem_cons_succ, List.getElem_cons_zero])
    refine wpAnyH_take (i := 24) (oi := _) (v := ?_) rfl (by kernel_rfl) (by kernel_rfl) (by kernel_rfl) (fun _ _ _ h => h) (Or.inl ⟨by rfl, ?_⟩) (by assumption) ?_
    rotate_left
    · intro w hSw
      (try dsimp only at hSw)
      go_simp
      all_goals (first | done | with_reducible rfl)
    (try simp only [Act.put, List.setIfInBounds_toArray, List.set_cons_zero, List.set_cons_succ, List.getElem_toArray, List.getElem_cons_succ, List.getElem_cons_zero])
    refine wpAnyH_take (i := 25) (oi := _) (v := ?_) rfl (by kernel_rfl) (by kernel_rfl) (by kernel_rfl) (fun _ _ _ h => h) (Or.inl ⟨by rfl, ?_⟩) (by assumption) ?_
    rotate_left
    · intro w hSw
      (try dsimp only at hSw)
      go_simp
      all_goals (first | done | with_reducible rfl)
    (try simp only [Act.put, List.setIfInBounds_toArray, List.set_cons_zero, List.set_cons_succ, List.getElem_toArray, List.getElem_cons_succ, List.getElem_cons_zero])
    refine wpAnyH_ready (rs := [26]) (by kernel_rfl) (by simp) ?_
    refine AllReadyH.cons (o := _) rfl (fun K hK => ?_) AllReadyH.nil
    go_simp
    refine (sameV_any _ (setV xs) adrwo xs.length capwo ((HS.out.g _ (List.Mem.head _)).2.rs.below hHeld.1) adrx capx ((HS.out.g _ (List.Mem.tail _ (List.Mem.tail _ (List.Mem.tail _ (List.Mem.tail _ (List.Mem.tail _ (List.Mem.tail _ (List.Mem.tail _ (List.Mem.tail _ (List.Mem.tail _ (List.Mem.head _))))))))))).2.rs.below hHeld.1)).mono ?_
    rintro e wn ⟨rfl, hb⟩
    refine hK.out _ _ ⟨hHeld.1.trans (hb.mono hHeld.1.size), keepb hb hHeld.2.1, keepb hb hHeld.2.2.1, keepb hb hHeld.2.2.2.1, keepb hb hHeld.2.2.2.2.1, keepb hb hHeld.2.2.2.2.2.1, keepb hb hHeld.2.2.2.2.2.2.1, keepb hb hHeld.2.2.2.2.2.2.2.1, keepb hb hHeld.2.2.2.2.2.2.2.2.1, keepb hb hHeld.2.2.2.2.2.2.2.2.2.1, keepb hb hHeld.2.2.2.2.2.2.2.2.2.2.1, keepb hb hHeld.2.2.2.2.2.2.2.2.2.2.2.1, keepb hb hHeld.2.2.2.2.2.2.2.2.2.2.2.2.1, keepb hb hHeld.2.2.2.2.2.2.2.2.2.2.2.2.2⟩ (fun hHeld => ?_)
    clear hK K
    (try simp only [Act.put, List.setIfInBounds_toArray, List.set_cons_zero, List.set_cons_succ, List.getElem_toArray, List.getElem_cons_succ, List.getElem_cons_zero])
    clear hb
    refine wpAnyH_take (i := 27) (oi := _) (v := ?_) rfl (by kernel_rfl) (by kernel_rfl) (by kernel_rfl) (fun _ _ _ h => h) (Or.inl ⟨by rfl, ?_⟩) (by assumption) ?_
    rotate_left
    · intro w hSw
      (try dsimp only at hSw)
      go_simp
      all_goals (first | done | with_reducible rfl)
    (try simp only [Act.put, List.setIfInBounds_toArray, List.set_cons_zero, List.set_cons_succ, List.getElem_toArray, List.getElem_cons_succ, List.getElem_cons_zero])
    refine wpAnyH_take (i := 28) (oi := _) (v := ?_) rfl (by kernel_rfl) (by kernel_rfl) (by kernel_rfl) (fun _ _ _ h => h) (Or.inl ⟨by rfl, ?_⟩) (by assumption) ?_
    rotate_left
    · intro w hSw
      (try dsimp only at hSw)
      go_simp
      all_goals (first | done | with_reducible rfl)
    (try simp only [Act.put, List.setIfInBounds_toArray, List.set_cons_zero, List.set_cons_succ, List.getElem_toArray, List.getElem_cons_succ, List.getElem_cons_zero])
    refine wpAnyH_take (i := 29) (oi := _) (v := ?_) rfl (by kernel_rfl) (by kernel_rfl) (by kernel_rfl) (fun _ _ _ h => h) (Or.inl ⟨by rfl, ?_⟩) (by assumption) ?_
    rotate_left
    · intro w hSw
      (try dsimp only at hSw)
      go_simp
      all_goals (first | done | with_reducible rfl)
    (try simp only [Act.put, List.setIfInBounds_toArray, List.set_cons_zero, List.set_cons_succ, List.getElem_toArray, List.getElem_cons_succ, List.getElem_cons_zero])
    refine wpAnyH_done (by kernel_rfl) ?_ _
    have HN := Lib.hid (HS.out.below hHeld.1)
    clear HS hHeld
    have HS := Lib.hid HN.out
    clear HN
    go_upto_region 17 with (fail)
    obtain ⟨p0, p1, p2, p3, -⟩ := box4 (HS.out.g _ (List.Mem.tail _ (List.Mem.tail _ (List.Mem.tail _ (List.Mem.tail _ (List.Mem.tail _ (List.Mem.head _))))))).1
    go_wp2_with fail
    obtain ⟨w4, hw4⟩ : ∃ w4, w4 = wn.alloc (boxS (setV al) adral al.length capal) := ⟨_, rfl⟩
    have g4 : w4.heap[wn.heap.size]? = some (.cells (([⟨setV al, adral, al.length, capal⟩] : List Vc).flatMap Vc.cs).toArray 25 (0, 0)) := by rw [hw4]; exact heap_alloc_new wn _
    have hb4 : Below wn.heap.size wn w4 := by rw [hw4]; exact bel1 _ _
    rw [← hw4]
    clear hw4
    have HN := Lib.hid (HS.out.below hb4)
    have HR4 := Lib.hid (RS.of_row Vc.cs Vc_len [⟨setV al, adral, al.length, capal⟩] g4 1 1 rfl (by omega) (by omega))
    have HL4 := Lib.hid (show al.length ≤ 64 from (right_parts HT.out.fa.r).2.2.2.2)
    have HVS := Lib.hid (show ∀ v ∈ ([⟨setV al, adral, al.length, capal⟩] : List Vc), RZ w4 v.a v.l v.c v.x.ss ∧ I64 v.x.n ∧ v.l ≤ 1000000 from fun v hv => by
      simp only [List.mem_singleton] at hv
      subst hv
      exact ⟨((HS.out.g _ (List.Mem.tail _ (List.Mem.tail _ (List.Mem.tail _ (List.Mem.tail _ (List.Mem.tail _ (List.Mem.head _))))))).2).below hb4, HT.out.fa.n, by have := HL4.out; show al.length ≤ 1000000; omega⟩)
    clear HS g4 hb4 p0 p1 p2 p3
    have HS := Lib.hid HN.out
    clear HN
    with_reducible refine (worthop_any w4 27 (some ⟨wn.heap.size, 0, none⟩) 1 1 [⟨setV al, adral, al.length, capal⟩] HR4.out (by omega) HVS.out HS.out.t HS.out.h).mono ?_
    rintro e w5 ⟨⟨ka, kc, hm⟩, hb5⟩
    rw [size_worth ka kc _ HT.out.fa rfl] at hm
    obtain ⟨v, rfl, hs⟩ := hm
    obtain ⟨a5, l5, c5, rfl, hl5, -⟩ := id hs
    have hl0 : l5 = 0 := hl5
    subst hl0
    have HZ5 := Lib.hid (hs.rz (by omega))
    have HN := Lib.hid (HS.out.below hb5)
    clear hs hl5 hb5
    go_upto_region 18 with (fail)
    obtain ⟨v11, hv11⟩ : ∃ v11, v11 = w5.alloc (boxS (intV (al.length : Int)) a5 0 c5) := ⟨_, rfl⟩
    rw [← hv11]
    have hs' := HN.out.alloc ⟨(intV (al.length : Int)), a5, 0, c5⟩ HZ5.out
    rw [show w5.alloc (boxS (⟨(intV (al.length : Int)), a5, 0, c5⟩ : Vc).x (⟨(intV (al.length : Int)), a5, 0, c5⟩ : Vc).a (⟨(intV (al.length : Int)), a5, 0, c5⟩ : Vc).l (⟨(intV (al.length : Int)), a5, 0, c5⟩ : Vc).c) = v11 from hv11.symm] at hs'
    clear HS HN hv11
    have HS := Lib.hid hs'
    clear hs'
    obtain ⟨c0, c1, c2, c3, -⟩ := box4 (HS.out.g _ (List.Mem.head _)).1
    obtain ⟨p0, p1, p2, p3, -⟩ := box4 (HS.out.g _ (List.Mem.tail _ (List.Mem.tail _ (List.Mem.tail _ (List.Mem.tail _ (List.Mem.tail _ (List.Mem.tail _ (List.Mem.head _)))))))).1
    obtain ⟨o0, o1, o2, o3, -⟩ := box4 (HS.out.g _ (List.Mem.tail _ (List.Mem.head _))).1
    have c1' : v11.cell? ⟨w5.heap.size, 1, none⟩ = some (.int .i64 (al.length : Int)) := c1
    have hl64 : al.length ≤ 64 := HL4.out
    clear c0 c1 c2 c3
    go_wp2_with fail
    with_reducible refine (rightV_ok v11 (setV al) adral al.length capal HT.out.fa (HS.out.g _ (List.Mem.tail _ (List.Mem.tail _ (List.Mem.tail _ (List.Mem.tail _ (List.Mem.tail _ (List.Mem.tail _ (List.Mem.head _)))))))).2.rs).mono ?_
    rintro e w6 ⟨rfl, hb6⟩
    have HN := Lib.hid (HS.out.below hb6)
    clear HS hb6 c1' p0 p1 p2 p3 o0 o1 o2 o3
    have HS := Lib.hid HN.out
    clear HN
    obtain ⟨o0, o1, o2, o3, -⟩ := box4 (HS.out.g _ (List.Mem.tail _ (List.Mem.head _))).1
    go_wp2_with fail
    with_reducible refine (rightV_ok w6 (setV xs) adrwo xs.length capwo HT.out.fo (HS.out.g _ (List.Mem.tail _ (List.Mem.head _))).2.rs).mono ?_
    rintro e w7 ⟨rfl, hb7⟩
    have HN := Lib.hid (HS.out.below hb7)
    clear HS hb7 o0 o1 o2 o3
    have HS := Lib.hid HN.out
    clear HN
    go_wp2_with fail
    with_reducible refine (known_any w7 HS.out.t HS.out.h).mono ?_
    rintro e w8 ⟨rfl, hb8⟩
    go_wp2_with fail
    go_ret
    exact ⟨rfl, HS.out.b.trans (hb8.mono HS.out.b.size)⟩
set_option maxRecDepth 100000 in
set_option maxHeartbeats 4000000 in
theorem evalsets_walk (w : World) (a : Option Addr) (n c : Nat) (la : List ByteArray) (hla : RZ w a n c la) (hsa : ∀ m ∈ la, m.size ≤ maxLen) (b : Option Addr) (m d : Nat) (lb : List ByteArray) (hlb : RZ w b m d lb) (hsb : ∀ m ∈ lb, m.size ≤ maxLen) (t : ByteArray) (ht : t.size ≤ maxLen) (hT : ResTab w 1) (h1 : 1 < w.heap.size) :
    Calls Tryd.prog 8 #[.slice a n c, .slice b m d, .string t] w fun e w' => e = .returned (.bool true) ∧ Below w.heap.size w w' := by
  have HLA := Lib.hid hla
  have HLB := Lib.hid hlb
  have HSA := Lib.hid hsa
  have HSB := Lib.hid hsb
  have HS := Lib.hid (show Sx w w [] from ⟨Below.refl _ _, hT, h1, fun p hp => by cases hp⟩)
  unfold maxLen at ht
  clear hla hlb hsa hsb hT h1
  by_cases hbig : 1024 < t.size
  · have hI : (1024 : Int) < (t.size : Int) := by omega
    go_enter Tryd.func8, Tryd.ntmps8
    go_upto_region 3 with (fail)
    refine sets3 w w a n c la HLA.out.rs HSA.out b m d lb HLB.out.rs HSB.out (t.extract 0 1024) (by simp; omega) HS.out _ _ _ _ _ _ _ _ _ _ _ _ _ _ _ _ _ _ _ _ _ _ _ _ _ _ _ _ _ _ _ _ _ _ _ _ _ _ _ _ _ _ _ _ _ _ _ _ _ _ _ _ _ _ _ _ _ _ _ _ _ _ _ _ _ _ _ _ _ _ _ _ _ _ _ _ _ _ _ _ _ _ _ _ _ _ _ _ _ _ _ _ _ _ _ _ _ _ _ _ _ _ _ _ _ _ _ _ _ _ _ _ _ _ _ _ _ _ _ _ _ _ _ _ _ _ _ _ _ _ _ _ _ _ _ _ _ _ _ _ _ _ _ _ _ _ _ _ _ _ _ _ _ _ _ _ _ _ _ _ _ _ _ _ _ _ _ _ _ _ _ _ _ _ _ _ _ _ _ _ _ _ _ _ _ ?_
    assumption
  · have hI : ¬ (1024 : Int) < (t.size : Int) := by omega
    go_enter Tryd.func8, Tryd.ntmps8
    go_upto_region 3 with (fail)
    refine sets3 w w a n c la HLA.out.rs HSA.out b m d lb HLB.out.rs HSB.out t (by omega) HS.out _ _ _ _ _ _ _ _ _ _ _ _ _ _ _ _ _ _ _ _ _ _ _ _ _ _ _ _ _ _ _ _ _ _ _ _ _ _ _ _ _ _ _ _ _ _ _ _ _ _ _ _ _ _ _ _ _ _ _ _ _ _ _ _ _ _ _ _ _ _ _ _ _ _ _ _ _ _ _ _ _ _ _ _ _ _ _ _ _ _ _ _ _ _ _ _ _ _ _ _ _ _ _ _ _ _ _ _ _ _ _ _ _ _ _ _ _ _ _ _ _ _ _ _ _ _ _ _ _ _ _ _ _ _ _ _ _ _ _ _ _ _ _ _ _ _ _ _ _ _ _ _ _ _ _ _ _ _ _ _ _ _ _ _ _ _ _ _ _ _ _ _ _ _ _ _ _ _ _ _ _ _ _ _ _ ?_
    assumption
end Go.Proofs.YtcnckjlmldnblaaDoor
