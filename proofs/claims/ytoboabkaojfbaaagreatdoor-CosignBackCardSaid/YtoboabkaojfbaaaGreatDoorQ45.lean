import Derived.Test.YtoboabkaojfbaaaGreatDoorQ42
import Derived.Test.YtoboabkaojfbaaaGreatDoorQ40
import Derived.Test.YtoboabkaojfbaaaGreatDoorQ39
import Derived.Test.YtoboabkaojfbaaaGreatDoorQ44
namespace Go.Proofs.YtoboabkaojfbaaaGreatDoor
open Go Go.RowKit
set_option maxRecDepth 100000
set_option maxHeartbeats 8000000
set_option linter.unusedVariables false
set_option linter.unusedSimpArgs false
/-! cosign.Faces: its last part -/

noncomputable def fa0 : Code := Tryz.f14.body.getD .skip
def FsRet (w : World) (r : Fc × Nat) (e : Ending) (w' : World) : Prop := ∃ sA sB wA wB : S3, e = .returned (.tuple #[.agg (fcA r.1 sA sB wA wB), .int .i64 ((r.2 : Nat) : Int)]) ∧ FcOwn w' w.heap.size r.1 sA sB wA wB ∧ Below w.heap.size w w'
theorem fs_no {w w' : World} {r : Fc × Nat} {n : Nat} (h : r = (zFc, n)) (hb : Below w.heap.size w w') {Z : Array Value} (hZ : Z = (FB zHd nilS zHd nilS 0 0 zDg zDg nilS nilS).toArray) {v : Int} (hv : v = (n : Int)) : FsRet w r (.returned (.tuple #[.agg Z, .int .i64 v])) w' := by
  refine ⟨⟨none, 0, 0⟩, ⟨none, 0, 0⟩, ⟨none, 0, 0⟩, ⟨none, 0, 0⟩, ?_, by rw [h]; exact zFc_own _ _, hb⟩
  rw [h, hZ, hv]; rfl
structure FxI (w0 x : World) (g10 g18 : Nat) (F : Fc) (sA sB wA wB : S3) : Prop where
  hb : Below w0.heap.size w0 x
  b10 : x.heap[g10]? = some o35
  b18 : x.heap[g18]? = some (.cells (fcA F sA sB wA wB) 35 (0, 0))
  own : FcOwn x w0.heap.size F sA sB wA wB
  ne : g10 ≠ g18
  l10 : w0.heap.size ≤ g10
  l18 : w0.heap.size ≤ g18
section
variable {w0 x x' : World} {g10 g18 : Nat} {F F' : Fc} {sA sB wA wB sA' sB' wA' wB' : S3}
theorem FxI.below (h : FxI w0 x g10 g18 F sA sB wA wB) (hb : Below x.heap.size x x') : FxI w0 x' g10 g18 F sA sB wA wB :=
  ⟨h.hb.trans (hb.mono h.hb.size), blk_up h.b10 hb, blk_up h.b18 hb, h.own.below hb, h.ne, h.l10, h.l18⟩
theorem FxI.set (h : FxI w0 x g10 g18 F sA sB wA wB) (hg : x.grownBy x' (some g18)) (h5 : x'.heap[g18]? = some (.cells (fcA F' sA' sB' wA' wB') 35 (0, 0))) (ho : FcOwn x' w0.heap.size F' sA' sB' wA' wB') : FxI w0 x' g10 g18 F' sA' sB' wA' wB' :=
  ⟨h.hb.grown hg h.hb.size (fun q hq => by rw [← Option.some.inj hq]; exact h.l18), blk_keep hg h.b10 h.ne, h5, ho, h.ne, h.l10, h.l18⟩
end
section
variable {w0 x : World} {g10 g18 : Nat} {X Y : Nt} {fm nu : Int} {la lb : Dg} {va vb : List Dg} {sA sB wA wB : S3}
theorem FxI.setN (h : FxI w0 x g10 g18 ⟨X, Y, fm, nu, la, lb, va, vb⟩ sA sB wA wB) (z : Int) : FxI w0 (x.setCell ⟨g18, 199, none⟩ (.int .i64 z)) g10 g18 ⟨X, Y, fm, z, la, lb, va, vb⟩ sA sB wA wB := by
  have ho := h.own.kept h.b18 (by decide) (by decide) (set_g x g18 199 (.int .i64 z))
  exact h.set (set_g _ _ _ _) (FB.s_nu h.b18 z) ⟨ho.a, ho.b, ho.wa, ho.wb⟩
theorem FxI.setP (h : FxI w0 x g10 g18 ⟨X, Y, fm, nu, la, lb, va, vb⟩ sA sB wA wB) (z : Dg) (E : Array Value) (hE : E.toList = dgE z) : FxI w0 (x.setCells g18 200 E.toList) g10 g18 ⟨X, Y, fm, nu, z, lb, va, vb⟩ sA sB wA wB := by
  rw [hE]
  have ho := h.own.kept h.b18 (by decide) (by decide) (setCells_grown g18 (dgE z) 200 x)
  exact h.set (setCells_grown _ _ _ _) (FB.s_la h.b18 z) ⟨ho.a, ho.b, ho.wa, ho.wb⟩
theorem FxI.setQ (h : FxI w0 x g10 g18 ⟨X, Y, fm, nu, la, lb, va, vb⟩ sA sB wA wB) (z : Dg) (E : Array Value) (hE : E.toList = dgE z) : FxI w0 (x.setCells g18 232 E.toList) g10 g18 ⟨X, Y, fm, nu, la, z, va, vb⟩ sA sB wA wB := by
  rw [hE]
  have ho := h.own.kept h.b18 (by decide) (by decide) (setCells_grown g18 (dgE z) 232 x)
  exact h.set (setCells_grown _ _ _ _) (FB.s_lb h.b18 z) ⟨ho.a, ho.b, ho.wa, ho.wb⟩
theorem FxI.setU (h : FxI w0 x g10 g18 ⟨X, Y, fm, nu, la, lb, va, vb⟩ sA sB wA wB) (t : S3) (l : List Dg) (hl : x.ownsRow w0.heap.size 23 32 t.v t.n (l.flatMap dgE)) : FxI w0 (x.setCell ⟨g18, 264, none⟩ t.v) g10 g18 ⟨X, Y, fm, nu, la, lb, l, vb⟩ sA sB t wB := by
  have ho := h.own.kept h.b18 (by decide) (by decide) (set_g x g18 264 t.v)
  exact h.set (set_g _ _ _ _) (FB.s_wA h.b18 t.v) ⟨ho.a, ho.b, hl.kept (set_g x g18 264 t.v) (.inr (own_ne hl h.b18 (by decide))), ho.wb⟩
theorem FxI.setV (h : FxI w0 x g10 g18 ⟨X, Y, fm, nu, la, lb, va, vb⟩ sA sB wA wB) (t : S3) (l : List Dg) (hl : x.ownsRow w0.heap.size 23 32 t.v t.n (l.flatMap dgE)) : FxI w0 (x.setCell ⟨g18, 265, none⟩ t.v) g10 g18 ⟨X, Y, fm, nu, la, lb, va, l⟩ sA sB wA t := by
  have ho := h.own.kept h.b18 (by decide) (by decide) (set_g x g18 265 t.v)
  exact h.set (set_g _ _ _ _) (FB.s_wB h.b18 t.v) ⟨ho.a, ho.b, ho.wa, hl.kept (set_g x g18 265 t.v) (.inr (own_ne hl h.b18 (by decide)))⟩
end

theorem fa_end (w0 w : World) (wd : Int) (r : Fc × Nat) (g10 g18 : Nat) (F : Fc) (sA sB wA wB : S3) (hI : FxI w0 w g10 g18 F sA sB wA wB) (hr : r = (F, 0)) (u1 u2 u3 u4 u5 u6 u7 u8 u9 u11 u12 u13 u14 u15 u16 u17 u19 u20 u21 u22 u23 u24 u25 u26 u27 u28 u29 u30 u31 u32 u33 u34 u35 u36 u37 u38 u39 u40 u41 u42 u43 u44 u45 u46 u47 u48 u49 u50 u51 u52 u53 u54 u55 u56 u57 u58 u59 u60 u61 u62 u63 u64 u65 u66 u67 u68 u69 u70 u71 u72 u73 u74 u75 u76 u77 u78 u79 u80 u81 u82 u83 u84 u85 u86 u87 u88 u89 u90 u91 u92 u93 u94 u95 u96 u97 u98 u99 u100 u101 u102 u103 u104 u105 u106 u107 u108 u109 u110 u111 u112 u113 u114 u115 u116 u117 u118 u119 u120 u121 u122 u123 u124 u125 u126 : Value) :
    Code.wp Tryz.prog (dropSeq 10 fa0) (bodyPost Tryz.prog Tryz.f14 (FsRet w0 r)) ⟨#[.int .i64 wd, u1, u2, u3, u4, u5, u6, u7, u8, u9, .pointer (some ⟨g10, 0, none⟩), u11, u12, u13, u14, u15, u16, u17, .pointer (some ⟨g18, 0, none⟩), u19, u20, u21, u22, u23, u24, u25, u26, u27, u28, u29, u30, u31, u32, u33, u34, u35, u36, u37, u38, u39, u40, u41, u42, u43, u44, u45, u46, u47, u48, u49, u50, u51, u52, u53, u54, u55, u56, u57, u58, u59, u60, u61, u62, u63, u64, u65, u66, u67, u68, u69, u70, u71, u72, u73, u74, u75, u76, u77, u78, u79, u80, u81, u82, u83, u84, u85, u86, u87, u88, u89, u90, u91, u92, u93, u94, u95, u96, u97, u98, u99, u100, u101, u102, u103, u104, u105, u106, u107, u108, u109, u110, u111, u112, u113, u114, u115, u116, u117, u118, u119, u120, u121, u122, u123, u124, u125, u126], []⟩ w := by
  obtain ⟨A, hA⟩ : ∃ A, A = fcA F sA sB wA wB := ⟨_, rfl⟩
  have HA := Lib.hid (show A = fcA F sA sB wA wB ∧ A.size = 266 ∧ A.all (·.oneCell') = true by rw [hA]; exact ⟨rfl, fcA_size _ _ _ _ _, fcA_one _ _ _ _ _⟩)
  have HI := Lib.hid hI
  have HQ := Lib.hid (show w.heap[g18]? = some (.cells A 35 (0, 0)) by rw [hA]; exact hI.b18)
  have HFIN := Lib.hid (df_fin (w0 := w0) A HA.out.2.1 hI.b10 hI.hb hI.l10)
  have HR := Lib.hid hr
  clear hA hI hr
  conv => arg 2; whnf
  go_wp2_with (first
    | (refine L_load_arr rfl 35 (.tmp 18) (by rfl) g18 0 (by rfl) A _ (row_range HQ.out) Tryz.underlying35 rfl (by rw [HA.out.2.1]; exact info35) ?_)
    | (refine wpList_store_mid rfl 35 (.tmp 10) (.tmp 126) (by rfl) g10 0 A (by rfl) (by rfl) (by rw [HA.out.2.1]; exact (df_there HI.out.b10)) (by rw [HA.out.2.1]; exact info35) HA.out.2.2 ?_))
  exact bodyPost_ret (v := .tuple #[.agg A, .int .i64 0]) (results_row_tmp (p := 10) (u := 11) (ty := 35) rfl _ _ g10 35 A (0, 0) _ rfl HFIN.out.1 Tryz.underlying35 rfl (by rw [HA.out.2.1]; exact info35)) rfl ⟨sA, sB, wA, wB, by rw [HR.out, HA.out.1]; rfl, by rw [HR.out]; exact HI.out.own.kept HI.out.b10 (by decide) (by decide) (setCells_grown _ _ _ _), HFIN.out.2⟩
theorem facesIn_yes {wd : Int} {X Y : Nt} {L : Lv} (h3 : formOf X.head Y.head = 3) (h : (formedP ⟨X, Y, 3, L.number, L.a, L.b, L.wayA, L.wayB⟩ && leadsP wd ⟨X, Y, 3, L.number, L.a, L.b, L.wayA, L.wayB⟩) = true) : facesIn wd X Y L = (⟨X, Y, 3, L.number, L.a, L.b, L.wayA, L.wayB⟩, 0) := by
  unfold facesIn; rw [if_pos h3]
  show (if _ then _ else _) = _
  rw [if_pos h]
theorem facesIn_no {wd : Int} {X Y : Nt} {L : Lv} (h3 : formOf X.head Y.head = 3) (h : (formedP ⟨X, Y, 3, L.number, L.a, L.b, L.wayA, L.wayB⟩ && leadsP wd ⟨X, Y, 3, L.number, L.a, L.b, L.wayA, L.wayB⟩) = false) : facesIn wd X Y L = (zFc, 170) := by
  unfold facesIn; rw [if_pos h3]
  show (if _ then _ else _) = _
  rw [if_neg (by rw [h]; decide)]
theorem fa_tail (w0 w : World) (wd : Int) (h0 : -9223372036854775808 ≤ wd) (h1 : wd ≤ 9223372036854775807) (X Y : Nt) (L : Lv) (aA aB : Option Addr) (nA nB cA cB : Nat) (hL : LvAt w0 L ⟨aA, nA, cA⟩ ⟨aB, nB, cB⟩) (hn : nA * 32 ≤ 140737488355328 ∧ nB * 32 ≤ 140737488355328) (ht : Tabs w0) (g9 g10 g18 : Nat) (sA sB : S3)
    (hI : FxI w0 w g10 g18 ⟨X, Y, formOf X.head Y.head, 0, zD, zD, [], []⟩ sA sB ⟨none, 0, 0⟩ ⟨none, 0, 0⟩) (h9 : w.heap[g9]? = some (.cells (lvA L ⟨aA, nA, cA⟩ ⟨aB, nB, cB⟩) 31 (0, 0))) (hne : g9 ≠ g18) (hS : X.signs.length ≤ 1000 ∧ Y.signs.length ≤ 1000) (u1 u2 u3 u4 u5 u6 u7 u8 u11 u12 u13 u14 u15 u16 u17 u19 u20 u21 u22 u23 u24 u25 u26 u27 u28 u29 u30 u31 u32 u33 u34 u35 u36 u37 u38 u39 u40 u41 u42 u43 u44 u45 u46 u47 u48 u49 u50 u51 u52 u53 u54 u55 u56 u57 u58 u59 u60 u61 u62 u63 u64 u65 u66 u67 u68 u69 u70 u71 u72 u73 u74 u75 u76 u77 u78 u79 u80 u81 u82 u83 u84 u85 u86 u87 u88 u89 u90 u91 u92 u93 u94 u95 u96 u97 u98 u99 u100 u101 u102 u103 u104 u105 u106 u107 u108 u109 u110 u111 u112 u113 u114 u115 u116 u117 u118 u119 u120 u121 u122 u123 u124 u125 u126 : Value) :
    Code.wp Tryz.prog (dropSeq 9 fa0) (bodyPost Tryz.prog Tryz.f14 (FsRet w0 (facesIn wd X Y L))) ⟨#[.int .i64 wd, u1, u2, u3, u4, u5, u6, u7, u8, .pointer (some ⟨g9, 0, none⟩), .pointer (some ⟨g10, 0, none⟩), u11, u12, u13, u14, u15, u16, u17, .pointer (some ⟨g18, 0, none⟩), u19, u20, u21, u22, u23, u24, u25, u26, u27, u28, u29, u30, u31, u32, u33, u34, u35, u36, u37, u38, u39, u40, u41, u42, u43, u44, u45, u46, u47, u48, u49, u50, u51, u52, u53, u54, u55, u56, u57, u58, u59, u60, u61, u62, u63, u64, u65, u66, u67, u68, u69, u70, u71, u72, u73, u74, u75, u76, u77, u78, u79, u80, u81, u82, u83, u84, u85, u86, u87, u88, u89, u90, u91, u92, u93, u94, u95, u96, u97, u98, u99, u100, u101, u102, u103, u104, u105, u106, u107, u108, u109, u110, u111, u112, u113, u114, u115, u116, u117, u118, u119, u120, u121, u122, u123, u124, u125, u126], []⟩ w := by
  refine wp_two_k (c := dropSeq 9 fa0) ⟨_, _, rfl⟩ fun K hK => ?_
  have HK := Lib.hid (fun (a : Act) (x : World) (h : Code.wp Tryz.prog (dropSeq 10 fa0) (bodyPost Tryz.prog Tryz.f14 (FsRet w0 (facesIn wd X Y L))) a x) => hK a x (by rw [dropSeq_succ]; exact h))
  clear hK
  obtain ⟨fm, hfm⟩ : ∃ x, x = formOf X.head Y.head := ⟨_, rfl⟩
  have k198 : w.cell? ⟨g18, 198, none⟩ = some (.int .i64 fm) := by rw [hfm]; exact FB.c_fm hI.b18
  have HFM := Lib.hid hfm
  have HI := Lib.hid hI
  by_cases c3 : fm = 3
  · subst c3
    rw [← HFM.out] at hI
    obtain ⟨LC, hLC⟩ : ∃ A, A = lvA L ⟨aA, nA, cA⟩ ⟨aB, nB, cB⟩ := ⟨_, rfl⟩
    obtain ⟨DA, hDA⟩ : ∃ A, A = dgA L.a.1 := ⟨_, rfl⟩
    obtain ⟨DB, hDB⟩ : ∃ A, A = dgA L.b.1 := ⟨_, rfl⟩
    have HDA := Lib.hid (show DA.size = 32 ∧ DA.all (·.oneCell') = true ∧ DA.toList = dgE L.a by rw [hDA]; exact ⟨by rw [dgA_size, L.a.2], dgA_all _, rfl⟩)
    have HDB := Lib.hid (show DB.size = 32 ∧ DB.all (·.oneCell') = true ∧ DB.toList = dgE L.b by rw [hDB]; exact ⟨by rw [dgA_size, L.b.2], dgA_all _, rfl⟩)
    obtain ⟨nu, hnu⟩ : ∃ x, x = L.number := ⟨_, rfl⟩
    have HLV := Lib.hid (fun (x : World) (h : x.heap[g9]? = some (.cells LC 31 (0, 0))) => show x.heap[g9]? = some (.cells LC 31 (0, 0)) ∧ x.cell? ⟨g9, 0, none⟩ = some (.int .i64 nu) ∧ x.rangeAt g9 1 DA.toList ∧ x.rangeAt g9 33 DB.toList ∧ x.cell? ⟨g9, 65, none⟩ = some (.slice aA nA cA) ∧ x.cell? ⟨g9, 66, none⟩ = some (.slice aB nB cB) by
      refine ⟨h, ?_⟩
      rw [hLC] at h
      exact ⟨by rw [hnu]; exact LB.c_nu h, by rw [HDA.out.2.2]; exact LB.r_la h, by rw [HDB.out.2.2]; exact LB.r_lb h, LB.c_wA h, LB.c_wB h⟩)
    have HCL := Lib.hid (fun (x : World) (hx : Below w0.heap.size w0 x) => show Calls Tryz.prog 60 #[.slice aA nA cA] x (fun e w' => ∃ a n c, e = .returned (.slice a n c) ∧ w'.ownsRow w0.heap.size 23 32 (.slice a n c) n (L.wayA.flatMap dgE) ∧ Below x.heap.size x w') by
      refine (clone_dg x aA nA cA L.wayA (hL.wa.below hx) hn.1).mono ?_
      rintro e w' ⟨⟨a, n, c⟩, h1, h2, -, h3⟩
      exact ⟨a, n, c, h1, owns_mono h2 hx.size, h3⟩)
    have HCM := Lib.hid (fun (x : World) (hx : Below w0.heap.size w0 x) => show Calls Tryz.prog 60 #[.slice aB nB cB] x (fun e w' => ∃ a n c, e = .returned (.slice a n c) ∧ w'.ownsRow w0.heap.size 23 32 (.slice a n c) n (L.wayB.flatMap dgE) ∧ Below x.heap.size x w') by
      refine (clone_dg x aB nB cB L.wayB (hL.wb.below hx) hn.2).mono ?_
      rintro e w' ⟨⟨a, n, c⟩, h1, h2, -, h3⟩
      exact ⟨a, n, c, h1, owns_mono h2 hx.size, h3⟩)
    have HF3 := Lib.hid (show ∀ b : Bool, (formedP ⟨X, Y, 3, nu, L.a, L.b, L.wayA, L.wayB⟩ && leadsP wd ⟨X, Y, 3, nu, L.a, L.b, L.wayA, L.wayB⟩) = b → facesIn wd X Y L = if b then (⟨X, Y, 3, nu, L.a, L.b, L.wayA, L.wayB⟩, 0) else (zFc, 170) by
      intro b hb
      rw [hnu] at hb ⊢
      cases b with
      | true => exact facesIn_yes HFM.out.symm hb
      | false => exact facesIn_no HFM.out.symm hb)
    have H9 := Lib.hid (show w.heap[g9]? = some (.cells LC 31 (0, 0)) by rw [hLC]; exact h9)
    have HNE := Lib.hid hne; have HT := Lib.hid ht; have HS := Lib.hid hS; have HWD := Lib.hid (And.intro h0 h1); have HL := Lib.hid hL
    have HI1 := Lib.hid (hI.below (show Below w.heap.size w w.drew from (Below.refl _ _).drew))
    have H91 := Lib.hid (blk_up H9.out (show Below w.heap.size w w.drew from (Below.refl _ _).drew))
    obtain ⟨Z, hZ⟩ : ∃ Z, Z = (FB zHd nilS zHd nilS 0 0 zDg zDg nilS nilS).toArray := ⟨_, rfl⟩
    have HZ := Lib.hid hZ
    have HZS := Lib.hid (show Z.size = 266 ∧ Z.all (·.oneCell') = true by rw [hZ]; exact ⟨by rw [List.size_toArray, FB_len], FB_one _ _ _ _ _ _ _ _ _ _ rfl rfl rfl rfl⟩)
    have HBZ := Lib.hid (fun (ρ : Operand → Value) (o : Oper) (ho : o.op = .build 35 #[]) (w : World) => show (execOp ρ o).run Tryz.prog w = .ok (.value (.agg Z)) w by rw [hZ]; exact exec_build35 ho w)
    clear hZ
    clear hLC hDA hDB hnu h9 hne ht hS h0 h1 hL hn hI HI
    conv => arg 2; whnf
    go_upto_region 16 with (fail)
    clear k198
    refine wp_region_held_drew (S := fun x : World => x.heap[g9]? = some (.cells LC 31 (0, 0)) ∧ x.cell? ⟨g9, 0, none⟩ = some (.int .i64 nu) ∧ x.rangeAt g9 1 DA.toList ∧ x.rangeAt g9 33 DB.toList ∧ x.cell? ⟨g9, 65, none⟩ = some (.slice aA nA cA) ∧ x.cell? ⟨g9, 66, none⟩ = some (.slice aB nB cB)) (by kernel_rfl) (HLV.out _ H91.out) (fun hHeld => ?_)
    generalize w.drew = w1 at *
    apply wpT 0
    apply wpT 1
    apply wpT 2
    apply wpL 3 (.agg DA)
    · exact fun w hSw => exec_load rfl (load23r hSw.2.2.1 HDA.out.1)
    apply wpT 4
    apply wpL 5 (.agg DB)
    · exact fun w hSw => exec_load rfl (load23r hSw.2.2.2.1 HDB.out.1)
    apply wpT 6
    apply wpR 7
    intro K hK
    have k199 := FB.c_nu HI1.out.b18
    have f199 := frozen_of_row w1 g18 199 _ _ HI1.out.b18
    go_simp
    have HI2 := Lib.hid (HI1.out.setN nu)
    have H92 := Lib.hid (blk_keep (set_g w1 g18 199 (.int .i64 nu)) H91.out HNE.out)
    clear k199 f199
    generalize w1.setCell ⟨g18, 199, none⟩ (.int .i64 nu) = w2 at *
    apply bk hK
    · exact HLV.out _ H92.out
    intro hHeld
    clear hK K
    apply wpT 8
    apply wpR 9
    intro K hK
    refine S_store_mid rfl 23 (.tmp 106) (.tmp 102) (by rfl) g18 200 DA (by rfl) (by rfl) (by rw [HDA.out.1]; exact FB.there HI2.out.b18 200 32 (by decide)) (by rw [HDA.out.1]; exact info38) HDA.out.2.1 ?_
    have HI3 := Lib.hid (HI2.out.setP L.a DA HDA.out.2.2)
    have H93 := Lib.hid (blk_keep (setCells_grown g18 DA.toList 200 w2) H92.out HNE.out)
    generalize w2.setCells g18 200 DA.toList = w3 at *
    apply bk hK
    · exact HLV.out _ H93.out
    intro hHeld
    clear hK K
    apply wpT 10
    apply wpR 11
    intro K hK
    refine S_store_mid rfl 23 (.tmp 107) (.tmp 104) (by rfl) g18 232 DB (by rfl) (by rfl) (by rw [HDB.out.1]; exact FB.there HI3.out.b18 232 32 (by decide)) (by rw [HDB.out.1]; exact info38) HDB.out.2.1 ?_
    have HI4 := Lib.hid (HI3.out.setQ L.b DB HDB.out.2.2)
    have H94 := Lib.hid (blk_keep (setCells_grown g18 DB.toList 232 w3) H93.out HNE.out)
    generalize w3.setCells g18 232 DB.toList = w4 at *
    apply bk hK
    · exact HLV.out _ H94.out
    intro hHeld
    clear hK K
    refine wpAnyH_done (by kernel_rfl) ?_ _
    clear HI1 HI2 HI3 H91 H92 H93
    go_upto_region 17 with (fail)
    have HI5 := Lib.hid (HI4.out.below (show Below w4.heap.size w4 w4.drew from (Below.refl _ _).drew))
    have H95 := Lib.hid (blk_up H94.out (show Below w4.heap.size w4 w4.drew from (Below.refl _ _).drew))
    refine wp_region_held_drew (S := fun x : World => x.heap[g9]? = some (.cells LC 31 (0, 0)) ∧ x.cell? ⟨g9, 0, none⟩ = some (.int .i64 nu) ∧ x.rangeAt g9 1 DA.toList ∧ x.rangeAt g9 33 DB.toList ∧ x.cell? ⟨g9, 65, none⟩ = some (.slice aA nA cA) ∧ x.cell? ⟨g9, 66, none⟩ = some (.slice aB nB cB)) (by kernel_rfl) (HLV.out _ H95.out) (fun hHeld => ?_)
    generalize w4.drew = w5 at *
    apply wpT 0
    apply wpT 1
    apply wpT 3
    apply wpT 4
    apply wpR 2
    intro K hK
    go_simp
    refine (HCL.out _ HI5.out.hb).mono ?_
    rintro e w6 ⟨pa, pn, pc, rfl, ho, hb⟩
    have HI6 := Lib.hid (HI5.out.below hb); have H96 := Lib.hid (blk_up H95.out hb); have HO6 := Lib.hid ho
    clear ho hb
    apply bk hK
    · exact HLV.out _ H96.out
    intro hHeld
    clear hK K
    apply wpT 6
    apply wpR 5
    intro K hK
    go_simp
    refine (HCM.out _ HI6.out.hb).mono ?_
    rintro e w7 ⟨qa, qn, qc, rfl, ho, hb⟩
    have HI7 := Lib.hid (HI6.out.below hb); have H97 := Lib.hid (blk_up H96.out hb); have HO7 := Lib.hid ho; have HO6 := Lib.hid (own_below HO6.out hb)
    clear ho hb
    apply bk hK
    · exact HLV.out _ H97.out
    intro hHeld
    clear hK K
    apply wpR 7
    intro K hK
    have k264 := FB.c_wA HI7.out.b18
    have f264 := frozen_of_row w7 g18 264 _ _ HI7.out.b18
    go_simp
    have HI8 := Lib.hid (show FxI w0 (w7.setCell ⟨g18, 264, none⟩ (.slice pa pn pc)) g10 g18 _ sA sB _ _ from HI7.out.setU ⟨pa, pn, pc⟩ _ HO6.out)
    have HO8 := Lib.hid (HO7.out.kept (set_g w7 g18 264 (.slice pa pn pc)) (.inr (own_ne HO7.out HI7.out.b18 (by decide))))
    have H98 := Lib.hid (blk_keep (set_g w7 g18 264 (.slice pa pn pc)) H97.out HNE.out)
    clear k264 f264
    generalize w7.setCell ⟨g18, 264, none⟩ (.slice pa pn pc) = w8 at *
    apply bk hK
    · exact HLV.out _ H98.out
    intro hHeld
    clear hK K
    apply wpT 8
    apply wpR 9
    intro K hK
    have k265 := FB.c_wB HI8.out.b18
    have f265 := frozen_of_row w8 g18 265 _ _ HI8.out.b18
    go_simp
    have HI9 := Lib.hid (show FxI w0 (w8.setCell ⟨g18, 265, none⟩ (.slice qa qn qc)) g10 g18 ⟨X, Y, 3, nu, L.a, L.b, L.wayA, L.wayB⟩ sA sB ⟨pa, pn, pc⟩ ⟨qa, qn, qc⟩ from HI8.out.setV ⟨qa, qn, qc⟩ _ HO8.out)
    have H99 := Lib.hid (blk_keep (set_g w8 g18 265 (.slice qa qn qc)) H98.out HNE.out)
    clear k265 f265
    generalize w8.setCell ⟨g18, 265, none⟩ (.slice qa qn qc) = w9 at *
    apply bk hK
    · exact HLV.out _ H99.out
    intro hHeld
    clear hK K
    refine wpAnyH_done (by kernel_rfl) ?_ _
    clear HI4 HI5 HI6 HI7 HI8 H94 H95 H96 H97 H98 HO6 HO7 HO8
    obtain ⟨F, hF⟩ : ∃ F : Fc, F = ⟨X, Y, 3, nu, L.a, L.b, L.wayA, L.wayB⟩ := ⟨_, rfl⟩
    rw [← hF] at HI9 HF3
    obtain ⟨A, hA⟩ : ∃ A, A = fcA F sA sB ⟨pa, pn, pc⟩ ⟨qa, qn, qc⟩ := ⟨_, rfl⟩
    have HA := Lib.hid (show A = fcA F sA sB ⟨pa, pn, pc⟩ ⟨qa, qn, qc⟩ ∧ A.size = 266 from ⟨hA, by rw [hA]; exact fcA_size _ _ _ _ _⟩)
    have HQ9 := Lib.hid (show w9.heap[g18]? = some (.cells A 35 (0, 0)) by rw [hA]; exact HI9.out.b18)
    have HAT := Lib.hid (fun (x : World) (hx : Below w9.heap.size w9 x) => show FcAt x F sA sB ⟨pa, pn, pc⟩ ⟨qa, qn, qc⟩ from by
      have ho := HI9.out.own.below hx
      obtain ⟨ha, hb, hc, hd⟩ := ho
      have e1 := own_n (by decide) sgE_len ha
      have e2 := own_n (by decide) sgE_len hb
      have e3 := own_n (by decide) dgE_len hc
      have e4 := own_n (by decide) dgE_len hd
      have q1 : F.a = X := by rw [hF]
      have q2 : F.b = Y := by rw [hF]
      have q3 : F.wayA = L.wayA := by rw [hF]
      have q4 : F.wayB = L.wayB := by rw [hF]
      have m1 := HL.out.wa.1; have m2 := HL.out.wb.1
      have m3 := HL.out.wa.2.2.1; have m4 := HL.out.wb.2.2.1
      have m5 := HS.out
      rw [q1] at e1; rw [q2] at e2; rw [q3] at e3; rw [q4] at e4
      exact ⟨RS.of_owns ha (by decide) sgE_len (by omega), RS.of_owns hb (by decide) sgE_len (by omega), RS.of_owns hc (by decide) dgE_len (by omega), RS.of_owns hd (by decide) dgE_len (by omega)⟩)
    have HFF := Lib.hid (show F.form = 3 by rw [hF])
    have HC61 := Lib.hid (show Calls Tryz.prog 61 #[.agg A] w9 (fun e w' => e = .returned (.bool (formedP F)) ∧ Below w9.heap.size w9 w') by rw [hA]; exact formed_any w9 F sA sB _ _ (HAT.out _ (Below.refl _ _)) (HT.out.below HI9.out.hb))
    have HC62 := Lib.hid (fun (x : World) (hx : Below w9.heap.size w9 x) (hfm : formedP F = true) => show Calls Tryz.prog 62 #[.int .i64 wd, .agg A] x (fun e w' => e = .returned (.bool (leadsP wd F)) ∧ Below x.heap.size x w') by rw [hA]; exact leads_any x wd HWD.out.1 HWD.out.2 F sA sB _ _ (HAT.out x hx) hfm HFF.out (HT.out.below (HI9.out.hb.trans (hx.mono HI9.out.hb.size))))
    clear hF hA
    cases hfp : formedP F with
    | false =>
      have HV := Lib.hid (show facesIn wd X Y L = (zFc, 170) from HF3.out false (by rw [hfp]; rfl))
      rw [hfp] at HC61
      clear hfp
      go_wp2_with (first
    | (refine L_load_arr rfl 35 (.tmp 18) (by rfl) g18 0 (by rfl) A _ (row_range HQ9.out) Tryz.underlying35 rfl (by rw [HA.out.2]; exact info35) ?_)
    | (go_at_call 61; (with_reducible refine HC61.out.mono ?_); rintro e wA ⟨rfl, hb⟩; have HIA := Lib.hid (HI9.out.below hb); clear hb)
    | (refine L_value rfl (HBZ.out _ _ (by rfl) _) ?_)
    | (refine wpList_store_mid rfl 35 (.tmp 10) (.tmp 125) (by rfl) g10 0 Z (by rfl) (by rfl) (by rw [HZS.out.1]; exact df_there HIA.out.b10) (by rw [HZS.out.1]; exact info35) HZS.out.2 ?_))
      exact bodyPost_ret (v := .tuple #[.agg Z, .int .i64 170]) (results_row_tmp (p := 10) (u := 11) (ty := 35) rfl _ _ g10 35 Z (0, 0) _ rfl (df_fin (w0 := w0) Z HZS.out.1 HIA.out.b10 HIA.out.hb HIA.out.l10).1 Tryz.underlying35 rfl (by rw [HZS.out.1]; exact info35)) rfl (fs_no HV.out (df_fin (w0 := w0) Z HZS.out.1 HIA.out.b10 HIA.out.hb HIA.out.l10).2 HZ.out rfl)
    | true =>
      have HFP := Lib.hid hfp
      rw [hfp] at HC61
      clear hfp
      cases hlv : leadsP wd F with
      | false =>
        have HV := Lib.hid (show facesIn wd X Y L = (zFc, 170) from HF3.out false (by rw [HFP.out, hlv]; rfl))
        have HCX := Lib.hid (fun (x : World) (hx : Below w9.heap.size w9 x) => show Calls Tryz.prog 62 #[.int .i64 wd, .agg A] x (fun e w' => e = .returned (.bool false) ∧ Below x.heap.size x w') by have := HC62.out x hx HFP.out; rwa [hlv] at this)
        clear hlv
        go_wp2_with (first
    | (refine L_load_arr rfl 35 (.tmp 18) (by rfl) g18 0 (by rfl) A _ (row_range HQ9.out) Tryz.underlying35 rfl (by rw [HA.out.2]; exact info35) ?_)
    | (go_at_call 61; (with_reducible refine HC61.out.mono ?_); rintro e wA ⟨rfl, hb⟩; have HIA := Lib.hid (HI9.out.below hb); have HXA := Lib.hid hb; have HRA := Lib.hid (row_range (blk_up HQ9.out hb)); clear hb)
    | (refine L_load_arrW 35 (.tmp 18) (by rfl) g18 0 (by rfl) A _ HRA.out Tryz.underlying35 rfl (by rw [HA.out.2]; exact info35) (by rfl) ?_)
    | (go_at_call 62; (with_reducible refine (HCX.out _ HXA.out).mono ?_); rintro e wB ⟨rfl, hb⟩; have HIB := Lib.hid (HIA.out.below hb); clear hb)
    | (refine L_value rfl (HBZ.out _ _ (by rfl) _) ?_)
    | (refine wpList_store_mid rfl 35 (.tmp 10) (.tmp 125) (by rfl) g10 0 Z (by rfl) (by rfl) (by rw [HZS.out.1]; exact df_there HIB.out.b10) (by rw [HZS.out.1]; exact info35) HZS.out.2 ?_))
        exact bodyPost_ret (v := .tuple #[.agg Z, .int .i64 170]) (results_row_tmp (p := 10) (u := 11) (ty := 35) rfl _ _ g10 35 Z (0, 0) _ rfl (df_fin (w0 := w0) Z HZS.out.1 HIB.out.b10 HIB.out.hb HIB.out.l10).1 Tryz.underlying35 rfl (by rw [HZS.out.1]; exact info35)) rfl (fs_no HV.out (df_fin (w0 := w0) Z HZS.out.1 HIB.out.b10 HIB.out.hb HIB.out.l10).2 HZ.out rfl)
      | true =>
        have HV := Lib.hid (show facesIn wd X Y L = (F, 0) from HF3.out true (by rw [HFP.out, hlv]; rfl))
        have HCX := Lib.hid (fun (x : World) (hx : Below w9.heap.size w9 x) => show Calls Tryz.prog 62 #[.int .i64 wd, .agg A] x (fun e w' => e = .returned (.bool true) ∧ Below x.heap.size x w') by have := HC62.out x hx HFP.out; rwa [hlv] at this)
        clear hlv
        go_wp2_with (first
    | (refine L_load_arr rfl 35 (.tmp 18) (by rfl) g18 0 (by rfl) A _ (row_range HQ9.out) Tryz.underlying35 rfl (by rw [HA.out.2]; exact info35) ?_)
    | (go_at_call 61; (with_reducible refine HC61.out.mono ?_); rintro e wA ⟨rfl, hb⟩; have HIA := Lib.hid (HI9.out.below hb); have HXA := Lib.hid hb; have HRA := Lib.hid (row_range (blk_up HQ9.out hb)); clear hb)
    | (refine L_load_arrW 35 (.tmp 18) (by rfl) g18 0 (by rfl) A _ HRA.out Tryz.underlying35 rfl (by rw [HA.out.2]; exact info35) (by rfl) ?_)
    | (go_at_call 62; (with_reducible refine (HCX.out _ HXA.out).mono ?_); rintro e wB ⟨rfl, hb⟩; have HIB := Lib.hid (HIA.out.below hb); clear hb))
        change K _ _
        refine HK.out _ _ ?_
        exact fa_end w0 wB wd _ g10 g18 F sA sB _ _ HIB.out HV.out _ _ _ _ _ _ _ _ _ _ _ _ _ _ _ _ _ _ _ _ _ _ _ _ _ _ _ _ _ _ _ _ _ _ _ _ _ _ _ _ _ _ _ _ _ _ _ _ _ _ _ _ _ _ _ _ _ _ _ _ _ _ _ _ _ _ _ _ _ _ _ _ _ _ _ _ _ _ _ _ _ _ _ _ _ _ _ _ _ _ _ _ _ _ _ _ _ _ _ _ _ _ _ _ _ _ _ _ _ _ _ _ _ _ _ _ _ _ _ _ _ _ _ _
  · have d3 : (fm == 3) = false := by rw [beq_eq_false_iff_ne]; exact c3
    have d3n : (fm != 3) = true := by rw [bne_iff_ne]; exact c3
    have HC3 := Lib.hid (show facesIn wd X Y L = (⟨X, Y, formOf X.head Y.head, 0, zD, zD, [], []⟩, 0) from facesIn_low wd X Y L (by rw [← HFM.out]; exact c3))
    clear hfm hI h9 hne ht hS h0 h1 hL hn
    conv => arg 2; whnf
    go_wp2_with fail
    change K _ _
    refine HK.out _ _ ?_
    exact fa_end w0 w wd _ g10 g18 _ sA sB _ _ HI.out HC3.out _ _ _ _ _ _ _ _ _ _ _ _ _ _ _ _ _ _ _ _ _ _ _ _ _ _ _ _ _ _ _ _ _ _ _ _ _ _ _ _ _ _ _ _ _ _ _ _ _ _ _ _ _ _ _ _ _ _ _ _ _ _ _ _ _ _ _ _ _ _ _ _ _ _ _ _ _ _ _ _ _ _ _ _ _ _ _ _ _ _ _ _ _ _ _ _ _ _ _ _ _ _ _ _ _ _ _ _ _ _ _ _ _ _ _ _ _ _ _ _ _ _ _ _
end Go.Proofs.YtoboabkaojfbaaaGreatDoor
