import Derived.Test.YtoboabkaojfbaaaGreatDoorQ39
import Derived.Test.YtoboabkaojfbaaaGreatDoorQ43
import Derived.Test.YtoboabkaojfbaaaGreatDoorQ31
namespace Go.Proofs.YtoboabkaojfbaaaGreatDoor
open Go Go.RowKit
set_option maxRecDepth 100000
set_option maxHeartbeats 8000000
set_option linter.unusedVariables false
set_option linter.unusedSimpArgs false
/-! cosign.DecodeFaces: the middle part. -/
theorem info23 : (Tryz.prog.info? 23).map (·.size) = some 32 := by kernel_rfl
theorem rDgs_le (n : Nat) (s : Rs) : (rDgs n s).1.length ≤ n := by
  unfold rDgs
  split
  · simp
  · split
    · simp
    · rw [rDgN_len]; exact Nat.le_refl _
theorem digests_v (w : World) (B gr : Nat) (s : Rs) (h : RdG w B gr s) (hB0 : B ≤ w.heap.size) (m : Nat) (hm : m ≤ 1000) :
    Calls Tryz.prog 105 #[.pointer (some ⟨gr, 0, none⟩), .int .i64 (m : Int)] w (fun e w' => ∃ p k d, e = .returned (.slice p k d) ∧ w'.ownsRow w.heap.size 23 32 (.slice p k d) k ((rDgs m s).1.flatMap dgE) ∧ RdG w' B gr (rDgs m s).2 ∧ w.grownBy w' (some gr)) := by
  refine (digests_g w B gr s h hB0 m hm).mono ?_
  rintro e w' ⟨⟨p, k, d⟩, h1, h2, h3, h4⟩
  exact ⟨p, k, d, h1, h2, h3, h4⟩
structure DfI (w0 x : World) (B gr g2 g5 : Nat) (F : Fc) (sA sB wA wB : S3) (s : Rs) : Prop where
  hb : Below w0.heap.size w0 x
  rd : RdG x B gr s
  b2 : x.heap[g2]? = some o35
  b5 : x.heap[g5]? = some (.cells (fcA F sA sB wA wB) 35 (0, 0))
  own : FcOwn x w0.heap.size F sA sB wA wB
  n2 : g2 ≠ gr
  n5 : g5 ≠ gr
  n25 : g2 ≠ g5
  l2 : w0.heap.size ≤ g2
  l5 : w0.heap.size ≤ g5
  lr : w0.heap.size ≤ gr
  B5 : B ≤ g5
  Bs : B ≤ x.heap.size
section
variable {w0 x x' : World} {B gr g2 g5 : Nat} {F F' : Fc} {sA sB wA wB sA' sB' wA' wB' : S3} {s s' : Rs}
theorem DfI.below (h : DfI w0 x B gr g2 g5 F sA sB wA wB s) (hb : Below x.heap.size x x') : DfI w0 x' B gr g2 g5 F sA sB wA wB s :=
  ⟨h.hb.trans (hb.mono h.hb.size), h.rd.below hb, blk_up h.b2 hb, blk_up h.b5 hb, h.own.below hb, h.n2, h.n5, h.n25, h.l2, h.l5, h.lr, h.B5, Nat.le_trans h.Bs hb.size⟩
theorem DfI.reader (h : DfI w0 x B gr g2 g5 F sA sB wA wB s) (hg : x.grownBy x' (some gr)) (hr : RdG x' B gr s') : DfI w0 x' B gr g2 g5 F sA sB wA wB s' := by
  obtain ⟨a, n, c, l, p, h1, -⟩ := h.rd
  exact ⟨h.hb.grown hg h.hb.size (fun q hq => by rw [← Option.some.inj hq]; exact h.lr), hr, blk_keep hg h.b2 h.n2, blk_keep hg h.b5 h.n5, h.own.kept h1 (by decide) (by decide) hg, h.n2, h.n5, h.n25, h.l2, h.l5, h.lr, h.B5, Nat.le_trans h.Bs hg.size⟩
theorem DfI.set (h : DfI w0 x B gr g2 g5 F sA sB wA wB s) (hg : x.grownBy x' (some g5)) (h5 : x'.heap[g5]? = some (.cells (fcA F' sA' sB' wA' wB') 35 (0, 0))) (ho : FcOwn x' w0.heap.size F' sA' sB' wA' wB') : DfI w0 x' B gr g2 g5 F' sA' sB' wA' wB' s :=
  ⟨h.hb.grown hg h.hb.size (fun q hq => by rw [← Option.some.inj hq]; exact h.l5), h.rd.far hg h.B5 (fun e => h.n5 e.symm), blk_keep hg h.b2 h.n25, h5, ho, h.n2, h.n5, h.n25, h.l2, h.l5, h.lr, h.B5, Nat.le_trans h.Bs hg.size⟩
end
section
variable {w0 x : World} {B gr g2 g5 : Nat} {X Y : Nt} {fm nu : Int} {la lb : Dg} {va vb : List Dg} {sA sB wA wB : S3} {s : Rs}
theorem set_g (x : World) (g o : Nat) (v : Value) : x.grownBy (x.setCell ⟨g, o, none⟩ v) (some g) := grown_set (grown_refl x (some g)) 0 o v
theorem DfI.setN (h : DfI w0 x B gr g2 g5 ⟨X, Y, fm, nu, la, lb, va, vb⟩ sA sB wA wB s) (z : Int) : DfI w0 (x.setCell ⟨g5, 199, none⟩ (.int .i64 z)) B gr g2 g5 ⟨X, Y, fm, z, la, lb, va, vb⟩ sA sB wA wB s := by
  have ho := h.own.kept h.b5 (by decide) (by decide) (set_g x g5 199 (.int .i64 z))
  exact h.set (set_g _ _ _ _) (FB.s_nu h.b5 z) ⟨ho.a, ho.b, ho.wa, ho.wb⟩
theorem DfI.setP (h : DfI w0 x B gr g2 g5 ⟨X, Y, fm, nu, la, lb, va, vb⟩ sA sB wA wB s) (z : Dg) (E : Array Value) (hE : E.toList = dgE z) : DfI w0 (x.setCells g5 200 E.toList) B gr g2 g5 ⟨X, Y, fm, nu, z, lb, va, vb⟩ sA sB wA wB s := by
  rw [hE]
  have ho := h.own.kept h.b5 (by decide) (by decide) (setCells_grown g5 (dgE z) 200 x)
  exact h.set (setCells_grown _ _ _ _) (FB.s_la h.b5 z) ⟨ho.a, ho.b, ho.wa, ho.wb⟩
theorem DfI.setQ (h : DfI w0 x B gr g2 g5 ⟨X, Y, fm, nu, la, lb, va, vb⟩ sA sB wA wB s) (z : Dg) (E : Array Value) (hE : E.toList = dgE z) : DfI w0 (x.setCells g5 232 E.toList) B gr g2 g5 ⟨X, Y, fm, nu, la, z, va, vb⟩ sA sB wA wB s := by
  rw [hE]
  have ho := h.own.kept h.b5 (by decide) (by decide) (setCells_grown g5 (dgE z) 232 x)
  exact h.set (setCells_grown _ _ _ _) (FB.s_lb h.b5 z) ⟨ho.a, ho.b, ho.wa, ho.wb⟩
theorem DfI.setU (h : DfI w0 x B gr g2 g5 ⟨X, Y, fm, nu, la, lb, va, vb⟩ sA sB wA wB s) (t : S3) (l : List Dg) (hl : x.ownsRow w0.heap.size 23 32 t.v t.n (l.flatMap dgE)) : DfI w0 (x.setCell ⟨g5, 264, none⟩ t.v) B gr g2 g5 ⟨X, Y, fm, nu, la, lb, l, vb⟩ sA sB t wB s := by
  have ho := h.own.kept h.b5 (by decide) (by decide) (set_g x g5 264 t.v)
  exact h.set (set_g _ _ _ _) (FB.s_wA h.b5 t.v) ⟨ho.a, ho.b, hl.kept (set_g x g5 264 t.v) (.inr (own_ne hl h.b5 (by decide))), ho.wb⟩
theorem DfI.setV (h : DfI w0 x B gr g2 g5 ⟨X, Y, fm, nu, la, lb, va, vb⟩ sA sB wA wB s) (t : S3) (l : List Dg) (hl : x.ownsRow w0.heap.size 23 32 t.v t.n (l.flatMap dgE)) : DfI w0 (x.setCell ⟨g5, 265, none⟩ t.v) B gr g2 g5 ⟨X, Y, fm, nu, la, lb, va, l⟩ sA sB wA t s := by
  have ho := h.own.kept h.b5 (by decide) (by decide) (set_g x g5 265 t.v)
  exact h.set (set_g _ _ _ _) (FB.s_wB h.b5 t.v) ⟨ho.a, ho.b, ho.wa, hl.kept (set_g x g5 265 t.v) (.inr (own_ne hl h.b5 (by decide)))⟩
theorem DfI.setA (h : DfI w0 x B gr g2 g5 ⟨X, Y, fm, nu, la, lb, va, vb⟩ sA sB wA wB s) (Z : Nt) (t : S3) (E : Array Value) (hE : E = ntA Z.head t.v) (hl : x.ownsRow w0.heap.size 63 64 t.v t.n (Z.signs.flatMap sgE)) : DfI w0 (x.setCells g5 0 E.toList) B gr g2 g5 ⟨Z, Y, fm, nu, la, lb, va, vb⟩ t sB wA wB s := by
  have ho := h.own.kept h.b5 (by decide) (by decide) (setCells_grown g5 E.toList 0 x)
  exact h.set (setCells_grown _ _ _ _) (by rw [hE]; exact FB.s_noteA h.b5 Z.head t.v) ⟨hl.kept (setCells_grown g5 E.toList 0 x) (.inr (own_ne hl h.b5 (by decide))), ho.b, ho.wa, ho.wb⟩
theorem DfI.setB (h : DfI w0 x B gr g2 g5 ⟨X, Y, fm, nu, la, lb, va, vb⟩ sA sB wA wB s) (Z : Nt) (t : S3) (E : Array Value) (hE : E = ntA Z.head t.v) (hl : x.ownsRow w0.heap.size 63 64 t.v t.n (Z.signs.flatMap sgE)) : DfI w0 (x.setCells g5 99 E.toList) B gr g2 g5 ⟨X, Z, fm, nu, la, lb, va, vb⟩ sA t wA wB s := by
  have ho := h.own.kept h.b5 (by decide) (by decide) (setCells_grown g5 E.toList 99 x)
  exact h.set (setCells_grown _ _ _ _) (by rw [hE]; exact FB.s_noteB h.b5 Z.head t.v) ⟨ho.a, hl.kept (setCells_grown g5 E.toList 99 x) (.inr (own_ne hl h.b5 (by decide))), ho.wa, ho.wb⟩
end
def restF (X Y : Nt) (m : Nat) (s : Rs) : Fc × Rs :=
  if m = 3 then
    (⟨X, Y, 3, toInt64 (rTake 8 s).1, (rDg (rTake 8 s).2).1, (rDg (rDg (rTake 8 s).2).2).1, (rDgs (stepsP X.head.size (toInt64 (rTake 8 s).1)) (rDg (rDg (rTake 8 s).2).2).2).1, (rDgs (stepsP Y.head.size (toInt64 (rTake 8 s).1)) (rDgs (stepsP X.head.size (toInt64 (rTake 8 s).1)) (rDg (rDg (rTake 8 s).2).2).2).2).1⟩, (rDgs (stepsP Y.head.size (toInt64 (rTake 8 s).1)) (rDgs (stepsP X.head.size (toInt64 (rTake 8 s).1)) (rDg (rDg (rTake 8 s).2).2).2).2).2)
  else (⟨X, Y, (m : Int), 0, zD, zD, [], []⟩, s)
theorem wrap_to (q : Nat) (h : q < 18446744073709551616) : IntKind.i64.wrap (q : Int) = toInt64 q := by
  have e : (q : Int) % 18446744073709551616 = (q : Int) := Int.emod_eq_of_lt (by omega) (by omega)
  unfold toInt64
  by_cases c : q < 9223372036854775808
  · rw [if_pos c]; exact IntWalk.i64_in _ (by omega)
  · rw [if_neg c]
    show (if (true && decide ((q : Int) % 18446744073709551616 ≥ 9223372036854775808)) = true then (q : Int) % 18446744073709551616 - 18446744073709551616 else (q : Int) % 18446744073709551616) = _
    rw [e, if_pos (by simp; omega)]
theorem df_mid (w0 w : World) (raw : List UInt8) (a : Option Addr) (n c : Nat) (hr : R8 w0 a n c raw) (hl : ¬ 9000 < raw.length) (ht : Tabs w0) (X Y : Nt) (m : Nat) (sA sB : S3) (hL : X.signs.length ≤ 1000 ∧ Y.signs.length ≤ 1000) (B gr g2 g5 : Nat) (s : Rs) (hI : DfI w0 w B gr g2 g5 ⟨X, Y, (m : Int), 0, zD, zD, [], []⟩ sA sB ⟨none, 0, 0⟩ ⟨none, 0, 0⟩ s) (hv : decF raw = if rDone (restF X Y m s).2 ≠ 0 then none else if formedP (restF X Y m s).1 && decide (encF (restF X Y m s).1 = raw) then some (restF X Y m s).1 else none) (u1 u6 u7 u8 u9 u10 u11 u12 u13 u14 u15 u16 u17 u18 u19 u20 u21 u22 u23 u24 u25 u26 u27 u28 u29 u30 u31 u32 u33 u34 u35 u36 u37 u38 u39 u40 u41 u42 u43 u44 u45 u46 u47 u48 u49 u50 u51 u52 u53 u54 u55 u56 u57 u58 u59 u60 u61 u62 u63 u64 u65 u66 u67 u68 u69 u70 u71 u72 u73 u74 u75 u76 u77 u78 u79 u80 u81 u82 u83 u84 u85 u86 u87 u88 u89 u90 u91 u92 u93 u94 u95 u96 u97 : Value) :
    Code.wp Tryz.prog (dropSeq 9 df0) (bodyPost Tryz.prog Tryz.f39 (DfRet w0 raw)) ⟨#[.slice a n c, u1, .pointer (some ⟨g2, 0, none⟩), .int .i64 0, .pointer (some ⟨gr, 0, none⟩), .pointer (some ⟨g5, 0, none⟩), u6, u7, u8, u9, u10, u11, u12, u13, u14, u15, u16, u17, u18, u19, u20, u21, u22, u23, u24, u25, u26, u27, u28, u29, u30, u31, u32, u33, u34, u35, u36, u37, u38, u39, u40, u41, u42, u43, u44, u45, u46, u47, u48, u49, u50, u51, u52, u53, u54, u55, u56, u57, u58, u59, u60, u61, u62, u63, u64, u65, u66, u67, u68, u69, u70, u71, u72, u73, u74, u75, u76, u77, u78, u79, u80, u81, u82, u83, u84, u85, u86, u87, u88, u89, u90, u91, u92, u93, u94, u95, u96, u97], []⟩ w := by
  have HI := Lib.hid hI; have HR := Lib.hid hr; have HT := Lib.hid ht; have HL := Lib.hid hL; have HLEN := Lib.hid hl
  refine wp_two_k (c := dropSeq 9 df0) ⟨_, _, rfl⟩ fun K hK => ?_
  have HKQ := Lib.hid (fun (a : Act) (x : World) (h : Code.wp Tryz.prog (dropSeq 10 df0) (bodyPost Tryz.prog Tryz.f39 (DfRet w0 raw)) a x) => hK a x (by rw [dropSeq_succ]; exact h))
  have k2 : w.cell? ⟨g5, 198, none⟩ = some (.int .i64 (m : Int)) := FB.c_fm hI.b5
  clear hK hr ht hL hl hI
  by_cases c3 : m = 3
  · subst c3
    have k2 : w.cell? ⟨g5, 198, none⟩ = some (.int .i64 3) := k2
    have HVF := Lib.hid hv
    clear hv
    obtain ⟨s1, hs1⟩ : ∃ t, t = rTake 8 s := ⟨_, rfl⟩
    obtain ⟨q, hq⟩ : ∃ t, t = s1.1 := ⟨_, rfl⟩
    obtain ⟨z, hz⟩ : ∃ t, t = toInt64 q := ⟨_, rfl⟩
    have hwz : IntKind.i64.wrap (q : Int) = z := by rw [hz]; exact wrap_to q (by rw [hq, hs1]; exact rTake_lt 8 s 18446744073709551616 (by decide))
    have HT1 := Lib.hid (show Calls Tryz.prog 103 #[.pointer (some ⟨gr, 0, none⟩)] w (fun e w' => e = .returned (.int .u64 (q : Int)) ∧ RdG w' B gr s1.2 ∧ w.grownBy w' (some gr)) by rw [hq, hs1]; exact take64_any w B gr s HI.out.rd)
    have HS1 := Lib.hid (show s1 = rTake 8 s ∧ z = toInt64 (rTake 8 s).1 from ⟨hs1, by rw [hz, hq, hs1]⟩)
    clear hs1 hq hz
    conv => arg 2; whnf
    go_upto_region 13 with (go_at_call 103; (with_reducible refine HT1.out.mono ?_); rintro e w1 ⟨rfl, hrd, hg⟩; have HI1 := Lib.hid (HI.out.reader hg hrd); have k1 : w1.cell? ⟨g5, 199, none⟩ = some (.int .i64 0) := (FB.c_nu HI1.out.b5); have f1 := frozen_of_row w1 g5 199 _ _ HI1.out.b5; clear hrd hg)
    have HI2 := Lib.hid (HI1.out.setN z)
    clear k1 f1 k2 hwz HT1
    generalize w1.setCell ⟨g5, 199, none⟩ (.int .i64 z) = w2 at *
    obtain ⟨x1, hx1⟩ : ∃ t, t = rDg s1.2 := ⟨_, rfl⟩
    obtain ⟨x2, hx2⟩ : ∃ t, t = rDg x1.2 := ⟨_, rfl⟩
    obtain ⟨E1, hE1⟩ : ∃ E, E = dgA x1.1.1 := ⟨_, rfl⟩
    obtain ⟨E2, hE2⟩ : ∃ E, E = dgA x2.1.1 := ⟨_, rfl⟩
    have HES := Lib.hid (show E1.size = 32 ∧ E2.size = 32 ∧ E1.all (·.oneCell') = true ∧ E2.all (·.oneCell') = true ∧ E1.toList = dgE x1.1 ∧ E2.toList = dgE x2.1 by rw [hE1, hE2]; exact ⟨by rw [dgA_size, x1.1.2], by rw [dgA_size, x2.1.2], dgA_all _, dgA_all _, by simp [dgE, dgA], by simp [dgE, dgA]⟩)
    have HC1 := Lib.hid (show Calls Tryz.prog 104 #[.pointer (some ⟨gr, 0, none⟩)] w2 (fun e w' => e = .returned (.agg E1) ∧ RdG w' B gr x1.2 ∧ w2.grownBy w' (some gr)) by rw [hE1, hx1]; exact digest_g w2 B gr _ HI2.out.rd HI2.out.Bs)
    have HC2 := Lib.hid (fun (x : World) (hx : RdG x B gr x1.2) (hbx : B ≤ x.heap.size) => show Calls Tryz.prog 104 #[.pointer (some ⟨gr, 0, none⟩)] x (fun e w' => e = .returned (.agg E2) ∧ RdG w' B gr x2.2 ∧ x.grownBy w' (some gr)) by rw [hE2, hx2]; exact digest_g x B gr _ hx hbx)
    have HS2 := Lib.hid (And.intro hx1 hx2)
    clear hE1 hE2 hx1 hx2
    go_upto_region 14 with (first
      | (go_at_call 104; (with_reducible refine HC1.out.mono ?_); rintro e w3 ⟨rfl, hrd, hg⟩; have HI3 := Lib.hid (HI2.out.reader hg hrd); clear hrd hg HC1)
      | (go_at_call 104; (with_reducible refine (HC2.out _ HI3.out.rd HI3.out.Bs).mono ?_); rintro e w4 ⟨rfl, hrd, hg⟩; have HI4 := Lib.hid (HI3.out.reader hg hrd); have HI5 := Lib.hid (HI4.out.setP x1.1 E1 HES.out.2.2.2.2.1); clear hrd hg)
      | (refine wpList_store_mid rfl 23 (.tmp 57) (.tmp 54) (by rfl) g5 200 E1 (by rfl) (by rfl) (by rw [HES.out.1]; exact FB.there HI4.out.b5 200 32 (by decide)) (by rw [HES.out.1]; exact info23) HES.out.2.2.1 ?_)
      | (refine wpList_store_mid rfl 23 (.tmp 58) (.tmp 56) (by rfl) g5 232 E2 (by rfl) (by rfl) (by rw [HES.out.2.1]; exact FB.there HI5.out.b5 232 32 (by decide)) (by rw [HES.out.2.1]; exact info23) HES.out.2.2.2.1 ?_))
    have HI6 := Lib.hid (HI5.out.setQ x2.1 E2 HES.out.2.2.2.2.2)
    generalize (w4.setCells g5 200 E1.toList).setCells g5 232 E2.toList = w6 at *
    clear HC2 HI2 HI3 HI4 HI5
    have HI6B := Lib.hid (show w0.heap.size ≤ w6.heap.size from HI6.out.hb.size)
    have kz : w6.cell? ⟨g5, 32, none⟩ = some (.int .i64 X.head.size) := FB.c_sizeA HI6.out.b5
    have kn : w6.cell? ⟨g5, 199, none⟩ = some (.int .i64 z) := FB.c_nu HI6.out.b5
    obtain ⟨za, hza⟩ : ∃ t, t = X.head.size := ⟨_, rfl⟩
    obtain ⟨zb, hzb⟩ : ∃ t, t = Y.head.size := ⟨_, rfl⟩
    rw [← hza] at kz
    obtain ⟨t1, ht1⟩ : ∃ t, t = stepsP za z := ⟨_, rfl⟩
    obtain ⟨t2, ht2⟩ : ∃ t, t = stepsP zb z := ⟨_, rfl⟩
    have HTT := Lib.hid (show (t1 ≤ 40 ∧ t2 ≤ 40) ∧ t1 = stepsP X.head.size z ∧ t2 = stepsP Y.head.size z ∧ zb = Y.head.size from ⟨by rw [ht1, ht2]; exact ⟨stepsP_le _ _, stepsP_le _ _⟩, by rw [ht1, hza], by rw [ht2, hzb], hzb⟩)
    have HCS := Lib.hid (fun (x : World) (hx : Below w0.heap.size w0 x) => show Calls Tryz.prog 106 #[.int .i64 za, .int .i64 z] x (fun e w' => e = .returned (.int .i64 (t1 : Int)) ∧ Below x.heap.size x w') by
      have := HT.out.below hx
      rw [ht1]; exact steps_any x za z this.1 this.2.1 this.2.2)
    have HCT := Lib.hid (fun (x : World) (hx : Below w0.heap.size w0 x) => show Calls Tryz.prog 106 #[.int .i64 zb, .int .i64 z] x (fun e w' => e = .returned (.int .i64 (t2 : Int)) ∧ Below x.heap.size x w') by
      have := HT.out.below hx
      rw [ht2]; exact steps_any x zb z this.1 this.2.1 this.2.2)
    clear ht1 ht2 hza hzb
    go_upto_region 15 with (first
      | (go_at_call 106; (with_reducible refine (HCS.out _ HI6.out.hb).mono ?_); rintro e w7 ⟨rfl, hb⟩; have HI7 := Lib.hid (HI6.out.below hb); clear hb)
      | (go_at_call 105; (with_reducible refine (digests_v _ B gr _ HI7.out.rd HI7.out.Bs t1 (by have := HTT.out.1.1; omega)).mono ?_); rintro e w8 ⟨p1, m1, d1, rfl, ho, hrd, hg⟩; have HI8 := Lib.hid (HI7.out.reader hg hrd); have HO8 := Lib.hid (owns_mono ho HI7.out.hb.size); have k8 : w8.cell? ⟨g5, 264, none⟩ = some (.slice none 0 0) := (FB.c_wA HI8.out.b5); have f8 := frozen_of_row w8 g5 264 _ _ HI8.out.b5; clear ho hrd hg))
    have HI9 := Lib.hid (show DfI w0 (w8.setCell ⟨g5, 264, none⟩ (.slice p1 m1 d1)) B gr g2 g5 _ sA sB _ _ _ from HI8.out.setU ⟨p1, m1, d1⟩ _ HO8.out)
    clear kz kn k8 f8 HCS
    generalize w8.setCell ⟨g5, 264, none⟩ (.slice p1 m1 d1) = w9 at *
    have kz : w9.cell? ⟨g5, 131, none⟩ = some (.int .i64 zb) := by rw [HTT.out.2.2.2]; exact FB.c_sizeB HI9.out.b5
    have kn : w9.cell? ⟨g5, 199, none⟩ = some (.int .i64 z) := FB.c_nu HI9.out.b5
    go_wp2_with (first
      | (go_at_call 106; (with_reducible refine (HCT.out _ HI9.out.hb).mono ?_); rintro e w10 ⟨rfl, hb⟩; have HI10 := Lib.hid (HI9.out.below hb); clear hb)
      | (go_at_call 105; (with_reducible refine (digests_v _ B gr _ HI10.out.rd HI10.out.Bs t2 (by have := HTT.out.1.2; omega)).mono ?_); rintro e w11 ⟨p2, m2, d2, rfl, ho, hrd, hg⟩; have HI11 := Lib.hid (HI10.out.reader hg hrd); have HO11 := Lib.hid (owns_mono ho HI10.out.hb.size); have k11 : w11.cell? ⟨g5, 265, none⟩ = some (.slice none 0 0) := (FB.c_wB HI11.out.b5); have f11 := frozen_of_row w11 g5 265 _ _ HI11.out.b5; clear ho hrd hg))
    have HI12 := Lib.hid (show DfI w0 (w11.setCell ⟨g5, 265, none⟩ (.slice p2 m2 d2)) B gr g2 g5 _ sA sB _ _ _ from HI11.out.setV ⟨p2, m2, d2⟩ _ HO11.out)
    refine HKQ.out _ _ (df_tail w0 _ HI12.out.hb raw a n c HR.out HLEN.out HT.out _ sA sB _ _ HI12.out.own ⟨HL.out.1, HL.out.2, Nat.le_trans (rDgs_le _ _) (by have := HTT.out.1.1; omega), Nat.le_trans (rDgs_le _ _) (by have := HTT.out.1.2; omega)⟩ B gr _ HI12.out.rd ?_ g2 g5 HI12.out.b2 HI12.out.b5 HI12.out.l2 _ _ _ _ _ _ _ _ _ _ _ _ _ _ _ _ _ _ _ _ _ _ _ _ _ _ _ _ _ _ _ _ _ _ _ _ _ _ _ _ _ _ _ _ _ _ _ _ _ _ _ _ _ _ _ _ _ _ _ _ _ _ _ _ _ _ _ _ _ _ _ _ _ _ _ _ _ _ _ _ _ _ _ _ _ _ _ _ _ _ _ _ _)
    have hv := HVF.out
    have er : restF X Y 3 s = (⟨X, Y, 3, z, x1.1, x2.1, (rDgs t1 x2.2).1, (rDgs t2 (rDgs t1 x2.2).2).1⟩, (rDgs t2 (rDgs t1 x2.2).2).2) := by
      rw [HTT.out.2.1, HTT.out.2.2.1, HS1.out.2, HS2.out.2, HS2.out.1, HS1.out.1]
      rfl
    rw [er] at hv
    exact hv
  · have er : restF X Y m s = (⟨X, Y, (m : Int), 0, zD, zD, [], []⟩, s) := by unfold restF; rw [if_neg c3]
    rw [er] at hv
    have HVF := Lib.hid hv
    have d3 : ((m : Int) == 3) = false := by simp; omega
    clear hv er
    conv => arg 2; whnf
    go_wp2_with fail
    exact HKQ.out _ _ (df_tail w0 w HI.out.hb raw a n c HR.out HLEN.out HT.out _ sA sB _ _ HI.out.own ⟨HL.out.1, HL.out.2, Nat.zero_le _, Nat.zero_le _⟩ B gr s HI.out.rd HVF.out g2 g5 HI.out.b2 HI.out.b5 HI.out.l2 _ _ _ _ _ _ _ _ _ _ _ _ _ _ _ _ _ _ _ _ _ _ _ _ _ _ _ _ _ _ _ _ _ _ _ _ _ _ _ _ _ _ _ _ _ _ _ _ _ _ _ _ _ _ _ _ _ _ _ _ _ _ _ _ _ _ _ _ _ _ _ _ _ _ _ _ _ _ _ _ _ _ _ _ _ _ _ _ _ _ _ _ _)
end Go.Proofs.YtoboabkaojfbaaaGreatDoor
