import Derived.Test.YtoboabkaojfbaaaGreatDoorQ27
import Derived.Lib.SlBytesRow
import Derived.Test.YtoboabkaojfbaaaGreatDoorQ38
import Derived.Test.YtoboabkaojfbaaaGreatDoorQ36
import Derived.Test.YtoboabkaojfbaaaGreatDoorQ37
namespace Go.Proofs.YtoboabkaojfbaaaGreatDoor
open Go Go.RowKit
set_option maxRecDepth 100000
set_option maxHeartbeats 8000000
set_option linter.unusedVariables false
set_option linter.unusedSimpArgs false
/-! Bytes held against each other. -/
theorem run_convert8 {w : World} {a : Option Addr} {n c : Nat} {l : List UInt8} (h : R8 w a n c l) : (convert 49 9 (.slice a n c)).run Tryz.prog w = .ok (.string ⟨l.toArray⟩) w := by
  obtain ⟨h1, h2, h3, h4⟩ := h
  cases a with
  | none =>
    have : l = [] := by
      cases l with
      | nil => rfl
      | cons x r => obtain ⟨b, off, e, -⟩ := h4 0 (by simp); cases e
    subst this
    obtain rfl : n = 0 := by simpa using h1.symm
    show (convert 49 9 (.slice none 0 c)).run Tryz.prog w = .ok (.string ⟨#[]⟩) w
    kernel_rfl
  | some ad =>
    have hsz : (⟨l.toArray⟩ : ByteArray).size = n := by simpa [ByteArray.size] using h1
    by_cases hn : n = 0
    · have hl : l = [] := List.eq_nil_of_length_eq_zero (by omega)
      subst hl
      subst hn
      obtain ⟨b, o, fd⟩ := ad
      show (convert 49 9 (.slice (some ⟨b, o, fd⟩) 0 c)).run Tryz.prog w = .ok (.string ⟨#[]⟩) w
      kernel_rfl
    · obtain ⟨b, o, e, -⟩ := h4 0 (by omega)
      obtain rfl := Option.some.inj e
      have := Go.Lib.run_convert_whole (P := Tryz.prog) w 49 5 9 Tryz.underlying49 Tryz.underlying5 (by kernel_rfl) b o ⟨l.toArray⟩ (fun j hj => by
        obtain ⟨b', o', e', hc⟩ := h4 j (by rw [hsz] at hj; omega)
        cases e'
        rw [hc]
        rfl) c
      rwa [hsz] at this
theorem equal_any (w : World) (a b : Option Addr) (n m c d : Nat) (x y : List UInt8) (h : R8 w a n c x) (k : R8 w b m d y) :
    Calls Tryz.prog 108 #[.slice a n c, .slice b m d] w fun e w' => e = .returned (.bool (decide (x = y))) ∧ w = w' := by
  have h1 := run_convert8 h
  have h2 := run_convert8 k
  obtain ⟨S, hS⟩ : ∃ S : ByteArray, S = ⟨x.toArray⟩ := ⟨_, rfl⟩
  obtain ⟨T, hT⟩ : ∃ T : ByteArray, T = ⟨y.toArray⟩ := ⟨_, rfl⟩
  rw [← hS] at h1
  rw [← hT] at h2
  have HE := Lib.hid (show (S.toList == T.toList) = decide (x = y) by
    rw [hS, hT, ByteArray.toList_eq, ByteArray.toList_eq]
    show (x == y) = decide (x = y)
    by_cases e : x = y
    · subst e; simp
    · rw [decide_eq_false e, beq_eq_false_iff_ne]; exact e)
  clear hS hT h k
  go_enter Tryz.func108, Tryz.ntmps108
  go_wp2_with fail
  go_ret
  exact ⟨by rw [← HE.out]; rfl, rfl⟩
theorem same_by (w : World) (a b : Option Addr) (n m c d : Nat) (xs ys : List UInt8) (h1 : R8 w a n c xs) (h2 : R8 w b m d ys) :
    Calls Tryz.prog 82 #[.slice a n c, .slice b m d] w fun e w' => e = .returned (.bool (decide (xs = ys))) ∧ Below w.heap.size w w' := by
  have HH1 := Lib.hid h1; have HH2 := Lib.hid h2
  have hn : n ≤ 281474976710656 := by have := h1.2.2.1; have := h1.1; omega
  have HLN := Lib.hid (And.intro h1.1 h2.1)
  clear h1 h2
  by_cases e : n = m
  · subst e
    go_enter Tryz.func82, Tryz.ntmps82
    go_wp2_with fail
    go_loopw [5] (fun v wr => ∃ k : Nat, k ≤ n ∧ v = .int .i64 (k : Int) ∧ xs.take k = ys.take k ∧ Below w.heap.size w wr) (fun v _ => n - (intOf v).toNat)
    case atStart => exact ⟨0, Nat.zero_le _, rfl, by simp, Below.refl _ _⟩
    case round =>
      obtain ⟨k, hk, rfl, ht, hb⟩ := hrel
      have HTK := Lib.hid ht; have HB := Lib.hid hb
      clear ht hb
      by_cases hlt : k < n
      · have hxl : k < xs.length := by have := HLN.out.1; omega
        have hyl : k < ys.length := by have := HLN.out.2; omega
        obtain ⟨ba, oa, rfl, hc1⟩ := (HH1.out.below HB.out).2.2.2 k hxl
        obtain ⟨bb, ob, rfl, hc2⟩ := (HH2.out.below HB.out).2.2.2 k hyl
        obtain ⟨x, hx⟩ : ∃ x, x = xs[k] := ⟨_, rfl⟩
        obtain ⟨y, hy⟩ : ∃ y, y = ys[k] := ⟨_, rfl⟩
        have HXY := Lib.hid (show xs[k]? = some x ∧ ys[k]? = some y by rw [hx, hy]; exact ⟨List.getElem?_eq_getElem _, List.getElem?_eq_getElem _⟩)
        rw [← hx] at hc1
        rw [← hy] at hc2
        have HLT := Lib.hid hlt
        have h9 : decide ((k : Int) < (n : Int)) = true := by rw [decide_eq_true_eq]; omega
        have hki : (k : Int) < (n : Int) := by omega
        have hk48 : k ≤ 281474976710656 := by omega
        clear hx hy hxl hyl hlt hk
        by_cases hxy : x = y
        · subst hxy
          obtain ⟨xv, hxv⟩ : ∃ v : Nat, v = x.toNat := ⟨_, rfl⟩
          rw [← hxv] at hc1 hc2
          clear hxv
          go_upto_region 6 with (fail)
          refine wp_region_held_drew (S := fun u : World => u.cell? ⟨ba, oa + k, none⟩ = some (.int .u8 (xv : Int)) ∧ u.cell? ⟨bb, ob + k, none⟩ = some (.int .u8 (xv : Int))) (by kernel_rfl) ⟨hc1, hc2⟩ (fun hHeld => ?_)
          apply wpT 0
          apply wpT 1
          apply wpT 2
          apply wpT 3
          apply wpT 4
          apply wpT 5
          apply wpT 6
          apply wpT 7
          apply wpT 8
          refine wpAnyH_done (by kernel_rfl) ?_ _
          clear hc1 hc2 hHeld
          go_wp2_with fail
          go_roundw
          case rel => exact ⟨k + 1, HLT.out, by push_cast; rfl, by rw [List.take_add_one, List.take_add_one, HXY.out.1, HXY.out.2, HTK.out], HB.out.drew⟩
          case measure => have := HLT.out; simp [intOf]; omega
        · have HV := Lib.hid (show decide (xs = ys) = false from decide_eq_false (fun q => hxy (by
            have := HXY.out.1
            rw [q, HXY.out.2] at this
            exact (Option.some.inj this).symm)))
          have hne : x.toNat ≠ y.toNat := fun q => hxy (UInt8.toNat_inj.1 q)
          obtain ⟨xv, hxv⟩ : ∃ v : Nat, v = x.toNat := ⟨_, rfl⟩
          obtain ⟨yv, hyv⟩ : ∃ v : Nat, v = y.toNat := ⟨_, rfl⟩
          rw [← hxv] at hc1 hne
          rw [← hyv] at hc2 hne
          have e1 : (xv == yv) = false := by rw [beq_eq_false_iff_ne]; exact hne
          have e2 : ((xv : Int) == (yv : Int)) = false := by rw [beq_eq_false_iff_ne]; omega
          have e3 : (xv != yv) = true := by rw [bne_iff_ne]; exact hne
          have e4 : ((xv : Int) != (yv : Int)) = true := by rw [bne_iff_ne]; omega
          clear hxv hyv hxy
          go_upto_region 6 with (fail)
          refine wp_region_held_drew (S := fun u : World => u.cell? ⟨ba, oa + k, none⟩ = some (.int .u8 (xv : Int)) ∧ u.cell? ⟨bb, ob + k, none⟩ = some (.int .u8 (yv : Int))) (by kernel_rfl) ⟨hc1, hc2⟩ (fun hHeld => ?_)
          apply wpT 0
          apply wpT 1
          apply wpT 2
          apply wpT 3
          apply wpT 4
          apply wpT 5
          apply wpT 6
          apply wpT 7
          apply wpT 8
          refine wpAnyH_done (by kernel_rfl) ?_ _
          clear hc1 hc2 hHeld
          go_wp2_with fail
          go_ret
          exact ⟨by (first | (rw [HV.out]; done) | (rw [HV.out]; rfl)), HB.out.drew⟩
      · obtain rfl : k = n := by omega
        have h9 : decide ((k : Int) < (k : Int)) = false := by rw [decide_eq_false_iff_not]; omega
        have HV := Lib.hid (show decide (xs = ys) = true from decide_eq_true (by
          have := HTK.out
          rwa [List.take_of_length_le (by have := HLN.out.1; omega), List.take_of_length_le (by have := HLN.out.2; omega)] at this))
        clear hlt hk
        go_wp2_with fail
        go_ret
        exact ⟨by (first | (rw [HV.out]; done) | (rw [HV.out]; rfl)), HB.out⟩
  · have HV := Lib.hid (show decide (xs = ys) = false from decide_eq_false (fun q => e (by have := HLN.out.1; have := HLN.out.2; rw [q] at *; omega)))
    have e1 : (n == m) = false := by rw [beq_eq_false_iff_ne]; exact e
    have e2 : ((n : Int) == (m : Int)) = false := by rw [beq_eq_false_iff_ne]; omega
    have e3 : (n != m) = true := by rw [bne_iff_ne]; exact e
    have e4 : ((n : Int) != (m : Int)) = true := by rw [bne_iff_ne]; omega
    go_enter Tryz.func82, Tryz.ntmps82
    go_wp2_with fail
    go_ret
    exact ⟨by (first | (rw [HV.out]; done) | (rw [HV.out]; rfl)), Below.refl _ _⟩
end Go.Proofs.YtoboabkaojfbaaaGreatDoor
namespace Go.Proofs.YtoboabkaojfbaaaGreatDoor
open Go Go.RowKit
set_option maxRecDepth 100000
set_option maxHeartbeats 8000000
set_option linter.unusedVariables false
set_option linter.unusedSimpArgs false
/-! cosign.DecodeFaces: its last part. -/
noncomputable def df0 : Code := Tryz.f39.body.getD .skip
structure FcOwn (w : World) (B : Nat) (f : Fc) (sA sB wA wB : S3) : Prop where
  a : w.ownsRow B 63 64 sA.v sA.n (f.a.signs.flatMap sgE)
  b : w.ownsRow B 63 64 sB.v sB.n (f.b.signs.flatMap sgE)
  wa : w.ownsRow B 23 32 wA.v wA.n (f.wayA.flatMap dgE)
  wb : w.ownsRow B 23 32 wB.v wB.n (f.wayB.flatMap dgE)
theorem FcOwn.below {w w' : World} {B : Nat} {f : Fc} {sA sB wA wB : S3} (h : FcOwn w B f sA sB wA wB) (hb : Below w.heap.size w w') : FcOwn w' B f sA sB wA wB := ⟨own_below h.a hb, own_below h.b hb, own_below h.wa hb, own_below h.wb hb⟩
theorem FcOwn.kept {w w' : World} {B g : Nat} {f : Fc} {sA sB wA wB : S3} (h : FcOwn w B f sA sB wA wB) {cs : Array Value} {t : TypeId} {fz : Nat × Nat} (hg : w.heap[g]? = some (.cells cs t fz)) (h1 : t ≠ 63) (h2 : t ≠ 23) (hb : w.grownBy w' (some g)) : FcOwn w' B f sA sB wA wB :=
  ⟨h.a.kept hb (.inr (own_ne h.a hg h1)), h.b.kept hb (.inr (own_ne h.b hg h1)), h.wa.kept hb (.inr (own_ne h.wa hg h2)), h.wb.kept hb (.inr (own_ne h.wb hg h2))⟩
theorem own_n {α : Type} {enc : α → List Value} {s : Nat} (hs : 0 < s) (he : ∀ x, (enc x).length = s) {w : World} {B : Nat} {e : TypeId} {v : Value} {n : Nat} {l : List α} (h : w.ownsRow B e s v n (l.flatMap enc)) : n = l.length := by
  have := h.1
  rw [flat_len enc s he] at this
  exact (Nat.eq_of_mul_eq_mul_right hs this).symm
theorem FcOwn.at {w : World} {B : Nat} {f : Fc} {sA sB wA wB : S3} (h : FcOwn w B f sA sB wA wB) (hl : f.a.signs.length ≤ 1000 ∧ f.b.signs.length ≤ 1000 ∧ f.wayA.length ≤ 1000 ∧ f.wayB.length ≤ 1000) : FcAt w f sA sB wA wB := by
  obtain ⟨ha, hb, hc, hd⟩ := h
  have e1 := own_n (by decide) sgE_len ha
  have e2 := own_n (by decide) sgE_len hb
  have e3 := own_n (by decide) dgE_len hc
  have e4 := own_n (by decide) dgE_len hd
  exact ⟨RS.of_owns ha (by decide) sgE_len (by omega), RS.of_owns hb (by decide) sgE_len (by omega), RS.of_owns hc (by decide) dgE_len (by omega), RS.of_owns hd (by decide) dgE_len (by omega)⟩
def DfRet (w : World) (raw : List UInt8) (e : Ending) (w' : World) : Prop := ∃ sA sB wA wB : S3, e = .returned (.tuple #[.agg (fcA ((decF raw).getD zFc) sA sB wA wB), .int .i64 (if 9000 < raw.length then 170 else if (decF raw).isSome then 0 else 8)]) ∧ FcOwn w' w.heap.size ((decF raw).getD zFc) sA sB wA wB ∧ Below w.heap.size w w'
theorem zFc_own (w : World) (B : Nat) : FcOwn w B zFc ⟨none, 0, 0⟩ ⟨none, 0, 0⟩ ⟨none, 0, 0⟩ ⟨none, 0, 0⟩ := ⟨World.ownsRow_nil _ _ _ _, World.ownsRow_nil _ _ _ _, World.ownsRow_nil _ _ _ _, World.ownsRow_nil _ _ _ _⟩
theorem df_no {w w' : World} {raw : List UInt8} (h : decF raw = none) (hl : ¬ 9000 < raw.length) (hb : Below w.heap.size w w') {Z : Array Value} (hZ : Z = (FB zHd nilS zHd nilS 0 0 zDg zDg nilS nilS).toArray) : DfRet w raw (.returned (.tuple #[.agg Z, .int .i64 8])) w' := by
  refine ⟨⟨none, 0, 0⟩, ⟨none, 0, 0⟩, ⟨none, 0, 0⟩, ⟨none, 0, 0⟩, ?_, by rw [h]; exact zFc_own _ _, hb⟩
  rw [h, if_neg hl, hZ]; rfl
theorem df_fin {w0 x : World} {g2 : Nat} (G : Array Value) (hs : G.size = 266) (hq : x.heap[g2]? = some o35) (hb : Below w0.heap.size w0 x) (hg : w0.heap.size ≤ g2) : (x.setCells g2 0 G.toList).heap[g2]? = some (.cells G 35 (0, 0)) ∧ Below w0.heap.size w0 (x.setCells g2 0 G.toList) := by
  refine ⟨?_, hb.grown (setCells_grown _ _ _ _) hb.size (fun q hq => by rw [← Option.some.inj hq]; exact hg)⟩
  have := setCells_all (show x.heap[g2]? = some (.cells (FB zHd nilS zHd nilS 0 0 zDg zDg nilS nilS).toArray 35 (0, 0)) from hq) G.toList (by rw [Array.length_toList, hs, List.size_toArray, FB_len])
  simpa using this
theorem df_there {x : World} {g2 : Nat} (hq : x.heap[g2]? = some o35) : x.there g2 0 266 := by
  have := there_block (show x.heap[g2]? = some (.cells (FB zHd nilS zHd nilS 0 0 zDg zDg nilS nilS).toArray 35 (0, 0)) from hq)
  rwa [List.size_toArray, FB_len] at this
theorem encF_short {F : Fc} (h : formedP F = true) : (encF F).length ≤ 281474976710656 := by
  obtain ⟨ha, hb, h1, h2, h3⟩ := formed_facts h
  have ea := noteP_179 ha
  have eb := noteP_179 hb
  unfold encF tailP
  by_cases c : F.form = 3
  · obtain ⟨-, -, p, q⟩ := h3 c
    rw [if_pos c]
    simp only [List.length_append, be_len, ea, eb, flatD_len', F.leafA.2, F.leafB.2]
    omega
  · rw [if_neg c]
    simp only [List.length_append, be_len, ea, eb, List.length_nil]
    omega
theorem df_tail (w0 w : World) (hb : Below w0.heap.size w0 w) (raw : List UInt8) (a : Option Addr) (n c : Nat) (hr : R8 w0 a n c raw) (hl : ¬ 9000 < raw.length) (ht : Tabs w0) (F : Fc) (sA sB wA wB : S3) (hO : FcOwn w w0.heap.size F sA sB wA wB) (hL : F.a.signs.length ≤ 1000 ∧ F.b.signs.length ≤ 1000 ∧ F.wayA.length ≤ 1000 ∧ F.wayB.length ≤ 1000) (B gr : Nat) (s : Rs) (hrd : RdG w B gr s) (hv : decF raw = if rDone s ≠ 0 then none else if formedP F && decide (encF F = raw) then some F else none) (g2 g5 : Nat) (h2 : w.heap[g2]? = some o35) (h5 : w.heap[g5]? = some (.cells (fcA F sA sB wA wB) 35 (0, 0))) (hg : w0.heap.size ≤ g2) (u1 u6 u7 u8 u9 u10 u11 u12 u13 u14 u15 u16 u17 u18 u19 u20 u21 u22 u23 u24 u25 u26 u27 u28 u29 u30 u31 u32 u33 u34 u35 u36 u37 u38 u39 u40 u41 u42 u43 u44 u45 u46 u47 u48 u49 u50 u51 u52 u53 u54 u55 u56 u57 u58 u59 u60 u61 u62 u63 u64 u65 u66 u67 u68 u69 u70 u71 u72 u73 u74 u75 u76 u77 u78 u79 u80 u81 u82 u83 u84 u85 u86 u87 u88 u89 u90 u91 u92 u93 u94 u95 u96 u97 : Value) :
    Code.wp Tryz.prog (dropSeq 10 df0) (bodyPost Tryz.prog Tryz.f39 (DfRet w0 raw)) ⟨#[.slice a n c, u1, .pointer (some ⟨g2, 0, none⟩), .int .i64 0, .pointer (some ⟨gr, 0, none⟩), .pointer (some ⟨g5, 0, none⟩), u6, u7, u8, u9, u10, u11, u12, u13, u14, u15, u16, u17, u18, u19, u20, u21, u22, u23, u24, u25, u26, u27, u28, u29, u30, u31, u32, u33, u34, u35, u36, u37, u38, u39, u40, u41, u42, u43, u44, u45, u46, u47, u48, u49, u50, u51, u52, u53, u54, u55, u56, u57, u58, u59, u60, u61, u62, u63, u64, u65, u66, u67, u68, u69, u70, u71, u72, u73, u74, u75, u76, u77, u78, u79, u80, u81, u82, u83, u84, u85, u86, u87, u88, u89, u90, u91, u92, u93, u94, u95, u96, u97], []⟩ w := by
  obtain ⟨Z, hZ⟩ : ∃ Z, Z = (FB zHd nilS zHd nilS 0 0 zDg zDg nilS nilS).toArray := ⟨_, rfl⟩
  have HZ := Lib.hid hZ
  have HZS := Lib.hid (show Z.size = 266 ∧ Z.all (·.oneCell') = true by rw [hZ]; exact ⟨by rw [List.size_toArray, FB_len], FB_one _ _ _ _ _ _ _ _ _ _ rfl rfl rfl rfl⟩)
  have HBZ := Lib.hid (fun (ρ : Operand → Value) (o : Oper) (ho : o.op = .build 35 #[]) (w : World) => show (execOp ρ o).run Tryz.prog w = .ok (.value (.agg Z)) w by rw [hZ]; exact exec_build35 ho w)
  have HFIN := Lib.hid (fun (x : World) (G : Array Value) (hs : G.size = 266) (hq : x.heap[g2]? = some o35) (hb : Below w0.heap.size w0 x) => df_fin (w0 := w0) G hs hq hb hg)
  have HTH := Lib.hid (fun (x : World) (hq : x.heap[g2]? = some o35) => df_there hq)
  have HLEN := Lib.hid hl
  clear hZ
  have HB := Lib.hid hb; have HT := Lib.hid ht; have HO := Lib.hid hO; have HLL := Lib.hid hL; have HR := Lib.hid hr; have H2 := Lib.hid h2
  have HDO := Lib.hid (done_g w B gr s hrd)
  obtain ⟨dn, hdn⟩ : ∃ d, d = rDone s := ⟨_, rfl⟩
  rw [← hdn] at HDO hv
  have HVS := Lib.hid hv
  obtain ⟨A, hA⟩ : ∃ A, A = fcA F sA sB wA wB := ⟨_, rfl⟩
  rw [← hA] at h5
  have H5 := Lib.hid h5
  have HA := Lib.hid (show A = fcA F sA sB wA wB ∧ A.size = 266 ∧ A.all (·.oneCell') = true by rw [hA]; exact ⟨rfl, fcA_size _ _ _ _ _, fcA_one _ _ _ _ _⟩)
  have HC22 := Lib.hid (fun (x : World) (hx : Below w.heap.size w x) => show Calls Tryz.prog 22 #[.agg A] x (EfRet x F) by
    rw [hA]; exact encF_any x F sA sB wA wB ((hO.below hx).at hL) ((ht.below hb).below hx))
  clear hb ht hO hL hr h2 h5 hv hA hdn hrd hg hl
  by_cases e1 : dn = 0
  · subst e1
    have HVT := Lib.hid (show decF raw = if formedP F && decide (encF F = raw) then some F else none by rw [HVS.out, if_neg (by simp)])
    cases hfp : formedP F with
    | false =>
      have HV := Lib.hid (show decF raw = none by rw [HVT.out, hfp]; rfl)
      have HFP := Lib.hid hfp
      clear hfp
      conv => arg 2; whnf
      go_wp2_with (first
        | (go_at_call 107; (with_reducible refine HDO.out.mono ?_); rintro e w1 ⟨rfl, q1, rfl⟩; have HX1 := Lib.hid (below_drewN (Below.refl w.heap.size w) q1))
        | (refine wpList_load_row rfl 35 (.tmp 5) (by rfl) g5 (by rfl) 35 A (0, 0) _ (show (w.drewN q1).heap[g5]? = _ from H5.out) Tryz.underlying35 rfl (by rw [HA.out.2.1]; exact info35) ?_)
        | (go_at_call 22; (with_reducible refine (HC22.out _ HX1.out).mono ?_); rintro e w2 ⟨a', n', c', rfl, ho, hb⟩; rw [HFP.out]; have HX2 := Lib.hid (HX1.out.trans (hb.mono HX1.out.size)); clear hb ho; have HQ2 := Lib.hid ((HX2.out.block g2 (Array.getElem?_eq_some_iff.1 H2.out).1).trans H2.out); have HB2 := Lib.hid (HB.out.trans (HX2.out.mono HB.out.size)))
        | (refine L_value rfl (HBZ.out _ _ (by rfl) _) ?_)
        | (refine wpList_store_mid rfl 35 (.tmp 2) (.tmp 96) (by rfl) g2 0 Z (by rfl) (by rfl) (by rw [HZS.out.1]; exact HTH.out _ HQ2.out) (by rw [HZS.out.1]; exact info35) HZS.out.2 ?_))
      exact bodyPost_ret (v := .tuple #[.agg Z, .int .i64 8]) (results_row_tmp (p := 2) (u := 3) (ty := 35) rfl _ _ g2 35 Z (0, 0) _ rfl (HFIN.out _ Z HZS.out.1 HQ2.out HB2.out).1 Tryz.underlying35 rfl (by rw [HZS.out.1]; exact info35)) rfl (df_no HV.out HLEN.out (HFIN.out _ Z HZS.out.1 HQ2.out HB2.out).2 HZ.out)
    | true =>
      have HVU := Lib.hid (show decF raw = if decide (encF F = raw) then some F else none by rw [HVT.out, hfp]; rfl)
      have HFP := Lib.hid hfp
      clear hfp
      cases hq : decide (encF F = raw) with
      | false =>
        have HV := Lib.hid (show decF raw = none by rw [HVU.out, hq]; rfl)
        have HEQ := Lib.hid hq
        clear hq
        conv => arg 2; whnf
        go_wp2_with (first
          | (go_at_call 107; (with_reducible refine HDO.out.mono ?_); rintro e w1 ⟨rfl, q1, rfl⟩; have HX1 := Lib.hid (below_drewN (Below.refl w.heap.size w) q1))
          | (refine wpList_load_row rfl 35 (.tmp 5) (by rfl) g5 (by rfl) 35 A (0, 0) _ (show (w.drewN q1).heap[g5]? = _ from H5.out) Tryz.underlying35 rfl (by rw [HA.out.2.1]; exact info35) ?_)
          | (go_at_call 22; (with_reducible refine (HC22.out _ HX1.out).mono ?_); rintro e w2 ⟨a', n', c', rfl, ho, hb⟩; rw [HFP.out] at ho ⊢; have HO2 := Lib.hid ho; have HX2 := Lib.hid (HX1.out.trans (hb.mono HX1.out.size)); clear hb ho; have HQ2 := Lib.hid ((HX2.out.block g2 (Array.getElem?_eq_some_iff.1 H2.out).1).trans H2.out); have HB2 := Lib.hid (HB.out.trans (HX2.out.mono HB.out.size)); have HCE := Lib.hid (equal_any w2 a' a n' n c' c (encF F) raw (R8.of_own8 HO2.out (encF_short HFP.out)) (HR.out.below HB2.out)); rw [HEQ.out] at HCE)
          | (go_at_call 108; (with_reducible refine HCE.out.mono ?_); rintro e w3 ⟨rfl, rfl⟩)
          | (refine L_value rfl (HBZ.out _ _ (by rfl) _) ?_)
          | (refine wpList_store_mid rfl 35 (.tmp 2) (.tmp 96) (by rfl) g2 0 Z (by rfl) (by rfl) (by rw [HZS.out.1]; exact HTH.out _ HQ2.out) (by rw [HZS.out.1]; exact info35) HZS.out.2 ?_))
        exact bodyPost_ret (v := .tuple #[.agg Z, .int .i64 8]) (results_row_tmp (p := 2) (u := 3) (ty := 35) rfl _ _ g2 35 Z (0, 0) _ rfl (HFIN.out _ Z HZS.out.1 HQ2.out HB2.out).1 Tryz.underlying35 rfl (by rw [HZS.out.1]; exact info35)) rfl (df_no HV.out HLEN.out (HFIN.out _ Z HZS.out.1 HQ2.out HB2.out).2 HZ.out)
      | true =>
        have HV := Lib.hid (show decF raw = some F by rw [HVU.out, hq]; rfl)
        have HEQ := Lib.hid hq
        clear hq
        conv => arg 2; whnf
        go_wp2_with (first
          | (go_at_call 107; (with_reducible refine HDO.out.mono ?_); rintro e w1 ⟨rfl, q1, rfl⟩; have HX1 := Lib.hid (below_drewN (Below.refl w.heap.size w) q1))
          | (refine wpList_load_row rfl 35 (.tmp 5) (by rfl) g5 (by rfl) 35 A (0, 0) _ (show (w.drewN q1).heap[g5]? = _ from H5.out) Tryz.underlying35 rfl (by rw [HA.out.2.1]; exact info35) ?_)
          | (go_at_call 22; (with_reducible refine (HC22.out _ HX1.out).mono ?_); rintro e w2 ⟨a', n', c', rfl, ho, hb⟩; rw [HFP.out] at ho ⊢; have HO2 := Lib.hid ho; have HX2 := Lib.hid (HX1.out.trans (hb.mono HX1.out.size)); clear hb ho; have HQ2 := Lib.hid ((HX2.out.block g2 (Array.getElem?_eq_some_iff.1 H2.out).1).trans H2.out); have HQ5 := Lib.hid ((HX2.out.block g5 (Array.getElem?_eq_some_iff.1 H5.out).1).trans H5.out); have HB2 := Lib.hid (HB.out.trans (HX2.out.mono HB.out.size)); have HCE := Lib.hid (equal_any w2 a' a n' n c' c (encF F) raw (R8.of_own8 HO2.out (encF_short HFP.out)) (HR.out.below HB2.out)); rw [HEQ.out] at HCE)
          | (go_at_call 108; (with_reducible refine HCE.out.mono ?_); rintro e w3 ⟨rfl, rfl⟩)
          | (refine wpList_load_row rfl 35 (.tmp 5) (by rfl) g5 (by rfl) 35 A (0, 0) _ HQ5.out Tryz.underlying35 rfl (by rw [HA.out.2.1]; exact info35) ?_)
          | (refine wpList_store_mid rfl 35 (.tmp 2) (.tmp 97) (by rfl) g2 0 A (by rfl) (by rfl) (by rw [HA.out.2.1]; exact HTH.out _ HQ2.out) (by rw [HA.out.2.1]; exact info35) HA.out.2.2 ?_))
        refine bodyPost_ret (v := .tuple #[.agg A, .int .i64 0]) (results_row_tmp (p := 2) (u := 3) (ty := 35) rfl _ _ g2 35 A (0, 0) _ rfl (HFIN.out _ A HA.out.2.1 HQ2.out HB2.out).1 Tryz.underlying35 rfl (by rw [HA.out.2.1]; exact info35)) rfl ⟨sA, sB, wA, wB, by rw [HV.out, if_neg HLEN.out, HA.out.1]; rfl, ?_, (HFIN.out _ A HA.out.2.1 HQ2.out HB2.out).2⟩
        rw [HV.out]
        exact (HO.out.below HX2.out).kept HQ2.out (by decide) (by decide) (setCells_grown _ _ _ _)
  · have HV := Lib.hid (show decF raw = none by rw [HVS.out, if_pos e1])
    have d1 : ((dn : Int) == 0) = false := by simp; omega
    have d2 : ((dn : Int) != 0) = true := by simp; omega
    conv => arg 2; whnf
    go_wp2_with (first
      | (go_at_call 107; (with_reducible refine HDO.out.mono ?_); rintro e w1 ⟨rfl, q1, rfl⟩; have HQ2 := Lib.hid (show (w.drewN q1).heap[g2]? = some o35 from H2.out); have HB2 := Lib.hid (below_drewN HB.out q1))
      | (refine L_value rfl (HBZ.out _ _ (by rfl) _) ?_)
      | (refine wpList_store_mid rfl 35 (.tmp 2) (.tmp 82) (by rfl) g2 0 Z (by rfl) (by rfl) (by rw [HZS.out.1]; exact HTH.out _ HQ2.out) (by rw [HZS.out.1]; exact info35) HZS.out.2 ?_))
    exact bodyPost_ret (v := .tuple #[.agg Z, .int .i64 8]) (results_row_tmp (p := 2) (u := 3) (ty := 35) rfl _ _ g2 35 Z (0, 0) _ rfl (HFIN.out _ Z HZS.out.1 HQ2.out HB2.out).1 Tryz.underlying35 rfl (by rw [HZS.out.1]; exact info35)) rfl (df_no HV.out HLEN.out (HFIN.out _ Z HZS.out.1 HQ2.out HB2.out).2 HZ.out)
end Go.Proofs.YtoboabkaojfbaaaGreatDoor
namespace Go.Proofs.YtoboabkaojfbaaaGreatDoor
open Go Go.RowKit
set_option maxRecDepth 100000
set_option maxHeartbeats 8000000
set_option linter.unusedVariables false
set_option linter.unusedSimpArgs false
/-! The law's known: its end -/

noncomputable def kn0 : Code := Tryz.f20.body.getD .skip
def KnRet (w0 : World) (e : Ending) (w' : World) : Prop := e = .returned (.bool true) ∧ Below w0.heap.size w0 w'
structure KnB (w0 x : World) (ga g2 g3 g4 p q : Nat) : Prop where
  hb : Below w0.heap.size w0 x
  kk : x.heap[ga]? = some (.cells #[.int .u8 7] 5 (0, 0))
  b2 : x.heap[g2]? = some (.cells (ntA kA (.slice (some ⟨p, 0, none⟩) 1 1)) 28 (0, 0))
  b3 : x.heap[g3]? = some (.cells (ntA kB (.slice (some ⟨q, 0, none⟩) 1 1)) 28 (0, 0))
  b4 : x.heap[g4]? = some (.cells (dgA (idP [7]).1) 23 (0, 0))
  sa : x.heap[p]? = some (.cells (sgA (signP kA [7])) 63 (0, 0))
  sb : x.heap[q]? = some (.cells (sgA (signP kB [7])) 63 (0, 0))
theorem blk_ne {x : World} {g h : Nat} {c d : Array Value} {t u : TypeId} {f k : Nat × Nat} (h1 : x.heap[g]? = some (.cells c t f)) (h2 : x.heap[h]? = some (.cells d u k)) (hn : t ≠ u) : g ≠ h := by
  rintro rfl
  rw [h1] at h2
  have := Option.some.inj h2
  injection this with e1 e2 e3
  exact hn e2
section
variable {w0 x x' : World} {ga g2 g3 g4 p q : Nat}
theorem KnB.below (h : KnB w0 x ga g2 g3 g4 p q) (hb : Below x.heap.size x x') : KnB w0 x' ga g2 g3 g4 p q :=
  ⟨h.hb.trans (hb.mono h.hb.size), blk_up h.kk hb, blk_up h.b2 hb, blk_up h.b3 hb, blk_up h.b4 hb, blk_up h.sa hb, blk_up h.sb hb⟩
theorem KnB.set35 (h : KnB w0 x ga g2 g3 g4 p q) {g : Nat} {C : Array Value} (hg : x.heap[g]? = some (.cells C 35 (0, 0))) (hl : w0.heap.size ≤ g) (hgr : x.grownBy x' (some g)) : KnB w0 x' ga g2 g3 g4 p q :=
  ⟨h.hb.grown hgr h.hb.size (fun k hk => by rw [← Option.some.inj hk]; exact hl), blk_keep hgr h.kk (blk_ne h.kk hg (by decide)), blk_keep hgr h.b2 (blk_ne h.b2 hg (by decide)), blk_keep hgr h.b3 (blk_ne h.b3 hg (by decide)), blk_keep hgr h.b4 (blk_ne h.b4 hg (by decide)), blk_keep hgr h.sa (blk_ne h.sa hg (by decide)), blk_keep hgr h.sb (blk_ne h.sb hg (by decide))⟩
theorem KnB.set63 (h : KnB w0 x ga g2 g3 g4 p q) {g : Nat} {C : Array Value} (hg : x.heap[g]? = some (.cells C 63 (0, 0))) (hl : w0.heap.size ≤ g) (hp : p ≠ g) (hq : q ≠ g) (hgr : x.grownBy x' (some g)) : KnB w0 x' ga g2 g3 g4 p q :=
  ⟨h.hb.grown hgr h.hb.size (fun k hk => by rw [← Option.some.inj hk]; exact hl), blk_keep hgr h.kk (blk_ne h.kk hg (by decide)), blk_keep hgr h.b2 (blk_ne h.b2 hg (by decide)), blk_keep hgr h.b3 (blk_ne h.b3 hg (by decide)), blk_keep hgr h.b4 (blk_ne h.b4 hg (by decide)), blk_keep hgr h.sa hp, blk_keep hgr h.sb hq⟩
theorem r8_one {c : UInt8} {v : Value} (hv : v = b8 c) {g : Nat} {t : TypeId} (h : x.heap[g]? = some (.cells #[v] t (0, 0))) : R8 x (some ⟨g, 0, none⟩) 1 1 [c] := by
  refine ⟨rfl, by decide, by decide, fun i hi => ⟨g, 0, rfl, ?_⟩⟩
  have hi0 : i = 0 := by simpa using hi
  subst hi0
  rw [cell_of_row _ _ _ _ _ _ h, hv]; rfl
theorem rs_one {s : Sg} {g : Nat} {t : TypeId} (h : x.heap[g]? = some (.cells (sgA s) t (0, 0))) : RS 64 sgE x (some ⟨g, 0, none⟩) 1 1 [s] :=
  rs_block sgE 64 (by decide) sgE_len (l := [s]) (t := t) (by simpa [sgA] using h) 1 rfl (by decide)
end
theorem at_small {w : World} {B : Nat} {f : Fc} {sA sB wA wB : S3} (h : FcOwn w B f sA sB wA wB) (hf : formedP f = true) : FcAt w f sA sB wA wB := by
  obtain ⟨ha, hb, h1, h3, ht⟩ := formed_facts hf
  obtain ⟨-, s, hs⟩ := okN_one ha
  obtain ⟨-, t, ht'⟩ := okN_one hb
  refine h.at ⟨by rw [hs]; simp, by rw [ht']; simp, ?_, ?_⟩
  · by_cases c : f.form = 3
    · have := (ht c).2.2.1; omega
    · rw [formedP] at hf
      simp only [Bool.and_eq_true, decide_eq_true_eq] at hf
      have q := hf.2.2.2.2.2.2.2
      rw [if_neg c] at q
      simp only [Bool.and_eq_true, decide_eq_true_eq] at q
      omega
  · by_cases c : f.form = 3
    · have := (ht c).2.2.2; omega
    · rw [formedP] at hf
      simp only [Bool.and_eq_true, decide_eq_true_eq] at hf
      have q := hf.2.2.2.2.2.2.2
      rw [if_neg c] at q
      simp only [Bool.and_eq_true, decide_eq_true_eq] at q
      omega

theorem kn_f (w0 w : World) (hb : Below w0.heap.size w0 w) (ht : Tabs w) (g9 : Nat) (sA sB wA wB : S3) (h9 : w.heap[g9]? = some (.cells (fcA kF sA sB wA wB) 35 (0, 0))) (hF : FcAt w kF sA sB wA wB) (u0 u1 u2 u3 u4 u5 u6 u7 u8 u10 u11 u12 u13 u14 u15 u16 u17 u18 u19 u20 u21 u22 u23 u24 u25 u26 u27 u28 u29 u30 u31 u32 u33 u34 u35 u36 u37 u38 u39 u40 u41 u42 u43 u44 u45 u46 u47 u48 u49 u50 u51 u52 u53 u54 u55 u56 u57 u58 u59 u60 u61 u62 u63 u64 u65 u66 u67 u68 u69 u70 u71 u72 u73 u74 u75 u76 u77 u78 u79 u80 u81 u82 u83 u84 u85 u86 u87 u88 u89 u90 u91 u92 u93 u94 u95 u96 u97 u98 u99 u100 u101 u102 u103 u104 u105 u106 u107 u108 u109 u110 u111 u112 u113 u114 u115 u116 u117 u118 u119 u120 u121 u122 u123 u124 u125 u126 u127 u128 u129 u130 u131 u132 u133 u134 u135 u136 u137 u138 u139 u140 u141 u142 u143 u144 u145 u146 u147 u148 u149 u150 u151 u152 u153 u154 u155 u156 u157 u158 u159 u160 u161 u162 u163 u164 u165 u166 u167 u168 u169 u170 u171 u172 u173 u174 u175 u176 u177 u178 u179 u180 u181 u182 u183 u184 u185 u186 u187 u188 u189 u190 u191 u192 u193 u194 u195 u196 u197 u198 u199 u200 u201 u202 u203 u204 u205 u206 : Value) :
    Code.wp Tryz.prog (dropSeq 16 kn0) (bodyPost Tryz.prog Tryz.f20 (KnRet w0)) ⟨#[u0, u1, u2, u3, u4, u5, u6, u7, u8, .pointer (some ⟨g9, 0, none⟩), u10, u11, u12, u13, u14, u15, u16, u17, u18, u19, u20, u21, u22, u23, u24, u25, u26, u27, u28, u29, u30, u31, u32, u33, u34, u35, u36, u37, u38, u39, u40, u41, u42, u43, u44, u45, u46, u47, u48, u49, u50, u51, u52, u53, u54, u55, u56, u57, u58, u59, u60, u61, u62, u63, u64, u65, u66, u67, u68, u69, u70, u71, u72, u73, u74, u75, u76, u77, u78, u79, u80, u81, u82, u83, u84, u85, u86, u87, u88, u89, u90, u91, u92, u93, u94, u95, u96, u97, u98, u99, u100, u101, u102, u103, u104, u105, u106, u107, u108, u109, u110, u111, u112, u113, u114, u115, u116, u117, u118, u119, u120, u121, u122, u123, u124, u125, u126, u127, u128, u129, u130, u131, u132, u133, u134, u135, u136, u137, u138, u139, u140, u141, u142, u143, u144, u145, u146, u147, u148, u149, u150, u151, u152, u153, u154, u155, u156, u157, u158, u159, u160, u161, u162, u163, u164, u165, u166, u167, u168, u169, u170, u171, u172, u173, u174, u175, u176, u177, u178, u179, u180, u181, u182, u183, u184, u185, u186, u187, u188, u189, u190, u191, u192, u193, u194, u195, u196, u197, u198, u199, u200, u201, u202, u203, u204, u205, u206], []⟩ w := by
  obtain ⟨A, hA⟩ : ∃ A, A = fcA kF sA sB wA wB := ⟨_, rfl⟩
  have HA := Lib.hid (show A.size = 266 by rw [hA]; exact fcA_size _ _ _ _ _)
  rw [← hA] at h9
  have HB := Lib.hid hb
  have HQ := Lib.hid h9
  have HT := Lib.hid (show Calls Tryz.prog 33 #[.int .i64 32, .agg A, .nilFunc] w (fun e w' => e = .returned (.tuple #[.agg #[nilS, nilS], .bool false]) ∧ Below w.heap.size w w') by
    rw [hA]; exact twof_no w 32 kF sA sB wA wB hF ht _ (.inr (by decide)))
  obtain ⟨Z, hZ⟩ : ∃ Z, Z = dgA zDg.1 := ⟨_, rfl⟩
  have HZ := Lib.hid (fun (ρ : Operand → Value) (o : Oper) (ho : o.op = .build 23 #[]) (w : World) => show (execOp ρ o).run Tryz.prog w = .ok (.value (.agg Z)) w by rw [hZ]; exact exec_build23z ho w)
  clear hA hb ht h9 hF hZ
  conv => arg 2; whnf
  go_upto_region 21 with (first
    | (refine L_load_arr rfl 35 (.tmp 9) (by rfl) g9 0 (by rfl) A _ (row_range HQ.out) Tryz.underlying35 rfl (by rw [HA.out]; exact info35) ?_)
    | (go_at_call 33; (with_reducible refine HT.out.mono ?_); rintro e w1 ⟨rfl, hb⟩; have HX1 := Lib.hid hb; clear hb))
  have HX2 := Lib.hid (HX1.out.trans ((below_new w1 #[nilS, nilS] 70).mono HX1.out.size))
  obtain ⟨g11, hg11⟩ : ∃ g, g = w1.heap.size := ⟨_, rfl⟩
  have HQ11 := Lib.hid (show (w1.alloc (.cells #[nilS, nilS] 70)).heap[g11]? = some (.cells #[nilS, nilS] 70 (0, 0)) by rw [hg11]; exact box_new w1 _ _)
  rw [← hg11]
  clear hg11
  change Code.wp Tryz.prog _ _ _ (w1.alloc (.cells #[nilS, nilS] 70))
  generalize w1.alloc (.cells #[nilS, nilS] 70) = w2 at *
  go_wp2_with (first
    | (refine L_value rfl (HZ.out _ _ (by rfl) _) ?_)
    | (go_at_call 74; (with_reducible refine (open_nil _ Z _).mono ?_); rintro e w3 ⟨⟨gf, rfl⟩, hb⟩; have HX3 := Lib.hid hb
       have k0 : w3.cell? ⟨g11, 0, none⟩ = some (.slice none 0 0) := by rw [cell_of_row _ _ _ _ _ _ (blk_up HQ11.out hb)]; rfl
       have k1 : w3.cell? ⟨g11, 1, none⟩ = some (.slice none 0 0) := by rw [cell_of_row _ _ _ _ _ _ (blk_up HQ11.out hb)]; rfl
       clear hb))
  go_ret
  exact ⟨rfl, HB.out.trans ((HX2.out.trans (HX3.out.mono HX2.out.size)).mono HB.out.size)⟩
end Go.Proofs.YtoboabkaojfbaaaGreatDoor
