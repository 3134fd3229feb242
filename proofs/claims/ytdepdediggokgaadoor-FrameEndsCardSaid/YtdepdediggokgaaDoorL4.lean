import Derived.Test.YtdepdediggokgaaDoorB5
import Derived.Test.YtdepdediggokgaaDoorX6
namespace Go.Proofs.YtdepdediggokgaaDoor
open Go.RowKit
set_option linter.unusedVariables false
theorem BkI.grown {w w' : World} {B gb g : Nat} {ls ws : List Value} {ds : List (List UInt8)} (h : BkI w B gb ls ws ds) (hg : w.grownBy w' (some g)) (h5 : ∃ cur, w.heap[g]? = some (Obj.cells cur 5 (0, 0)))
    (h1 : ∀ x ∈ ls, x.ownBlock ≠ some g) (h2 : ∀ x ∈ ws, x.ownBlock ≠ some g) : BkI w' B gb ls ws ds := by
  obtain ⟨cur, hc⟩ := h5
  obtain ⟨lv, wv, held, hgb, hB, hlv, hwv, hlw, h0, h1', hI⟩ := h
  have hne : gb ≠ g := fun e => by subst e; rw [hgb] at hc; simp at hc
  refine ⟨lv, wv, held, (hg.block gb (Array.getElem?_eq_some_iff.1 hgb).1 (by simpa using hne)).trans hgb, hB, hlv.kept (fun k hk => hg.block k (hlv.lt k hk).2.1 (fun e => ?_)), hwv.kept (fun k hk => hg.block k (hwv.lt k hk).2.1 (fun e => ?_)), hlw, h0, h1', ⟨hI.l1, hI.l2, fun i v u d hv hu hd => ?_, hI.apart⟩⟩
  · obtain ⟨_, _, c2, hc2⟩ := hlv.lt k hk
    obtain rfl := Option.some.inj e
    rw [hc2] at hc; simp at hc
  · obtain ⟨_, _, c2, hc2⟩ := hwv.lt k hk
    obtain rfl := Option.some.inj e
    rw [hc2] at hc; simp at hc
  · obtain ⟨a, b, c⟩ := hI.own i v u d hv hu hd
    exact ⟨a, b.kept hg (.inr (h1 v (List.mem_of_getElem? hv))), c.kept hg (.inr (h2 u (List.mem_of_getElem? hu)))⟩
theorem BkI.below {w w' : World} {B gb : Nat} {ls ws : List Value} {ds : List (List UInt8)} (h : BkI w B gb ls ws ds) (hb : Below w.heap.size w w') : BkI w' B gb ls ws ds := by
  obtain ⟨lv, wv, held, hgb, hB, hlv, hwv, hlw, h0, h1', hI⟩ := h
  refine ⟨lv, wv, held, (hb.block gb (Array.getElem?_eq_some_iff.1 hgb).1).trans hgb, hB, hlv.kept (fun k hk => hb.block k (hlv.lt k hk).2.1), hwv.kept (fun k hk => hb.block k (hwv.lt k hk).2.1), hlw, h0, h1', ⟨hI.l1, hI.l2, fun i v u d hv hu hd => ?_, hI.apart⟩⟩
  obtain ⟨a, b, c⟩ := hI.own i v u d hv hu hd
  exact ⟨a, own_below b hb, own_below c hb⟩
theorem roomy165 (w : World) (a : Option Addr) (n c : Nat) (l : List UInt8) (h : R8 w a n c l) (hn : n ≤ 140737488355328) :
    Calls Tryd.prog 10 #[.slice a n c, .int .u8 165] w fun e w' => ∃ g, e = .returned (.slice (some ⟨g, 0, none⟩) (n+80) (n+80)) ∧
      w'.ownsRow w.heap.size 5 1 (.slice (some ⟨g, 0, none⟩) (n+80) (n+80)) (n+80) ((l ++ List.replicate 80 165).map b8) ∧ Below w.heap.size w w' :=
  roomy_any w a n c l 165 h hn
theorem intact165 (w : World) (a1 a2 : Option Addr) (n1 n2 c1 c2 : Nat) (l : List UInt8) (h1 : R8 w a1 n1 c1 (l ++ List.replicate 80 165)) (h2 : R8 w a2 n2 c2 l) :
    Calls Tryd.prog 13 #[.slice a1 n1 c1, .slice a2 n2 c2, .int .u8 165] w fun e w' => e = .returned (.bool true) ∧ ∃ n, w' = w.drewN n :=
  intact_any w a1 a2 n1 n2 c1 c2 l 165 h1 h2
theorem turned0 (w : World) (B g N C m : Nat) (xs : List UInt8) (ho : w.ownsRow B 5 1 (.slice (some ⟨g, 0, none⟩) N C) N (xs.map b8)) (hm : m ≤ N) (hN : N ≤ 140737488355328) :
    Calls Tryd.prog 19 #[.slice (some ⟨g, 0, none⟩) m C, .int .i64 0] w fun e w' => ∃ a c, e = .returned (.slice a m c) ∧ w'.ownsRow w.heap.size 5 1 (.slice a m c) m (((turnL xs 0 m).take m).map b8) ∧
      w'.ownsRow B 5 1 (.slice (some ⟨g, 0, none⟩) N C) N ((turnL xs 0 m).map b8) ∧ w.grownBy w' (some g) :=
  turned_any w B g N C m 0 xs ho hm hN (Nat.zero_le _)
/-- What the law's loop holds. -/
def PkJ (B gb g m : Nat) (xs l0 : List UInt8) (a2 : Option Addr) (c2 : Nat) (w wr : World) (i : Nat) : Prop :=
  ∃ ls ws ds, BkI wr B gb ls ws ds ∧ ds.length ≤ i ∧ (∀ x ∈ ls, ∀ k, x.ownBlock = some k → k < wr.heap.size ∧ k ≠ g) ∧ (∀ x ∈ ws, ∀ k, x.ownBlock = some k → k ≠ g) ∧
    wr.ownsRow B 5 1 (.slice (some ⟨g, 0, none⟩) (m + 80) (m + 80)) (m + 80) (xs.map b8) ∧ wr.ownsRow B 5 1 (.slice a2 l0.length c2) l0.length (l0.map b8) ∧ Below B w wr

set_option maxRecDepth 100000 in
set_option maxHeartbeats 2000000 in
theorem framepacks_walk (w : World) (n : Int) (n0 : -9223372036854775808 ≤ n) (n1 : n ≤ 9223372036854775807) (sa : Option Addr) (m c : Nat) (p : List UInt8) (h : R8 w sa m c p) (hs : m ≤ 140737488351232) (ht0 : HalfTab w ∧ 0 < w.heap.size) :
    Calls Tryd.prog 4 #[.int .i64 n, .slice sa m c] w fun e w' => e = .returned (.bool true) ∧ Below w.heap.size w w' := by
  obtain ⟨ht, h0⟩ := ht0
  have HT := Lib.hid ht
  have HR := Lib.hid h
  have hlen := Lib.hid h.1
  obtain ⟨B, hB⟩ : ∃ B, B = w.heap.size := ⟨_, rfl⟩
  have HBB := Lib.hid hB
  have hB0 : B ≤ w.heap.size := by omega
  have h0B : 0 < B := by omega
  obtain ⟨l0, e0, hpk⟩ : ∃ l e, packR n p = (l, e) := ⟨_, _, rfl⟩
  have HPK := Lib.hid hpk
  have hl0 := packR_len _ _ _ _ hpk
  clear hpk
  go_enter Tryd.func4, Tryd.ntmps4
  go_wp2_with fail
  with_reducible refine (first_any _ ht h0).mono ?_
  rintro e w1 ⟨rfl, hb1⟩
  rw [← hB] at hb1
  clear hB ht h h0
  have z1 : B ≤ w1.heap.size := by have := hb1.size; omega
  go_wp2_with fail
  with_reducible refine (refpack_all w1 n _ _ _ p (HR.out.belowB (by have := HBB.out; omega) hb1) l0 e0 HPK.out).mono ?_
  rintro e w2 ⟨a2, m2, c2, rfl, rfl, o2, b2⟩
  have z2 := b2.size
  have hb2 := hb1.trans (b2.mono z1)
  have O2 := Lib.hid (owns_mono o2 z1)
  clear o2 b2 hb1
  go_wp2_with fail
  with_reducible refine (roomy165 w2 _ _ _ p (HR.out.belowB (by have := HBB.out; omega) hb2) (by omega)).mono ?_
  rintro e w3 ⟨g, rfl, o3, b3⟩
  have z3 := b3.size
  have hb3 := hb2.trans (b3.mono (by omega))
  have O3 := Lib.hid (owns_mono o3 (show B ≤ w2.heap.size by omega))
  have O23 := Lib.hid (own_below O2.out b3)
  have hg3 := (o3.lt g rfl)
  clear o3 b3 hb2 O2
  go_wp2_with fail
  have b4 : Below w3.heap.size w3 (w3.alloc (.cells #[.slice none 0 0, .slice none 0 0, .int .i64 0, .bool false] 34)) := (Below.refl _ _).alloc (Nat.le_refl _) _
  have z4 := b4.size
  have hb4 := hb3.trans (b4.mono (show B ≤ w3.heap.size by omega))
  have O34 := Lib.hid (own_below O3.out b4)
  have O24 := Lib.hid (own_below O23.out b4)
  have hbk : BkI (w3.alloc (.cells #[.slice none 0 0, .slice none 0 0, .int .i64 0, .bool false] 34)) B w3.heap.size [] [] [] := ⟨_, _, _, heap_alloc_new w3 _, by omega, OwA.nil _ _ _, OwA.nil _ _ _, .inl rfl, by omega, by omega, ⟨rfl, rfl, fun i v u d h => by simp at h, fun i j v v' _ h => by simp at h⟩⟩
  have HBK := Lib.hid hbk
  have HB4 := Lib.hid hb4
  obtain ⟨gb, hgb⟩ : ∃ gb, gb = w3.heap.size := ⟨_, rfl⟩
  rw [← hgb] at HBK ⊢
  have HGB := Lib.hid hgb
  clear hgb
  clear hbk hb4 b4 hb3 O3 O23
  generalize w3.alloc (.cells #[.slice none 0 0, .slice none 0 0, .int .i64 0, .bool false] 34) = w4 at *
  go_loopw [9, 10, 11] (fun x _ _ wr => ∃ i : Nat, i ≤ 2 ∧ x = .int .i64 i ∧ PkJ B gb g m (p ++ List.replicate 80 165) l0 a2 c2 w wr i) (fun x _ _ _ => 2 - (intOf x).toNat)
  case atStart => exact ⟨0, by omega, rfl, [], [], [], HBK.out, by simp, by simp, by simp, O34.out, O24.out, HB4.out⟩
  case round =>
    obtain ⟨i, hi, rfl, ls, ws, ds, hbk, hdl, hls, hws, ho, ho2, hb⟩ := hrel
    have HBKr := Lib.hid hbk
    have HLS := Lib.hid hls
    have HWS := Lib.hid hws
    have HO := Lib.hid ho
    have HO2 := Lib.hid ho2
    have HB := Lib.hid hb
    have zr : B ≤ wr.heap.size := by have := hb.size; omega
    have r0 := R8.of_owns ho (by omega)
    have rm : R8 wr (some ⟨g, 0, none⟩) m (m + 80) p := by
      have := r0.take m (by omega)
      rwa [List.take_append_of_le_length (by rw [hlen.out]; omega), List.take_of_length_le (by rw [hlen.out]; omega)] at this
    have htr := HT.out.below hb h0B
    have hsl := fun wx => slice_to wx (some ⟨g, 0, none⟩) (m + 80) (m + 80) m (by omega)
    clear HBK hbk hls hws ho ho2 hb r0 O34 O24 HB4
    by_cases hlt : i < 2
    · go_wp2_with fail
      with_reducible refine (pack_all wr n _ _ _ p rm htr (by omega) l0 e0 HPK.out).mono ?_
      rintro e w5 ⟨a5, m5, c5, rfl, rfl, o5, b5⟩
      have z5 := b5.size
      have O5 := Lib.hid o5
      have B5 := Lib.hid b5
      have r5 := R8.of_owns o5 (by omega)
      have r2 := R8.of_owns (own_below HO2.out b5) (by omega)
      clear o5 b5 rm htr hsl
      go_wp2_with fail
      with_reducible refine (same_any w5 _ _ _ _ _ _ l0 l0 r5 r2 true (by simp)).mono ?_
      rintro e w' ⟨rfl, q1, rfl⟩
      have rf := R8.of_owns (own_below HO.out B5.out) (by omega)
      have rp := HR.out.belowB (show w.heap.size ≤ B by have := HBB.out; omega) (HB.out.trans (B5.out.mono zr))
      go_wp2_with fail
      with_reducible refine (intact165 (w5.drewN q1) _ _ _ _ _ _ p (rf.drewN q1) (rp.drewN q1)).mono ?_
      rintro e w' ⟨rfl, q2, rfl⟩
      clear r5 r2 rf rp
      go_wp2_with fail
      have O5d : (w5.drewN (q1 + q2)).ownsRow wr.heap.size 5 1 (.slice a5 l0.length c5) l0.length (l0.map b8) := O5.out
      have B5d := below_drewN B5.out (q1 + q2)
      have OFd := own_below HO.out B5d
      have OWd := own_below HO2.out B5d
      with_reducible refine (keep_any (w5.drewN (q1 + q2)) B gb ls ws ds ((HBKr.out.below B5.out).oth (fun _ => rfl)) (by omega) _ _ _ l0 (owns_mono O5d zr) (by omega) (fun x hx => ?_)).mono ?_
      · cases hxb : x.ownBlock with
        | none => exact .inl rfl
        | some k =>
          right
          intro e
          have h1 := (HLS.out x hx k hxb).1
          have h2 := (O5.out.lt k e.symm).1
          omega
      rintro e w7 ⟨rfl, ⟨u, k, hu, hbk7⟩, hb7, hk7⟩
      have hgr := (HO.out.lt g rfl).2
      have z7 := hb7.size
      have hrel : PkJ B gb g m (p ++ List.replicate 80 165) l0 a2 c2 w w7 (i + 1) := by
        refine ⟨_, _, _, hbk7, by simp; omega, fun x hx k hk => ?_, fun x hx k hk => ?_, hk7.owns OFd, hk7.owns OWd, (HB.out.trans (B5d.mono zr)).trans hb7⟩
        · have hx := List.mem_of_mem_drop hx
          rcases List.mem_append.1 hx with hx | hx
          · have := HLS.out x hx k hk
            exact ⟨by simp at z7; omega, this.2⟩
          · obtain rfl := List.mem_singleton.1 hx
            have := O5.out.lt k hk
            exact ⟨by simp at z7; omega, by omega⟩
        · have hx := List.mem_of_mem_drop hx
          rcases List.mem_append.1 hx with hx | hx
          · exact HWS.out x hx k hk
          · obtain rfl := List.mem_singleton.1 hx
            have := hu k hk
            simp at this; omega
      have HREL := Lib.hid hrel
      clear hrel hbk7 hb7 hk7 hu
      go_wp2
      go_roundw
      case rel => exact ⟨i + 1, by omega, by go_num, HREL.out⟩
      case measure => simp [intOf]; omega
    · obtain ⟨l1, e1, hpk⟩ : ∃ l e, packR n ((turnL (p ++ List.replicate 80 165) 0 m).take m) = (l, e) := ⟨_, _, rfl⟩
      have HPK1 := Lib.hid hpk
      have hl1 := packR_len _ _ _ _ hpk
      have hg5 : ∃ cur, wr.heap[g]? = some (Obj.cells cur 5 (0, 0)) := by
        rcases HO.out.2 with ⟨hv, _⟩ | ⟨g', cap, cur, hv, _, hg, _⟩
        · cases hv
        · obtain ⟨e, -, -⟩ := Value.slice.inj hv
          obtain rfl : g = g' := by simpa using e
          exact ⟨cur, hg⟩
      have HG5 := Lib.hid hg5
      clear hpk hg5 rm htr
      go_wp2_with fail
      with_reducible refine (turned0 wr B g (m + 80) (m + 80) m _ HO.out (by omega) (by omega)).mono ?_
      rintro e w5 ⟨a5, c5, rfl, o5, o6, g5⟩
      have z5 := g5.size
      have hgB := (HO.out.lt g rfl)
      have b5 := HB.out.grown g5 zr (fun k hk => by obtain rfl := Option.some.inj hk; exact hgB.1)
      have BK5 := HBKr.out.grown g5 HG5.out (fun x hx e => (HLS.out x hx g e).2 rfl) (fun x hx e => HWS.out x hx g e rfl)
      have r5 := R8.of_owns o5 (by omega)
      have r6 := (R8.of_owns o6 (by omega)).take m (by omega)
      have ht5 := HT.out.below b5 h0B
      generalize hL : (turnL (p ++ List.replicate 80 165) 0 m).take m = L at *
      generalize hX : turnL (p ++ List.replicate 80 165) 0 m = X at *
      have BK5 := Lib.hid BK5
      have R5 := Lib.hid r5
      have O6 := Lib.hid o6
      have B5 := Lib.hid b5
      clear hL hX o5 o6 g5 b5 r5 HBKr HB HO HO2
      go_wp2_with fail
      with_reducible refine (pack_all w5 n _ _ _ L r6 ht5 (by omega) l1 e1 HPK1.out).mono ?_
      rintro e w6 ⟨a6, m6, c6, rfl, rfl, o6, b6⟩
      have z6 := b6.size
      clear r6 ht5 hsl
      go_wp2_with fail
      with_reducible refine (refpack_all w6 n _ _ _ L (R5.out.below b6) l1 e1 HPK1.out).mono ?_
      rintro e w7 ⟨a7, m7, c7, rfl, rfl, o7, b7⟩
      have z7 := b7.size
      have r7 := R8.of_owns o7 (by omega)
      have r6 := R8.of_owns (own_below o6 b7) (by omega)
      have BK7 := Lib.hid ((BK5.out.below b6).below b7)
      have O7 := Lib.hid (own_below (own_below O6.out b6) b7)
      have B7 := Lib.hid ((B5.out.trans (b6.mono (by omega))).trans (b7.mono (by omega)))
      clear o6 b6 o7 b7 BK5 R5 O6 B5
      go_wp2_with fail
      with_reducible refine (same_any w7 _ _ _ _ _ _ l1 l1 r6 r7 true (by simp)).mono ?_
      rintro e w' ⟨rfl, q1, rfl⟩
      clear r6 r7
      go_wp2_with fail
      have O7d : (w7.drewN q1).ownsRow B 5 1 (.slice (some ⟨g, 0, none⟩) (m + 80) (m + 80)) (m + 80) (X.map b8) := O7.out
      with_reducible refine (keep_any (w7.drewN q1) B gb ls ws ds (BK7.out.oth (fun _ => rfl)) (by omega) _ _ _ X O7d (by omega) (fun x hx => ?_)).mono ?_
      · cases hxb : x.ownBlock with
        | none => exact .inl rfl
        | some k =>
          right
          intro e
          have := (HLS.out x hx k hxb).2
          exact this (by simpa [Value.ownBlock] using e)
      rintro e w8 ⟨rfl, ⟨u, k, -, bk8⟩, b8', -⟩
      have B8 := Lib.hid ((below_drewN B7.out q1).trans b8')
      clear BK7 O7 B7 b8'
      go_wp2_with fail
      with_reducible refine (apart_any w8 B gb _ _ _ bk8 (by simp; omega)).mono ?_
      rintro e w9 ⟨rfl, b9⟩
      clear bk8
      go_wp2
      go_ret
      refine ⟨rfl, ?_⟩
      have := B8.out.trans b9
      rwa [HBB.out] at this
end Go.Proofs.YtdepdediggokgaaDoor
