import Derived.Test.YtdepdediggokgaaDoorE2
import Derived.Test.YtdepdediggokgaaDoorL8
namespace Go.Proofs.YtdepdediggokgaaDoor
open Go.RowKit
set_option linter.unusedVariables false
theorem refunpackI_any (w : World) (n : Int) (a : Option Addr) (m c : Nat) (l : List UInt8) (h : R8 w a m c l) (q e : Nat) (hr : wholeI n l = (q, e)) :
    Calls Tryd.prog 41 #[.int .i64 n, .slice a m c] w fun x w' => UnpOut x a c q e ∧ Below w.heap.size w w' := by
  unfold wholeI at hr
  by_cases hn : n < 0 ∨ 1099511627776 ≤ n
  · rw [if_pos hn] at hr
    obtain ⟨rfl, rfl⟩ := Prod.mk.inj hr
    exact (refunpack_arg w n hn a m c).mono fun _ _ ⟨he, hw⟩ => ⟨⟨_, _, he, by omega⟩, hw ▸ Below.refl _ _⟩
  · rw [if_neg hn] at hr
    have := refunpack_any w n.toNat (by omega) a m c l h q e hr
    rwa [show ((n.toNat : Nat) : Int) = n by omega] at this
/-- The records of the whole frames. -/
def recsF : Nat → Int → List UInt8 → List (List UInt8)
  | 0, _, _ => []
  | f + 1, n, l =>
    if l.length = 0 then []
    else if (wholeI n l).2 = 0 then (l.drop 9).take (wholeI n l).1 :: recsF f (n + 1) (l.drop ((wholeI n l).1 + 13))
    else []
def RecRel (F : Nat) (n : Int) (l : List UInt8) (k at_ : Nat) (ps : List (List UInt8)) : Prop :=
  ps.length = k ∧ ∃ F', (l.drop at_).length < F' ∧ recsF F n l = ps ++ recsF F' (n + k) (l.drop at_)
theorem RecRel.start (n : Int) (l : List UInt8) : RecRel (l.length + 1) n l 0 0 [] := ⟨rfl, l.length + 1, by simp, by simp⟩
theorem RecRel.stop {F : Nat} {n : Int} {l : List UInt8} {k at_ : Nat} {ps : List (List UInt8)} (h : RecRel F n l k at_ ps) (he : l.length ≤ at_) : recsF F n l = ps := by
  obtain ⟨hk, F', h1, h2⟩ := h
  rw [h2]
  cases F' with
  | zero => omega
  | succ f =>
    have : (l.drop at_).length = 0 := by simp; omega
    simp only [recsF, if_pos this, List.append_nil]
theorem RecRel.refused {F : Nat} {n : Int} {l : List UInt8} {k at_ q e : Nat} {ps : List (List UInt8)} (h : RecRel F n l k at_ ps) (hl : at_ < l.length) (he : e ≠ 0) (hw : wholeI (n + k) (l.drop at_) = (q, e)) : recsF F n l = ps := by
  obtain ⟨hk, F', h1, h2⟩ := h
  rw [h2]
  cases F' with
  | zero => omega
  | succ f =>
    have : ¬ (l.drop at_).length = 0 := by simp; omega
    simp only [recsF, if_neg this, hw, if_neg he, List.append_nil]
theorem RecRel.next {F : Nat} {n : Int} {l : List UInt8} {k at_ q : Nat} {ps : List (List UInt8)} (h : RecRel F n l k at_ ps) (hl : at_ < l.length) (hw : wholeI (n + k) (l.drop at_) = (q, 0)) : RecRel F n l (k + 1) (at_ + (q + 13)) (ps ++ [((l.drop at_).drop 9).take q]) := by
  obtain ⟨hk, F', h1, h2⟩ := h
  cases F' with
  | zero => omega
  | succ f =>
    have : ¬ (l.drop at_).length = 0 := by simp; omega
    refine ⟨by simp [hk], f, by simp at h1 ⊢; omega, ?_⟩
    rw [h2]
    simp only [recsF, if_neg this, hw, if_true, List.append_assoc, List.singleton_append]
    rw [show n + (k : Int) + 1 = n + ((k + 1 : Nat) : Int) by omega]
    rw [List.drop_drop (i := q + 13)]

/-- Values that are slices of bytes, each of which can be read. -/
def Vals (w : World) (vs : List Value) (ps : List (List UInt8)) : Prop :=
  vs.length = ps.length ∧ ∀ (i : Nat) (v : Value) (p : List UInt8), vs[i]? = some v → ps[i]? = some p → ∃ a' n' c', v = Value.slice a' n' c' ∧ R8 w a' n' c' p
theorem Vals.snoc {w : World} {vs : List Value} {ps : List (List UInt8)} {a : Option Addr} {n c : Nat} {p : List UInt8} (h : Vals w vs ps) (hr : R8 w a n c p) : Vals w (vs ++ [.slice a n c]) (ps ++ [p]) := by
  refine ⟨by simp [h.1], fun i v q hv hq => ?_⟩
  rcases Nat.lt_trichotomy i ps.length with hi | hi | hi
  · rw [List.getElem?_append_left (by have := h.1; omega)] at hv
    rw [List.getElem?_append_left hi] at hq
    exact h.2 i v q hv hq
  · rw [List.getElem?_append_right (by have := h.1; omega)] at hv
    rw [List.getElem?_append_right (by omega)] at hq
    rw [h.1] at hv
    simp [hi] at hv hq
    subst hv hq
    exact ⟨_, _, _, rfl, hr⟩
  · rw [List.getElem?_eq_none (by simp; omega)] at hq
    cases hq
theorem Vals.below {w w' : World} {vs : List Value} {ps : List (List UInt8)} (h : Vals w vs ps) (hb : Below w.heap.size w w') : Vals w' vs ps :=
  ⟨h.1, fun i v p hv hp => by obtain ⟨a, n, c, e, hr⟩ := h.2 i v p hv hp; exact ⟨a, n, c, e, hr.below hb⟩⟩
theorem sl32' : Sl Tryd.prog 32 22 (.slice none 0 0) 1 24 := sl32

/-- What the reference's End answers. -/
def EndOut (x : Ending) (w w' : World) (k at_ why : Nat) (ps : List (List UInt8)) : Prop :=
  ∃ a c vs, x = .returned (.tuple #[.slice a k c, .int .i64 (at_ : Int), .int .i64 (why : Int)]) ∧ w'.ownsRow w.heap.size 22 1 (.slice a k c) k vs ∧ Vals w vs ps

set_option maxRecDepth 100000 in
set_option maxHeartbeats 2000000 in
theorem refend_any (w : World) (n : Int) (hn : -9223372036854775808 ≤ n ∧ n ≤ 9223372036854775807) (a : Option Addr) (m c : Nat) (l : List UInt8) (h : R8 w a m c l) (k at_ why : Nat) (hr : endF (l.length + 1) n l = (k, at_, why)) :
    Calls Tryd.prog 27 #[.int .i64 n, .slice a m c] w fun x w' => EndOut x w w' k at_ why (recsF (l.length + 1) n l) ∧ Below w.heap.size w w' := by
  have hm := h.2.2.1
  have hmc := h.2.1
  have hlen := Lib.hid h.1
  have HR := Lib.hid h
  have Hr := Lib.hid hr; clear hr
  have Hn := Lib.hid hn; clear hn
  go_enter Tryd.func27, Tryd.ntmps27
  go_wp2
  go_loopw [7, 8, 9, 10, 11] (fun x y _ _ _ wr => ∃ k at_ : Nat, at_ ≤ m ∧ 13 * k ≤ at_ ∧ (k = 0 ∨ (0 ≤ n ∧ n + k ≤ 1099511627776)) ∧ y = .int .i64 at_ ∧ EndRel (l.length + 1) n l k at_ ∧ Below w.heap.size w wr ∧ ∃ a c vs ps, x = .slice a k c ∧ wr.ownsRow w.heap.size 22 1 (.slice a k c) k vs ∧ Vals w vs ps ∧ RecRel (l.length + 1) n l k at_ ps) (fun _ y _ _ _ _ => m - (intOf y).toNat)
  case atStart => exact ⟨0, 0, by omega, by omega, .inl rfl, rfl, EndRel.start _ _, Below.refl _ _, none, 0, [], [], rfl, World.ownsRow_nil _ _ _ _, ⟨rfl, fun i v p h => by simp at h⟩, RecRel.start _ _⟩
  case round =>
    obtain ⟨k1, at1, hat, hk1, hkn, rfl, hE, hb, a1, c1, vs, ps, rfl, ho, hv, hrr⟩ := hrel
    have HE := Lib.hid hE; clear hE
    have HK := Lib.hid hkn; clear hkn
    have HO := Lib.hid ho; clear ho
    have HV := Lib.hid hv; clear hv
    have HRR := Lib.hid hrr; clear hrr
    by_cases hlt : at1 < m
    · have hsz := hb.size
      have hd0 := HR.out.dropA at1 (by omega)
      have hd := Lib.hid (hd0.below hb)
      have HD0 := Lib.hid hd0
      have hs := fun wx => slice_from (P := Tryd.prog) sl22 wx a m c at1 at1 rfl (by omega)
      obtain ⟨x, hx, hxx⟩ : ∃ x : Int, x = n + k1 ∧ IntKind.i64.wrap (n + (k1 : Int)) = x := by
        refine ⟨_, rfl, ?_⟩
        have := HK.out; have := Hn.out
        simp [IntKind.wrap, IntKind.bits, IntKind.signed]; omega
      obtain ⟨q, e, hqe⟩ : ∃ q e, wholeI x (l.drop at1) = (q, e) := ⟨_, _, rfl⟩
      have HX := Lib.hid hx; have HQ := Lib.hid hqe
      have hk64 : k1 ≤ 281474976710656 := by omega
      clear hx hqe hd0
      have Hb := Lib.hid hb
      clear hb h
      go_wp2_with fail
      with_reducible refine (refunpackI_any _ x _ _ _ _ hd.out q e HQ.out).mono ?_
      rintro r w2 ⟨⟨v, kk, rfl, hvk⟩, hb2⟩
      have HO2 := Lib.hid (own_below HO.out hb2)
      have Hb2 := Lib.hid (Hb.out.trans (hb2.mono hsz)); clear hb2
      have z2 := Hb2.out.size
      by_cases he : e = 0
      · subst he
        obtain ⟨rfl, rfl⟩ := hvk rfl
        obtain ⟨-, hq1, hq2, hx0, hx1⟩ := wholeI_le _ _ _ HQ.out
        simp only [List.length_drop] at hq2
        have hq3 : at1 + (q + 13) ≤ m := by have := hlen.out; omega
        have hq4 : q ≤ 281474976710656 := by omega
        have hnx := Lib.hid (EndRel.next HE.out (by have := hlen.out; omega) (by rw [← HX.out]; exact HQ.out))
        have hrx := Lib.hid (HRR.out.next (by have := hlen.out; omega) (by rw [← HX.out]; exact HQ.out))
        have Hkn := Lib.hid (show 0 ≤ n ∧ n + ((k1 + 1 : Nat) : Int) ≤ 1099511627776 by
          have := HX.out; have := HK.out
          omega)
        have rr := HD0.out.mid 9 (9 + q) (by omega) (by omega)
        rw [Nat.add_sub_cancel_left] at rr
        have HVS := Lib.hid (HV.out.snoc rr)
        clear hq1 hq2 hx0 hx1 rr hvk
        have hkb : k1 + 1 ≤ 1099511627777 := by have := Hkn.out; omega
        go_wp2_with (first
          | (at_builtin; refine L_appendV rfl _ _ _ rfl sl32 w.heap.size (.slice a1 k1 c1) k1 vs rfl (HO2.out.alloc _) (some ⟨w2.heap.size, 0, none⟩) 1 1 [.slice (dropA (dropA a at1 c) 9 (c - at1)) q (c - at1 - 9)] rfl (RV.lit _ 22 _ _ 1 rfl (by omega) _ rfl) (by simp [Value.oneCell']) (by omega) (by simp [maxLen]; omega) (by simp; omega) (fun a5 c5 w5 ho5 hg5 hat5 => ?_)
             have Hb5 := Lib.hid (below_app (Hb2.out.alloc (by omega) _) (by simp; omega) (HO2.out.alloc _) hg5)
             have HO5 := Lib.hid ho5
             clear ho5 hg5 hat5))
        refine ⟨⟨k1 + 1, at1 + (q + 13), hq3, by omega, .inr Hkn.out, by go_num, hnx.out, Hb5.out, a5, c5, _, _, rfl, HO5.out, HVS.out, hrx.out⟩, by simp [intOf]; omega⟩
      · have hne : ((e : Int) == 0) = false := by simpa using he
        have hne' : ((e : Int) != 0) = true := by simpa using he
        have hno := HE.out.refused (by have := hlen.out; omega) he (by rw [← HX.out]; exact HQ.out)
        have hrn := Lib.hid (HRR.out.refused (by have := hlen.out; omega) he (by rw [← HX.out]; exact HQ.out))
        obtain ⟨rfl, h2⟩ := Prod.mk.inj (Hr.out.symm.trans hno)
        obtain ⟨rfl, rfl⟩ := Prod.mk.inj h2
        clear hno h2 hvk
        go_wp2
        go_ret3
        exact ⟨⟨a1, c1, vs, rfl, HO2.out, by rw [hrn.out]; exact HV.out⟩, Hb2.out⟩
    · have hno := HE.out.stop (by have := hlen.out; omega)
      have hrn := Lib.hid (HRR.out.stop (by have := hlen.out; omega))
      obtain ⟨rfl, h2⟩ := Prod.mk.inj (Hr.out.symm.trans hno)
      obtain ⟨rfl, rfl⟩ := Prod.mk.inj h2
      clear hno h2
      go_wp2
      go_ret3
      exact ⟨⟨a1, c1, vs, rfl, HO.out, by rw [hrn.out]; exact HV.out⟩, hb⟩
end Go.Proofs.YtdepdediggokgaaDoor
