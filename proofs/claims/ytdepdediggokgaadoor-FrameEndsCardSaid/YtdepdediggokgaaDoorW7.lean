import Derived.Test.YtdepdediggokgaaDoorW6
namespace Go.Proofs.YtdepdediggokgaaDoor
open Go.RowKit
set_option linter.unusedVariables false
def wholeI (n : Int) (l : List UInt8) : Nat × Nat := if n < 0 ∨ 1099511627776 ≤ n then (0, 1) else wholeF n.toNat l
/-- How many frames, how many bytes, why no further. -/
def endF : Nat → Int → List UInt8 → Nat × Nat × Nat
  | 0, _, _ => (0, 0, 0)
  | f + 1, n, l =>
    if l.length = 0 then (0, 0, 0)
    else if (wholeI n l).2 = 0 then
      let r := endF f (n + 1) (l.drop ((wholeI n l).1 + 13))
      (r.1 + 1, r.2.1 + ((wholeI n l).1 + 13), r.2.2)
    else (0, 0, (wholeI n l).2)
theorem wholeI_any (w : World) (n : Int) (a : Option Addr) (m c : Nat) (l : List UInt8) (h : R8 w a m c l) (ht : HalfTab w) (h0 : 0 < w.heap.size) (wn we : Nat) (hr : wholeI n l = (wn, we)) :
    Calls Tryd.prog 38 #[.int .i64 n, .slice a m c] w fun e w' => e = .returned (.tuple #[.int .i64 (wn : Int), .int .i64 (we : Int)]) ∧ Below w.heap.size w w' := by
  unfold wholeI at hr
  by_cases hn : n < 0 ∨ 1099511627776 ≤ n
  · rw [if_pos hn] at hr
    obtain ⟨rfl, rfl⟩ := Prod.mk.inj hr
    exact (whole_arg w n hn a m c).mono fun _ _ ⟨he, hw⟩ => ⟨he, hw ▸ Below.refl _ _⟩
  · rw [if_neg hn] at hr
    have := whole_any w n.toNat (by omega) a m c l h ht h0 wn we hr
    rwa [show ((n.toNat : Nat) : Int) = n by omega] at this
theorem wholeI_le (n : Int) (l : List UInt8) (q : Nat) (h : wholeI n l = (q, 0)) : q = lenL l ∧ q ≤ 65536 ∧ q + 13 ≤ l.length ∧ 0 ≤ n ∧ n < 1099511627776 := by
  unfold wholeI at h
  split at h
  · cases h
  · obtain ⟨h1, h2, h3⟩ := whole_le _ _ _ h
    exact ⟨h1, h2, h3, by omega, by omega⟩

/-- What the loop holds: so far k frames of at bytes; the rest tells the rest. -/
def EndRel (F : Nat) (n : Int) (l : List UInt8) (k at_ : Nat) : Prop :=
  ∃ F', (l.drop at_).length < F' ∧ endF F n l = ((endF F' (n + k) (l.drop at_)).1 + k, (endF F' (n + k) (l.drop at_)).2.1 + at_, (endF F' (n + k) (l.drop at_)).2.2)
theorem EndRel.start (n : Int) (l : List UInt8) : EndRel (l.length + 1) n l 0 0 := ⟨l.length + 1, by simp, by simp⟩
theorem EndRel.stop {F : Nat} {n : Int} {l : List UInt8} {k at_ : Nat} (h : EndRel F n l k at_) (he : l.length ≤ at_) : endF F n l = (k, at_, 0) := by
  obtain ⟨F', h1, h2⟩ := h
  rw [h2]
  cases F' with
  | zero => omega
  | succ f =>
    have : (l.drop at_).length = 0 := by simp; omega
    simp only [endF, if_pos this]
    simp
theorem EndRel.refused {F : Nat} {n : Int} {l : List UInt8} {k at_ q e : Nat} (h : EndRel F n l k at_) (hl : at_ < l.length) (he : e ≠ 0) (hw : wholeI (n + k) (l.drop at_) = (q, e)) : endF F n l = (k, at_, e) := by
  obtain ⟨F', h1, h2⟩ := h
  rw [h2]
  cases F' with
  | zero => omega
  | succ f =>
    have : ¬ (l.drop at_).length = 0 := by simp; omega
    simp only [endF, if_neg this, hw, if_neg he]
    simp
theorem EndRel.next {F : Nat} {n : Int} {l : List UInt8} {k at_ q : Nat} (h : EndRel F n l k at_) (hl : at_ < l.length) (hw : wholeI (n + k) (l.drop at_) = (q, 0)) : EndRel F n l (k + 1) (at_ + (q + 13)) := by
  obtain ⟨F', h1, h2⟩ := h
  cases F' with
  | zero => omega
  | succ f =>
    have : ¬ (l.drop at_).length = 0 := by simp; omega
    refine ⟨f, by simp at h1 ⊢; omega, ?_⟩
    rw [h2]
    simp only [endF, if_neg this, hw, if_true, List.drop_drop]
    rw [show n + (k : Int) + 1 = n + ((k + 1 : Nat) : Int) by omega]
    rw [Nat.add_assoc, Nat.add_comm 1 k, Nat.add_assoc, Nat.add_comm (q + 13) at_]

set_option maxRecDepth 100000 in
set_option maxHeartbeats 1000000 in
theorem end_any (w : World) (n : Int) (hn : -9223372036854775808 ≤ n ∧ n ≤ 9223372036854775807) (a : Option Addr) (m c : Nat) (l : List UInt8) (h : R8 w a m c l) (ht : HalfTab w) (h0 : 0 < w.heap.size) (k at_ why : Nat) (hr : endF (l.length + 1) n l = (k, at_, why)) :
    Calls Tryd.prog 25 #[.int .i64 n, .slice a m c] w fun e w' => e = .returned (.tuple #[.int .i64 (k : Int), .int .i64 (at_ : Int), .int .i64 (why : Int)]) ∧ Below w.heap.size w w' := by
  have hm := h.2.2.1
  have hmc := h.2.1
  have hlen := Lib.hid h.1
  have Hr := Lib.hid hr; clear hr
  have Hn := Lib.hid hn; clear hn
  go_enter Tryd.func25, Tryd.ntmps25
  go_wp2
  go_step3
  go_wp2
  go_step3
  go_wp2
  go_loopw [7, 8, 9, 10, 11] (fun x y z _ _ wr => ∃ k at_ : Nat, at_ ≤ m ∧ k ≤ at_ ∧ (k = 0 ∨ (0 ≤ n ∧ n + k ≤ 1099511627776)) ∧ x = .int .i64 k ∧ y = .int .i64 at_ ∧ z = .int .i64 0 ∧ EndRel (l.length + 1) n l k at_ ∧ Below w.heap.size w wr) (fun _ y _ _ _ _ => m - (intOf y).toNat)
  case atStart => exact ⟨0, 0, by omega, by omega, .inl rfl, rfl, rfl, rfl, EndRel.start _ _, Below.refl _ _⟩
  case round =>
    obtain ⟨k1, at1, hat, hk1, hkn, rfl, rfl, rfl, hE, hb⟩ := hrel
    have HE := Lib.hid hE; clear hE
    have HK := Lib.hid hkn; clear hkn
    by_cases hlt : at1 < m
    · have hsz := hb.size
      have hd := Lib.hid ((h.dropA at1 (by omega)).below hb)
      have hs := fun wx => slice_from (P := Tryd.prog) sl22 wx a m c at1 at1 rfl (by omega)
      obtain ⟨x, hx, hxx⟩ : ∃ x : Int, x = n + k1 ∧ IntKind.i64.wrap (n + (k1 : Int)) = x := by
        refine ⟨_, rfl, ?_⟩
        have := HK.out; have := Hn.out
        simp [IntKind.wrap, IntKind.bits, IntKind.signed]; omega
      obtain ⟨q, e, hqe⟩ : ∃ q e, wholeI x (l.drop at1) = (q, e) := ⟨_, _, rfl⟩
      have HX := Lib.hid hx; have HQ := Lib.hid hqe
      have hk64 : k1 ≤ 281474976710656 := by omega
      clear hx hqe
      have ht1 := ht.below hb h0
      have h01 : 0 < wr.heap.size := by omega
      have Hb := Lib.hid hb
      clear hb h ht
      go_wp2_with fail
      with_reducible refine (wholeI_any _ x _ _ _ _ hd.out ht1 h01 q e HQ.out).mono ?_
      rintro r w2 ⟨rfl, hb2⟩
      have Hb2 := Lib.hid (Hb.out.trans (hb2.mono hsz)); clear hb2
      by_cases he : e = 0
      · subst he
        obtain ⟨-, hq1, hq2, hx0, hx1⟩ := wholeI_le _ _ _ HQ.out
        simp only [List.length_drop] at hq2
        have hq3 : at1 + (q + 13) ≤ m := by have := hlen.out; omega
        have hq4 : q ≤ 281474976710656 := by omega
        have hnx := Lib.hid (EndRel.next HE.out (by have := hlen.out; omega) (by rw [← HX.out]; exact HQ.out))
        have Hkn := Lib.hid (show 0 ≤ n ∧ n + ((k1 + 1 : Nat) : Int) ≤ 1099511627776 by
          have := HX.out; have := HK.out
          omega)
        clear hq1 hq2 hx0 hx1
        go_wp2
        go_roundw
        case rel => exact ⟨k1 + 1, at1 + (q + 13), hq3, by omega, .inr Hkn.out, by go_num, by go_num, rfl, hnx.out, Hb2.out⟩
        case measure => simp [intOf]; omega
      · have hne : ((e : Int) == 0) = false := by simpa using he
        have hne' : ((e : Int) != 0) = true := by simpa using he
        have hno := HE.out.refused (by have := hlen.out; omega) he (by rw [← HX.out]; exact HQ.out)
        obtain ⟨rfl, h2⟩ := Prod.mk.inj (Hr.out.symm.trans hno)
        obtain ⟨rfl, rfl⟩ := Prod.mk.inj h2
        clear hno h2
        go_wp2
        rw [Exit.noGoto_ret]
        go_ret3
        exact ⟨rfl, Hb2.out⟩
    · have hno := HE.out.stop (by have := hlen.out; omega)
      obtain ⟨rfl, h2⟩ := Prod.mk.inj (Hr.out.symm.trans hno)
      obtain ⟨rfl, rfl⟩ := Prod.mk.inj h2
      clear hno h2
      go_wp2
      rw [Exit.noGoto_ret]
      go_ret3
      exact ⟨rfl, hb⟩
end Go.Proofs.YtdepdediggokgaaDoor
