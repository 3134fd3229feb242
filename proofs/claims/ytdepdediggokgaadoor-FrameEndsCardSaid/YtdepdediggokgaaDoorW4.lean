import Derived.Test.YtdepdediggokgaaDoorW3
namespace Go.Proofs.YtdepdediggokgaaDoor
open Go.RowKit
set_option linter.unusedVariables false
def wholeF (n : Nat) (l : List UInt8) : Nat × Nat :=
  if l.length = 0 then (0, 40)
  else if l.getD 0 0 ≠ 209 ∨ 65536 < lenL l then (0, 41)
  else if l.length ≤ 5 then (0, 40)
  else if rightB (l.drop 5) (crc (l.take 5)) = false then (0, 41)
  else if l.length < 9 + lenL l then (0, 40)
  else if rightB (l.drop (9 + lenL l)) (crc (be 8 n ++ (l.drop 9).take (lenL l))) = false then (0, 41)
  else if l.length < lenL l + 13 then (0, 40)
  else (lenL l, 0)

theorem Calls.flip {P : Program} {f : FuncId} {args : Array Value} {w : World} {v : Value} (h : Calls P f args w fun e w' => e = .returned v ∧ w = w') : Calls P f args w fun e w' => e = .returned v ∧ w' = w :=
  h.mono fun _ _ ⟨a, b⟩ => ⟨a, b.symm⟩
theorem ne209 (x : UInt8) (h : x ≠ 209) : ((x.toNat : Int) == 209) = false := by
  have : x.toNat ≠ 209 := fun e => h (UInt8.toNat_inj.1 e)
  simp; omega
theorem HalfTab.drewN {w : World} (h : HalfTab w) (n : Nat) : HalfTab (w.drewN n) := h

set_option maxRecDepth 100000 in
set_option maxHeartbeats 2000000 in
theorem whole_any (w : World) (n : Nat) (hn : n < 1099511627776) (a : Option Addr) (m c : Nat) (l : List UInt8) (h : R8 w a m c l) (ht : HalfTab w) (h0 : 0 < w.heap.size) (wn we : Nat) (hr : wholeF n l = (wn, we)) :
    Calls Tryd.prog 38 #[.int .i64 (n : Int), .slice a m c] w fun e w' => e = .returned (.tuple #[.int .i64 (wn : Int), .int .i64 (we : Int)]) ∧ Below w.heap.size w w' := by
  have hm := h.2.2.1
  have hmc := h.2.1
  have hlen := Lib.hid h.1
  have hn1 : decide ((n:Int) < 0) = false := by simp
  have hn2 : decide (1099511627776 ≤ (n:Int)) = false := by simp; omega
  unfold wholeF at hr
  rw [hlen.out] at hr
  by_cases c1 : m = 0
  · rw [if_pos c1] at hr
    obtain ⟨rfl, rfl⟩ := Prod.mk.inj hr
    subst c1
    clear h hr
    go_enter Tryd.func38, Tryd.ntmps38
    go_wp2
    go_ret2
    exact ⟨rfl, Below.refl _ _⟩
  rw [if_neg c1] at hr
  obtain ⟨b, off, x, rfl, hl, hc⟩ := h.at (i := 0) (by omega)
  simp only [Nat.add_zero] at hc
  have hx : l.getD 0 0 = x := by simp [List.getD, hl]
  have hm0 : (0 : Int) < (m : Int) := by omega
  have hmz : ((m : Int) == 0) = false := by simpa using c1
  have hL := Lib.hid (length_any w _ _ _ l h)
  have hLb := lenK_lt l 4
  rw [show lenK l 4 = lenL l from rfl] at hLb
  rw [hx] at hr
  generalize lenL l = q at *
  by_cases c2 : x ≠ 209 ∨ 65536 < q
  · rw [if_pos c2] at hr
    obtain ⟨rfl, rfl⟩ := Prod.mk.inj hr
    clear hr hl
    by_cases c3 : x = 209
    · subst c3
      have hq : 65536 < q := by simpa using c2
      have hqd : decide ((65536 : Int) < (q : Int)) = true := by simp; omega
      clear c2 h hq hLb
      rw [show (((209 : UInt8).toNat : Nat) : Int) = 209 from rfl] at hc
      go_enter Tryd.func38, Tryd.ntmps38
      go_wp2_with (go_at_call 46; with_reducible refine hL.out.mono ?_; rintro e w' ⟨rfl, rfl⟩)
      go_ret2
      exact ⟨rfl, Below.refl _ _⟩
    · have h1 := ne209 x c3
      have h2 : ((x.toNat : Int) != 209) = true := by simp [bne, h1]
      clear c2 h hLb
      go_enter Tryd.func38, Tryd.ntmps38
      go_wp2_with (go_at_call 46; with_reducible refine hL.out.mono ?_; rintro e w' ⟨rfl, rfl⟩)
      go_ret2
      exact ⟨rfl, Below.refl _ _⟩
  rw [if_neg c2] at hr
  obtain ⟨rfl, hq⟩ : x = 209 ∧ q ≤ 65536 := by
    by_cases e : x = 209
    · exact ⟨e, by have : ¬ 65536 < q := fun h => c2 (.inr h); omega⟩
    · exact absurd (.inl e) c2
  have hqd : decide ((65536 : Int) < (q : Int)) = false := by simp; omega
  have hqi : q ≤ 281474976710656 := by omega
  clear c2 hLb hl hx hq
  rw [show (((209 : UInt8).toNat : Nat) : Int) = 209 from rfl] at hc
  by_cases c3 : m ≤ 5
  · rw [if_pos c3] at hr
    obtain ⟨rfl, rfl⟩ := Prod.mk.inj hr
    clear hr h
    go_enter Tryd.func38, Tryd.ntmps38
    go_wp2_with (go_at_call 46; with_reducible refine hL.out.mono ?_; rintro e w' ⟨rfl, rfl⟩)
    go_ret2
    exact ⟨rfl, Below.refl _ _⟩
  rw [if_neg c3] at hr
  have hs1 := fun wx => slice_from (P := Tryd.prog) sl22 wx (some ⟨b, off, none⟩) m c 5 5 rfl (by omega)
  have r5 := h.take 5 (by omega)
  have d5 := h.dropA 5 (by omega)
  have k5 := Lib.hid (fun k => crc_any (w.drewN k) _ _ _ _ (r5.drewN k) (ht.drewN k))
  by_cases c4 : rightB (l.drop 5) (crc (l.take 5)) = false
  · rw [if_pos c4] at hr
    obtain ⟨rfl, rfl⟩ := Prod.mk.inj hr
    have q5 := fun k => right_any (w.drewN k) _ _ _ _ _ (d5.drewN k) _ c4
    unfold crc at q5
    have Q5 := Lib.hid q5
    clear q5
    clear hr h c4
    go_enter Tryd.func38, Tryd.ntmps38
    go_wp2_with (go_at_call 46; with_reducible refine hL.out.mono ?_; rintro e w' ⟨rfl, rfl⟩)
    go_quiet ((first | (go_at_call 11; exact Calls.quiet_of_same (Calls.flip (k5.out _))) | (go_at_call 47; exact Calls.quiet_of (Q5.out _))))
    go_wp2
    go_ret2
    exact ⟨rfl, below_drewN (Below.refl _ _) _⟩
  rw [if_neg c4] at hr
  have c4' : rightB (l.drop 5) (crc (l.take 5)) = true := by simpa using c4
  have q5 := fun k => right_any (w.drewN k) _ _ _ _ _ (d5.drewN k) _ c4'
  unfold crc at q5
  have Q5 := Lib.hid q5
  clear q5 c4 c4'
  have hq := of_decide_eq_false hqd
  have hq' : q ≤ 65536 := by omega
  by_cases c5 : m < 9 + q
  · rw [if_pos c5] at hr
    obtain ⟨rfl, rfl⟩ := Prod.mk.inj hr
    clear hr h hq hq'
    go_enter Tryd.func38, Tryd.ntmps38
    go_wp2_with (go_at_call 46; with_reducible refine hL.out.mono ?_; rintro e w' ⟨rfl, rfl⟩)
    go_quiet ((first | (go_at_call 11; exact Calls.quiet_of_same (Calls.flip (k5.out _))) | (go_at_call 47; exact Calls.quiet_of (Q5.out _))))
    go_wp2
    go_ret2
    exact ⟨rfl, below_drewN (Below.refl _ _) _⟩
  rw [if_neg c5] at hr
  have hs2 := fun wx => slice_from (P := Tryd.prog) sl22 wx (some ⟨b, off, none⟩) m c (9 + q) (9 + (q : Int)) (by omega) (by omega)
  have hs3 := fun wx => slice_mid (P := Tryd.prog) sl22 wx (some ⟨b, off, none⟩) m c 9 (9 + q) 9 (9 + (q : Int)) rfl (by omega) (by omega) (by omega)
  have hw9 : IntKind.i64.wrap (9 + (q : Int)) = 9 + (q : Int) := by simp [IntKind.wrap, IntKind.bits, IntKind.signed]; omega
  have d9 := h.dropA (9 + q) (by omega)
  have m9 := h.mid 9 (9 + q) (by omega) (by omega)
  rw [show 9 + q - 9 = q by omega] at m9 hs3
  clear hq hq'
  by_cases c6 : rightB (l.drop (9 + q)) (crc (be 8 n ++ (l.drop 9).take q)) = false
  · rw [if_pos c6] at hr
    obtain ⟨rfl, rfl⟩ := Prod.mk.inj hr
    have Hc6 := Lib.hid c6
    clear hr h c6
    go_enter Tryd.func38, Tryd.ntmps38
    go_wp2_with (go_at_call 46; with_reducible refine hL.out.mono ?_; rintro e w' ⟨rfl, rfl⟩)
    go_quiet ((first | (go_at_call 11; exact Calls.quiet_of_same (Calls.flip (k5.out _))) | (go_at_call 47; exact Calls.quiet_of (Q5.out _))))
    go_wp2
    go_region_held3 (fun _ => True) (trivial) (first
      | (go_at_call 36; refine (outer_any _ n (by omega) _ _ _ _ (m9.drewN _) (ht.drewN _) h0).mono ?_; rintro e w8 ⟨rfl, hb8⟩)
      | (go_at_call 47; refine (right_any _ _ _ _ _ _ (R8.below (d9.drewN _) hb8) _ Hc6.out).mono ?_; rintro e w9 ⟨rfl, n9, rfl⟩))
    go_wp2
    go_ret2
    exact ⟨rfl, below_drewN ((below_drewN (Below.refl _ _) _).trans hb8) _⟩
  rw [if_neg c6] at hr
  have c6' : rightB (l.drop (9 + q)) (crc (be 8 n ++ (l.drop 9).take q)) = true := by simpa using c6
  have Hc6 := Lib.hid c6'
  have hw13 : IntKind.i64.wrap ((q : Int) + 13) = (q : Int) + 13 := by simp [IntKind.wrap, IntKind.bits, IntKind.signed]; omega
  clear c6 c6'
  by_cases c7 : m < q + 13
  · rw [if_pos c7] at hr
    obtain ⟨rfl, rfl⟩ := Prod.mk.inj hr
    clear hr h
    go_enter Tryd.func38, Tryd.ntmps38
    go_wp2_with (go_at_call 46; with_reducible refine hL.out.mono ?_; rintro e w' ⟨rfl, rfl⟩)
    go_quiet ((first | (go_at_call 11; exact Calls.quiet_of_same (Calls.flip (k5.out _))) | (go_at_call 47; exact Calls.quiet_of (Q5.out _))))
    go_wp2
    go_region_held3 (fun _ => True) (trivial) (first
      | (go_at_call 36; refine (outer_any _ n (by omega) _ _ _ _ (m9.drewN _) (ht.drewN _) h0).mono ?_; rintro e w8 ⟨rfl, hb8⟩)
      | (go_at_call 47; refine (right_any _ _ _ _ _ _ (R8.below (d9.drewN _) hb8) _ Hc6.out).mono ?_; rintro e w9 ⟨rfl, n9, rfl⟩))
    go_wp2
    go_ret2
    exact ⟨rfl, below_drewN ((below_drewN (Below.refl _ _) _).trans hb8) _⟩
  · rw [if_neg c7] at hr
    obtain ⟨rfl, rfl⟩ := Prod.mk.inj hr
    clear hr h
    go_enter Tryd.func38, Tryd.ntmps38
    go_wp2_with (go_at_call 46; with_reducible refine hL.out.mono ?_; rintro e w' ⟨rfl, rfl⟩)
    go_quiet ((first | (go_at_call 11; exact Calls.quiet_of_same (Calls.flip (k5.out _))) | (go_at_call 47; exact Calls.quiet_of (Q5.out _))))
    go_wp2
    go_region_held3 (fun _ => True) (trivial) (first
      | (go_at_call 36; refine (outer_any _ n (by omega) _ _ _ _ (m9.drewN _) (ht.drewN _) h0).mono ?_; rintro e w8 ⟨rfl, hb8⟩)
      | (go_at_call 47; refine (right_any _ _ _ _ _ _ (R8.below (d9.drewN _) hb8) _ Hc6.out).mono ?_; rintro e w9 ⟨rfl, n9, rfl⟩))
    go_wp2
    go_ret2
    exact ⟨rfl, below_drewN ((below_drewN (Below.refl _ _) _).trans hb8) _⟩
theorem whole_arg (w : World) (n : Int) (hn : n < 0 ∨ 1099511627776 ≤ n) (a : Option Addr) (m c : Nat) :
    Calls Tryd.prog 38 #[.int .i64 n, .slice a m c] w fun e w' => e = .returned (.tuple #[.int .i64 0, .int .i64 1]) ∧ w = w' := by
  by_cases h0 : n < 0
  · clear hn
    go_enter Tryd.func38, Tryd.ntmps38
    go_wp2
    go_ret2
    exact ⟨rfl, rfl⟩
  · have h1 : decide (n < 0) = false := by simp; omega
    have h2 : decide (1099511627776 ≤ n) = true := by simp; omega
    clear hn h0
    go_enter Tryd.func38, Tryd.ntmps38
    go_wp2
    go_ret2
    exact ⟨rfl, rfl⟩
end Go.Proofs.YtdepdediggokgaaDoor
