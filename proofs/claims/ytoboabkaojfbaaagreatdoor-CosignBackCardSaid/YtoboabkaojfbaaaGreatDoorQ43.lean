import Derived.Test.YtoboabkaojfbaaaGreatDoorQ27
namespace Go.Proofs.YtoboabkaojfbaaaGreatDoor
open Go Go.RowKit
set_option maxRecDepth 100000
set_option maxHeartbeats 4000000
set_option linter.unusedVariables false
set_option linter.unusedSimpArgs false
/-! octet.Reader's Bytes, at most 9000. -/
def BtRet (w : World) (B gr : Nat) (s : Rs) (e : Ending) (w' : World) : Prop := ∃ a2 n2 c2, e = .returned (.slice a2 n2 c2) ∧ R8 w' a2 n2 c2 (rBytes 9000 s).1 ∧ RdG w' B gr (rBytes 9000 s).2 ∧ w.grownBy w' (some gr)
theorem bt_none {w w' : World} {B gr : Nat} {s : Rs} (e1 : (rBytes 9000 s).1 = []) (h2 : RdG w' B gr (rBytes 9000 s).2) (h3 : w.grownBy w' (some gr)) : BtRet w B gr s (.returned (.slice none 0 0)) w' :=
  ⟨none, 0, 0, rfl, by rw [e1]; exact r8_none _, h2, h3⟩
theorem bytes_gone (w : World) (B gr : Nat) (s : Rs) (h : RdG w B gr s) (hs : s.2 ≠ 0) : Calls Tryz.prog 101 #[.pointer (some ⟨gr, 0, none⟩), .int .i64 9000] w (BtRet w B gr s) := by
  have HH := Lib.hid h
  have HE := Lib.hid (show rBytes 9000 s = ([], s) by unfold rBytes; rw [if_pos hs])
  obtain ⟨a, n, c, l, p, hh, -⟩ := h
  have k2 : w.cell? ⟨gr, 2, none⟩ = some (.int .i64 (s.2 : Int)) := by rw [cell_of_row _ _ _ _ _ _ hh]; rfl
  have hz : ((s.2 : Int) == 0) = false := by simp; omega
  clear hh
  go_enter Tryz.func101, Tryz.ntmps101
  go_wp2_with fail
  go_ret
  exact bt_none (by rw [HE.out]) (by rw [HE.out]; exact HH.out) (grown_refl _ _)
theorem val4_lt (l : List UInt8) : valN (l.take 4) < 4294967296 := by
  have h1 := valN_lt (l.take 4)
  have h2 : (l.take 4).length ≤ 4 := List.length_take_le _ _
  have h3 : 256 ^ (l.take 4).length ≤ 256 ^ 4 := Nat.pow_le_pow_right (by decide) h2
  have h4 : (256 : Nat) ^ 4 = 4294967296 := by decide +kernel
  omega
theorem bytes_in (w : World) (B gr : Nat) (r : List UInt8) (h : RdG w B gr (r, 0)) : Calls Tryz.prog 101 #[.pointer (some ⟨gr, 0, none⟩), .int .i64 9000] w (BtRet w B gr (r, 0)) := by
  have HF8 := Lib.hid (fun x (hx : RdG x B gr (r, 0)) => refuse8 x B gr r hx)
  have HF6 := Lib.hid (refuse6 w B gr r h)
  have HH := Lib.hid h
  have HBD := Lib.hid (fun x => (show Calls Tryz.prog 146 #[.int .i64 9000, .int .i64 2147483647] x (fun e w' => e = .returned (.int .i64 9000) ∧ x = w') from (bound_any x 9000 (by omega)).mono fun e w' hq => ⟨hq.1, hq.2.symm⟩))
  obtain ⟨a, n, c, l, p, hh, hr, hap, hn, hpl, hrl, hB⟩ := h
  simp only at hrl
  have k0 : w.cell? ⟨gr, 0, none⟩ = some (.slice a n c) := by rw [cell_of_row _ _ _ _ _ _ hh]; rfl
  have k1 : w.cell? ⟨gr, 1, none⟩ = some (.int .i64 (p : Int)) := by rw [cell_of_row _ _ _ _ _ _ hh]; rfl
  have k2 : w.cell? ⟨gr, 2, none⟩ = some (.int .i64 0) := by rw [cell_of_row _ _ _ _ _ _ hh]; rfl
  have hrd : r.length = n - p := by rw [hrl, List.length_drop, hr.1]
  have hpn : p ≤ n := by have := hr.1; omega
  by_cases c1 : r.length < 4
  · have HE := Lib.hid (show rBytes 9000 (r, 0) = ([], (r, 8)) by unfold rBytes; rw [if_neg (by simp), if_pos c1])
    have HA := Lib.hid (ahead32_no w gr l p p ⟨a, n, c, hh, hr, hap, hn⟩ hpl (by have := hr.1; omega))
    have HH8 := Lib.hid (HF8.out w HH.out)
    clear hh hr hap hn hpl hrl hB hrd hpn c1
    go_enter Tryz.func101, Tryz.ntmps101
    go_wp2_with (first
      | (go_at_call 170; ((with_reducible refine HA.out.mono ?_); rintro e w' ⟨rfl, rfl⟩))
      | (go_at_call 167; ((with_reducible refine HH8.out.mono ?_); rintro e w' ⟨rfl, h2, h3⟩; have H2 := Lib.hid h2; have H3 := Lib.hid h3; clear h2 h3)))
    go_ret
    exact bt_none (by rw [HE.out]) (by rw [HE.out]; exact H2.out) H3.out
  · obtain ⟨v, hv⟩ : ∃ v, v = valN (r.take 4) := ⟨_, rfl⟩
    have hv4 : v < 4294967296 := by rw [hv]; exact val4_lt r
    have HA := Lib.hid (show Calls Tryz.prog 170 #[.pointer (some ⟨gr, 0, none⟩), .int .i64 (p : Int)] w (fun e w' => e = .returned (.tuple #[.int .u32 (v : Int), .int .i64 ((p : Int) + 4), .bool true]) ∧ w = w') by
      rw [hv, hrl]
      exact ahead_u32 w gr l p p ⟨a, n, c, hh, hr, hap, hn⟩ (by have := hr.1; omega))
    have hwv : IntKind.i64.wrap (v : Int) = (v : Int) := IntWalk.i64_in _ (by omega)
    by_cases c2 : 9000 < v
    · have HE := Lib.hid (show rBytes 9000 (r, 0) = ([], (r, 6)) by unfold rBytes; rw [if_neg (by simp), if_neg c1, if_pos (show 9000 < valN (r.take 4) by rw [← hv]; exact c2)])
      have d2 : decide ((9000 : Int) < (v : Int)) = true := by rw [decide_eq_true_eq]; omega
      clear hh hr hap hn hpl hrl hB hrd hpn c1 c2 hv hv4
      go_enter Tryz.func101, Tryz.ntmps101
      go_wp2_with (first
        | (go_at_call 170; ((with_reducible refine HA.out.mono ?_); rintro e w' ⟨rfl, rfl⟩))
        | (go_at_call 146; ((with_reducible refine (HBD.out _).mono ?_); rintro e w' ⟨rfl, rfl⟩))
        | (go_at_call 167; ((with_reducible refine HF6.out.mono ?_); rintro e w' ⟨rfl, h2, h3⟩; have H2 := Lib.hid h2; have H3 := Lib.hid h3; clear h2 h3)))
      go_ret
      exact bt_none (by rw [HE.out]) (by rw [HE.out]; exact H2.out) H3.out
    · have d2 : decide ((9000 : Int) < (v : Int)) = false := by rw [decide_eq_false_iff_not]; omega
      have hws : IntKind.i64.wrap ((n : Int) - ((p : Int) + 4)) = (n : Int) - ((p : Int) + 4) := IntWalk.i64_in _ (by omega)
      by_cases c3 : (r.drop 4).length < v
      · have HE := Lib.hid (show rBytes 9000 (r, 0) = ([], (r, 8)) by unfold rBytes; rw [if_neg (by simp), if_neg c1, if_neg (show ¬ 9000 < valN (r.take 4) by rw [← hv]; exact c2), if_pos (show (r.drop 4).length < valN (r.take 4) by rw [← hv]; exact c3)])
        have hd4 : (r.drop 4).length = r.length - 4 := by rw [List.length_drop]
        have d3 : decide ((n : Int) - ((p : Int) + 4) < (v : Int)) = true := by rw [decide_eq_true_eq]; omega
        have HH8 := Lib.hid (HF8.out w HH.out)
        have hb1 : (p : Int) + 4 ≤ (n : Int) := by omega
        have hb2 : (n : Int) ≤ 1000000000000 := by omega
        clear hh hr hap hn hpl hrl hB hrd hpn c1 c2 c3 hv hv4 hd4
        go_enter Tryz.func101, Tryz.ntmps101
        go_wp2_with (first
          | (go_at_call 170; ((with_reducible refine HA.out.mono ?_); rintro e w' ⟨rfl, rfl⟩))
          | (go_at_call 146; ((with_reducible refine (HBD.out _).mono ?_); rintro e w' ⟨rfl, rfl⟩))
          | (go_at_call 167; ((with_reducible refine HH8.out.mono ?_); rintro e w' ⟨rfl, h2, h3⟩; have H2 := Lib.hid h2; have H3 := Lib.hid h3; clear h2 h3)))
        go_ret
        exact bt_none (by rw [HE.out]) (by rw [HE.out]; exact H2.out) H3.out
      · have HE := Lib.hid (show rBytes 9000 (r, 0) = rRaw v (r.drop 4, 0) by unfold rBytes; rw [if_neg (by simp), if_neg c1, if_neg (show ¬ 9000 < valN (r.take 4) by rw [← hv]; exact c2), if_neg (show ¬ (r.drop 4).length < valN (r.take 4) by rw [← hv]; exact c3), hv])
        have hd4 : (r.drop 4).length = r.length - 4 := by rw [List.length_drop]
        have d3 : decide ((n : Int) - ((p : Int) + 4) < (v : Int)) = false := by rw [decide_eq_false_iff_not]; omega
        have hb1 : (p : Int) + 4 ≤ (n : Int) := by omega
        have hb2 : (n : Int) ≤ 1000000000000 := by omega
        have HM := Lib.hid (show RdG (w.setCell ⟨gr, 1, none⟩ (.int .i64 ((p : Int) + 4))) B gr (r.drop 4, 0) by
          have := RdG.moved hh hr hap hn hB 4 (by have := hr.1; omega)
          rw [hrl]
          exact this)
        have HG1 := Lib.hid (show w.grownBy (w.setCell ⟨gr, 1, none⟩ (.int .i64 ((p : Int) + 4))) (some gr) from grown_set (grown_refl w (some gr)) 0 1 _)
        have HRW := Lib.hid (raw_g (w.setCell ⟨gr, 1, none⟩ (.int .i64 ((p : Int) + 4))) B gr (r.drop 4, 0) v HM.out (by omega))
        have f1 := frozen_of_row w gr 1 _ _ hh
        clear hh hr hap hn hpl hrl hB hrd hpn c1 c2 c3 hv hv4 hd4
        go_enter Tryz.func101, Tryz.ntmps101
        go_wp2_with (first
          | (go_at_call 170; ((with_reducible refine HA.out.mono ?_); rintro e w' ⟨rfl, rfl⟩))
          | (go_at_call 146; ((with_reducible refine (HBD.out _).mono ?_); rintro e w' ⟨rfl, rfl⟩))
          | (go_at_call 171; ((with_reducible refine HRW.out.mono ?_); rintro e w' ⟨a2, n2, c2, rfl, h1, h2, h3, -⟩; have H1 := Lib.hid h1; have H2 := Lib.hid h2; have H3 := Lib.hid h3; clear h1 h2 h3)))
        go_ret
        exact ⟨a2, n2, c2, rfl, by rw [HE.out]; exact H1.out, by rw [HE.out]; exact H2.out, grown_trans HG1.out H3.out⟩
theorem bytes_g (w : World) (B gr : Nat) (s : Rs) (h : RdG w B gr s) : Calls Tryz.prog 101 #[.pointer (some ⟨gr, 0, none⟩), .int .i64 9000] w (BtRet w B gr s) := by
  obtain ⟨r, q⟩ := s
  by_cases hq : q = 0
  · subst hq; exact bytes_in w B gr r h
  · exact bytes_gone w B gr (r, q) h hq
end Go.Proofs.YtoboabkaojfbaaaGreatDoor
namespace Go.Proofs.YtoboabkaojfbaaaGreatDoor
open Go Go.RowKit
set_option maxRecDepth 100000
set_option maxHeartbeats 8000000
set_option linter.unusedVariables false
set_option linter.unusedSimpArgs false
/-! octet.Reader's Digests. -/
theorem own_block' {α : Type} (enc : α → List Value) (s : Nat) (hs : 0 < s) (he : ∀ y, (enc y).length = s) {w : World} {B g n : Nat} {t : TypeId} {l : List α} (h : w.heap[g]? = some (.cells (l.flatMap enc).toArray t (0, 0))) (hl : l.length = n) (hB : B ≤ g) (hn : n ≤ maxLen) : w.ownsRow B t s (.slice (some ⟨g, 0, none⟩) n n) n (l.flatMap enc) := by
  have e := flat_len enc s he l
  refine ⟨by rw [e, hl], .inr ⟨g, n, (l.flatMap enc).toArray, rfl, hB, h, Nat.le_refl _, hn, by rw [List.size_toArray, e, hl], ?_⟩⟩
  rw [List.take_of_length_le (by rw [e, hl]; exact Nat.le_refl _)]
def DgsRet (w : World) (B gr n : Nat) (s : Rs) (e : Ending) (w' : World) : Prop := ∃ s3 : S3, e = .returned s3.v ∧ w'.ownsRow w.heap.size 23 32 s3.v s3.n ((rDgs n s).1.flatMap dgE) ∧ RdG w' B gr (rDgs n s).2 ∧ w.grownBy w' (some gr)
theorem dgs_none {w w' : World} {B gr n : Nat} {s : Rs} (e1 : (rDgs n s).1 = []) (h2 : RdG w' B gr (rDgs n s).2) (h3 : w.grownBy w' (some gr)) : DgsRet w B gr n s (.returned (.slice none 0 0)) w' :=
  ⟨⟨none, 0, 0⟩, rfl, by rw [e1]; exact World.ownsRow_nil _ _ _ _, h2, h3⟩
theorem made_dg (z : Value) (hz : z.cells = dgA zDg.1) (n : Nat) : (madeCells z.cells (n * 32)).toList = (List.replicate n zDg).flatMap dgE := by
  rw [hz]; exact made_row dgE 32 (by decide) dgE_len zDg _ rfl n
theorem digests_g (w : World) (B gr : Nat) (s : Rs) (h : RdG w B gr s) (hB0 : B ≤ w.heap.size) (m : Nat) (hm : m ≤ 1000) :
    Calls Tryz.prog 105 #[.pointer (some ⟨gr, 0, none⟩), .int .i64 (m : Int)] w (DgsRet w B gr m s) := by
  have HH := Lib.hid h
  have HB0 := Lib.hid hB0
  obtain ⟨r, q⟩ := s
  have HF8 := Lib.hid (fun x (hx : RdG x B gr (r, 0)) => refuse8 x B gr r hx)
  obtain ⟨a, n, c, l, p, hh, hr, hap, hn, hpl, hrl, hB⟩ := h
  simp only at hrl
  have HGL := Lib.hid ((Array.getElem?_eq_some_iff.1 hh).1)
  have k2 : w.cell? ⟨gr, 2, none⟩ = some (.int .i64 (q : Int)) := by rw [cell_of_row _ _ _ _ _ _ hh]; rfl
  have hh0 := hh
  obtain ⟨o1, ho1⟩ : ∃ o1 : Obj, o1 = .cells (dgA zDg.1) 23 := ⟨_, rfl⟩
  have hb1 : Below w.heap.size w (w.alloc o1) := (Below.refl _ _).alloc (Nat.le_refl _) _
  have HB1 := Lib.hid hb1
  have l2 := keepR hb1 k2
  by_cases hq : q = 0
  · subst hq
    have l2 : (w.alloc o1).cell? ⟨gr, 2, none⟩ = some (.int .i64 0) := l2
    have k0 : w.cell? ⟨gr, 0, none⟩ = some (.slice a n c) := by rw [cell_of_row _ _ _ _ _ _ hh]; rfl
    have k1 : w.cell? ⟨gr, 1, none⟩ = some (.int .i64 (p : Int)) := by rw [cell_of_row _ _ _ _ _ _ hh]; rfl
    have l0 := keepR hb1 k0
    have l1 := keepR hb1 k1
    have hrd : r.length = n - p := by rw [hrl, List.length_drop, hr.1]
    have hpn : p ≤ n := by have := hr.1; omega
    have hw1 : IntKind.i64.wrap ((n : Int) - (p : Int)) = (n : Int) - (p : Int) := IntWalk.i64_in _ (by omega)
    obtain ⟨t, ht⟩ : ∃ t : Nat, t = (n - p) / 32 := ⟨_, rfl⟩
    have htd : ((n : Int) - (p : Int)).tdiv 32 = (t : Int) := by
      rw [show (n : Int) - (p : Int) = ((n - p : Nat) : Int) by omega, ht]
      rfl
    have htd2 : ((n : Int) - (p : Int)) / 32 = (t : Int) := by omega
    have htb : t ≤ 1000000000000 := by omega
    have hwt : IntKind.i64.wrap (t : Int) = (t : Int) := IntWalk.i64_in _ (by omega)
    have h0 : decide ((m : Int) < 0) = false := by simp
    by_cases c1 : r.length / 32 < m
    · have HE := Lib.hid (show rDgs m (r, 0) = ([], (r, 8)) by unfold rDgs; rw [if_neg (by simp), if_pos c1])
      have hgt : decide (t < m) = true := by rw [decide_eq_true_eq]; rw [hrd] at c1; omega
      have hRX := fun k => HF8.out ((w.alloc o1).drewN k) ((HH.out.below hb1).drewN k)
      have HRX := Lib.hid hRX
      clear hh hh0 hr hap hn hpl hrl hB hrd hpn c1 ht k0 k1 hRX
      go_enter Tryz.func105, Tryz.ntmps105
      go_upto_region 2 with (fail)
      change Code.wp Tryz.prog _ _ _ (w.alloc (.cells (dgA zDg.1) 23))
      rw [← ho1]
      have HO1 := Lib.hid ho1
      clear ho1 k2
      generalize w.alloc o1 = w1 at *
      go_upto_region 4 with (fail)
      go_quiet (fail)
      clear l0 l1 l2 hw1 htd htd2 hgt htb hwt
      go_wp2_with (go_at_call 167; ((with_reducible refine (HRX.out _).mono ?_); rintro e w' ⟨rfl, h2, h3⟩; have H2 := Lib.hid h2; have H3 := Lib.hid h3; clear h2 h3))
      go_ret
      refine dgs_none (by rw [HE.out]) (by rw [HE.out]; exact H2.out) ?_
      exact ⟨H3.out.os.trans HB1.out.os, H3.out.tape.trans HB1.out.tape, H3.out.output.trans HB1.out.output, Nat.le_trans HB1.out.size H3.out.size, fun k hk hne => (H3.out.block k (Nat.lt_of_lt_of_le hk HB1.out.size) hne).trans (HB1.out.block k hk)⟩
    · have HE := Lib.hid (show rDgs m (r, 0) = rDgN m (r, 0) by unfold rDgs; rw [if_neg (by simp), if_neg c1])
      have hgt : decide (t < m) = false := by rw [decide_eq_false_iff_not]; rw [hrd] at c1; omega
      have HM := Lib.hid hm
      clear hh hh0 hr hap hn hpl hrl hB hrd hpn c1 ht k0 k1
      go_enter Tryz.func105, Tryz.ntmps105
      go_upto_region 2 with (fail)
      change Code.wp Tryz.prog _ _ _ (w.alloc (.cells (dgA zDg.1) 23))
      rw [← ho1]
      have HO1 := Lib.hid ho1
      clear ho1 k2
      generalize w.alloc o1 = w1 at *
      go_upto_region 4 with (fail)
      go_quiet (fail)
      have HB2 := Lib.hid (below_drewN HB1.out nq)
      clear l0 l1 l2 hw1 htd htd2 hgt htb hwt hb1 h0
      generalize w1.drewN nq = w2 at *
      go_upto_region 8 with (at_make; refine L_make rfl _ _ _ rfl sl23 w2.heap.size .i64 .i64 _ m rfl rfl rfl (by omega) (by simp [maxLen]; omega) (Nat.le_refl _) (fun w3 ho hg => ?_); have HO3 := Lib.hid ho; have HX3 := Lib.hid hg; clear ho hg)
      obtain ⟨g9, hg9⟩ : ∃ g, g = w2.heap.size := ⟨_, rfl⟩
      rw [← hg9] at HO3
      rw [← hg9]
      have HG9 := Lib.hid (show B ≤ g9 ∧ gr < g9 ∧ w.heap.size ≤ g9 from by have := HB2.out.size; have := HB0.out; have := HGL.out; omega)
      have HB3 := Lib.hid (show Below w.heap.size w w3 from HB2.out.grown HX3.out HB2.out.size (by intro k hk; cases hk))
      have HS3 := Lib.hid (show w3.heap[g9]? = some (.cells ((List.replicate m zDg).flatMap dgE).toArray 23 (0, 0)) by
        have := made_block (enc := dgE) 32 (by decide) dgE_len HO3.out
        rw [this, made_dg _ rfl m])
      have HRG3 := Lib.hid (HH.out.below HB3.out)
      have HG3 := Lib.hid (show w.grownBy w3 (some gr) from ⟨HB3.out.os, HB3.out.tape, HB3.out.output, HB3.out.size, fun k hk _ => HB3.out.block k hk⟩)
      have hm6 : m ≤ 1000 := HM.out
      clear hg9 HO3 HX3 hm
      go_wp2_with fail
      go_loopw [36, 7] (fun v _ wr => ∃ k : Nat, k ≤ m ∧ v = .int .i64 (k : Int) ∧ wr.heap[g9]? = some (.cells (((rDgN k (r, 0)).1 ++ List.replicate (m - k) zDg).flatMap dgE).toArray 23 (0, 0)) ∧ RdG wr B gr (rDgN k (r, 0)).2 ∧ w.grownBy wr (some gr)) (fun v _ _ => m - (intOf v).toNat)
      case atStart => exact ⟨0, Nat.zero_le _, rfl, HS3.out, HRG3.out, HG3.out⟩
      case round =>
        obtain ⟨k, hk, rfl, hs, hrd, hg⟩ := hrel
        have HS := Lib.hid hs; have HRD := Lib.hid hrd; have HG := Lib.hid hg
        clear hs hrd hg
        by_cases hlt : k < m
        · have h9 : decide ((k : Int) < (m : Int)) = true := by rw [decide_eq_true_eq]; omega
          have hki : (k : Int) < (m : Int) := by omega
          have HKC := Lib.hid hlt
          obtain ⟨A, hA⟩ : ∃ A, A = (rDgN k (r, 0)).1 := ⟨_, rfl⟩
          have HA := Lib.hid (show A = (rDgN k (r, 0)).1 ∧ A.length = k from ⟨hA, by rw [hA]; exact rDgN_len k _⟩)
          have HS1 := Lib.hid (show wr.heap[g9]? = some (.cells ((A ++ zDg :: List.replicate (m - (k + 1)) zDg).flatMap dgE).toArray 23 (0, 0)) by
            have := HS.out
            rw [← hA, show m - k = (m - (k + 1)) + 1 by omega, List.replicate_succ] at this
            exact this)
          obtain ⟨x1, hx1⟩ : ∃ x, x = rDg (rDgN k (r, 0)).2 := ⟨_, rfl⟩
          obtain ⟨E, hE⟩ : ∃ E, E = dgA x1.1.1 := ⟨_, rfl⟩
          have HES := Lib.hid (show E.size = 32 ∧ E.all (·.oneCell') = true ∧ E.toList = dgE x1.1 by rw [hE]; exact ⟨by rw [dgA_size, x1.1.2], dgA_all _, by simp [dgA, dgE]⟩)
          have HXX := Lib.hid (show rDgN (k + 1) (r, 0) = (A ++ [x1.1], x1.2) by rw [rDgN_snoc, ← hA, ← hx1])
          have HC1 := Lib.hid (show Calls Tryz.prog 104 #[.pointer (some ⟨gr, 0, none⟩)] wr (fun e w' => e = .returned (.agg E) ∧ RdG w' B gr x1.2 ∧ wr.grownBy w' (some gr)) by rw [hE, hx1]; exact digest_g wr B gr _ HRD.out (Nat.le_trans HB0.out HG.out.size))
          clear hA hx1 hE hk
          go_upto_region 12 with (first
            | (go_at_call 104; (with_reducible refine HC1.out.mono ?_); rintro e w8 ⟨rfl, hrd, hg⟩; have HRG8 := Lib.hid hrd; have HX8 := Lib.hid hg; have HS8 := Lib.hid (blk_keep hg HS1.out (by have := HG9.out; omega)); have HTH8 := Lib.hid (show w8.there g9 (k * 32) 32 from flat_there dgE A _ zDg 32 dgE_len HS8.out (k * 32) (by rw [HA.out.2])); clear hrd hg)
            | (refine wpList_store_mid rfl 23 (.tmp 43) (.tmp 42) (by rfl) g9 (k * 32) E (by first | rfl | (simp only [Nat.zero_add]; rfl)) (by rfl) (by rw [HES.out.1]; exact HTH8.out) (by rw [HES.out.1]; exact info38) HES.out.2.1 ?_))
          have HSN := Lib.hid (show (w8.setCells g9 (k * 32) E.toList).heap[g9]? = some (.cells (((rDgN (k + 1) (r, 0)).1 ++ List.replicate (m - (k + 1)) zDg).flatMap dgE).toArray 23 (0, 0)) by
            have := flat_put dgE A (List.replicate (m - (k + 1)) zDg) zDg x1.1 32 dgE_len HS8.out (k * 32) (by rw [HA.out.2])
            rw [HXX.out, HES.out.2.2, List.append_assoc]
            exact this)
          have HGW := Lib.hid (setCells_grown g9 E.toList (k * 32) w8)
          generalize w8.setCells g9 (k * 32) E.toList = w10 at *
          have HRN := Lib.hid (show RdG w10 B gr (rDgN (k + 1) (r, 0)).2 by rw [HXX.out]; exact HRG8.out.far HGW.out HG9.out.1 (by have := HG9.out; omega))
          have HGN := Lib.hid (show w.grownBy w10 (some gr) from grown_new (grown_trans HG.out HX8.out) HGW.out HG9.out.2.2)
          go_wp2_with fail
          go_roundw
          case rel => exact ⟨k + 1, by have := HKC.out; omega, by push_cast; rfl, HSN.out, HRN.out, HGN.out⟩
          case measure => have := HKC.out; simp [intOf]; omega
        · obtain rfl : k = m := by omega
          have h9 : decide ((k : Int) < (k : Int)) = false := by rw [decide_eq_false_iff_not]; omega
          have HSF := Lib.hid (show wr.heap[g9]? = some (.cells ((rDgN k (r, 0)).1.flatMap dgE).toArray 23 (0, 0)) by
            have := HS.out; rwa [Nat.sub_self, List.replicate_zero, List.append_nil] at this)
          clear hlt hk
          go_wp2_with fail
          go_ret
          exact ⟨⟨some ⟨g9, 0, none⟩, k, k⟩, rfl, by rw [HE.out]; exact own_block' dgE 32 (by decide) dgE_len HSF.out (rDgN_len k _) HG9.out.2.2 (by have := HM.out; simp [maxLen]; omega), by rw [HE.out]; exact HRD.out, HG.out⟩
  · have HE := Lib.hid (show rDgs m (r, q) = ([], (r, q)) by unfold rDgs; rw [if_pos hq])
    have hz : ((q : Int) == 0) = false := by simp; omega
    have hz2 : ((q : Int) != 0) = true := by simp; omega
    clear hh hh0 hr hap hn hpl hrl hB k2
    go_enter Tryz.func105, Tryz.ntmps105
    go_upto_region 2 with (fail)
    change Code.wp Tryz.prog _ _ _ (w.alloc (.cells (dgA zDg.1) 23))
    rw [← ho1]
    have HO1 := Lib.hid ho1
    clear ho1
    generalize w.alloc o1 = w1 at *
    go_wp2_with fail
    go_ret
    exact dgs_none (by rw [HE.out]) (by rw [HE.out]; exact HH.out.below HB1.out) ⟨HB1.out.os, HB1.out.tape, HB1.out.output, HB1.out.size, fun k hk _ => HB1.out.block k hk⟩
end Go.Proofs.YtoboabkaojfbaaaGreatDoor
