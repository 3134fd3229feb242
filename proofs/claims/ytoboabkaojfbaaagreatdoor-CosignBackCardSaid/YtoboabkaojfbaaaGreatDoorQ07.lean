import Derived.Test.YtoboabkaojfbaaaGreatDoorQ06
import Derived.Laws.CopyOwn
import Derived.StillTailTactics
import Derived.Deep.RegionHeld3
import Derived.IntWalk
namespace Go.Proofs.YtoboabkaojfbaaaGreatDoor
open Go Go.RowKit
set_option maxRecDepth 100000
set_option maxHeartbeats 1000000
set_option linter.unusedVariables false
set_option linter.unusedSimpArgs false

noncomputable def wr0 : Code := Tryz.f162.body.getD .skip
set_option maxHeartbeats 4000000
theorem write_t (w0 W : World) (gh : Nat) (a : Option Addr) (n c : Nat) (m p : List UInt8) (hh : HsAt W gh m) (hm : m.length % 64 = 0) (hr : R8 W a n c p) (hap : ∀ x, a = some x → 0 < n → gh ≠ x.block) (hb : m.length + n ≤ 1125899906842624) (ht : RoundTab W) (h3 : 1 < W.heap.size) (hne : gh ≠ 1) (hg : w0.grownBy W (some gh)) (u2 u3 u4 u5 u6 u7 u8 u9 u10 u11 u12 u13 u14 u15 u16 u17 u18 u19 u20 u21 u22 u23 u24 u25 u26 u27 u28 u29 u30 u31 u32 u33 u34 u35 u36 u37 u38 u39 u40 u41 u42 u43 u44 u45 u46 u47 u48 u49 u50 u51 u52 u53 u54 u55 u56 u57 u58 u59 u60 u61 u62 u63 u64 u65 u66 u67 u68 u69 u70 u71 u72 u73 u74 u75 u76 : Value) (PST : Ending → World → Prop)
    (hP : ∀ (w' : World), HsAt w' gh (m ++ p) → w0.grownBy w' (some gh) → PST (.returned (.tuple #[])) w') :
    Code.wp Tryz.prog (dropSeq 1 wr0) (bodyPost Tryz.prog Tryz.f162 PST) ⟨#[.pointer (some ⟨gh, 0, none⟩), .slice a n c, u2, u3, u4, u5, u6, u7, u8, u9, u10, u11, u12, u13, u14, u15, u16, u17, u18, u19, u20, u21, u22, u23, u24, u25, u26, u27, u28, u29, u30, u31, u32, u33, u34, u35, u36, u37, u38, u39, u40, u41, u42, u43, u44, u45, u46, u47, u48, u49, u50, u51, u52, u53, u54, u55, u56, u57, u58, u59, u60, u61, u62, u63, u64, u65, u66, u67, u68, u69, u70, u71, u72, u73, u74, u75, u76], []⟩ W := by
  have HP := Lib.hid hP
  have HT := Lib.hid ht
  have HB := Lib.hid hb
  have HN := Lib.hid hr.1
  clear hP ht hb
  conv => arg 2; whnf
  go_wp2_with fail
  go_loopw [1] (fun v wr => ∃ (a1 : Option Addr) (r c1 j : Nat), r + j = n ∧ v = .slice a1 r c1 ∧ R8 wr a1 r c1 (p.drop j) ∧ HsAt wr gh (m ++ p.take j) ∧ (m ++ p.take j).length % 64 = 0 ∧ (∀ x, a1 = some x → 0 < r → gh ≠ x.block) ∧ w0.grownBy wr (some gh) ∧ W.grownBy wr (some gh)) (fun v _ => match v with | .slice _ n _ => n | _ => 0)
  case atStart => exact ⟨a, n, c, 0, rfl, rfl, hr, by simpa using hh, by simpa using hm, hap, hg, grown_refl _ _⟩
  case round =>
    clear hh hm hr hap hg
    obtain ⟨a1, r, c1, j, hrj, rfl, hr, hh, hm, hap, hg, hg1⟩ := hrel
    have HR := Lib.hid hr
    have HAP := Lib.hid hap
    have HG := Lib.hid hg
    have HG1 := Lib.hid hg1
    have HM := Lib.hid hm
    have HRJ := Lib.hid hrj
    have hML : (m ++ p.take j).length + r = m.length + n := by
      rw [List.length_append, List.length_take, HN.out]; omega
    have HX := Lib.hid (show p.drop j ++ [] = p.drop j by simp)
    obtain ⟨M, hMM⟩ : ∃ M, M = m ++ p.take j := ⟨_, rfl⟩
    obtain ⟨q, hq⟩ : ∃ q, q = p.drop j := ⟨_, rfl⟩
    rw [← hMM] at hh hML HM
    rw [← hq] at HR
    have HMM := Lib.hid hMM
    have HQ := Lib.hid hq
    obtain ⟨rs, h64, hrs, hbk⟩ := hh
    obtain ⟨N, hN⟩ : ∃ N, N = M.length := ⟨_, rfl⟩
    have HNN := Lib.hid hN
    have hNb : N + r ≤ 1125899906842624 := by have := HB.out; omega
    unfold hCells at hbk
    rw [← hN] at hbk
    have HBK := Lib.hid hbk
    have H64 := Lib.hid h64
    have hlt3 : 1 < wr.heap.size := Nat.lt_of_lt_of_le h3 hg1.size
    have HC1 := Lib.hid hr.2.1
    have hrc : r ≤ c1 := hr.2.1
    clear hr hap hg hg1 hm hrj hMM hq hrs hN hML h64 hbk
    by_cases h : 64 ≤ r
    · have hto : ∀ wx, (Instr.slice 49 (.slice a1 r c1) none (some (.int .i64 64)) none).run Tryz.prog wx = .ok (.slice a1 64 c1) wx := fun wx => slice_to8 wx a1 r c1 64 (by omega)
      have hfr : ∀ wx, (Instr.slice 49 (.slice a1 r c1) (some (.int .i64 64)) none none).run Tryz.prog wx = .ok (.slice (dropA a1 64 c1) (r - 64) (c1 - 64)) wx := fun wx => slice_from (P := Tryz.prog) sl22 wx a1 r c1 64 64 rfl h
      have HH := Lib.hid h
      have h9 : decide ((64 : Int) ≤ (r : Int)) = true := by simp; omega
      have HNB := Lib.hid hNb
      clear h hNb hrc
      go_upto_region 9 with (fail)
      clear h9
      go_still_tail 5, (by kernel_rfl)
      change wpList _ _ _ _ _ wr.drew
      have HBK2 := Lib.hid (show wr.drew.heap[gh]? = _ from HBK.out)
      have HR2 := Lib.hid (show R8 wr.drew a1 r c1 q from HR.out)
      have HT2 := Lib.hid (show RoundTab wr.drew from (show RoundTab wr from rt_grown HT.out h3 hne HG1.out))
      have HTK := Lib.hid (take_any wr.drew gh (stOf M) (tlH rs N) 309 HBK2.out a1 c1 (q.take 64) (HR2.out.take 64 HH.out) HT2.out hlt3)
      go_wp2_with fail
      refine HTK.out.mono ?_
      rintro e w4 ⟨rfl, hb4, hg4⟩
      have HG4 := Lib.hid (show wr.grownBy w4 (some gh) from ⟨hg4.os, hg4.tape, hg4.output, hg4.size, hg4.block⟩)
      have HB4 := Lib.hid hb4
      have hcn := cell_n (S8.list_len _) H64.out hb4
      have hfn := frozen_of_row w4 gh 72 _ _ hb4
      have hw : IntKind.u64.wrap ((N : Int) + 64) = ((N + 64 : Nat) : Int) := by
        have := HNB.out
        simp [IntKind.wrap, IntKind.bits, IntKind.signed]; omega
      clear hb4 hg4 HTK HR2 HT2 HBK2
      go_wp2_with fail
      have hs5 := heap_setCell_same w4 gh 72 _ _ (.int .u64 ((N + 64 : Nat) : Int)) HB4.out
      rw [set_n (S8.list_len _) H64.out] at hs5
      obtain ⟨e1, e2⟩ := more_block M (q.take 64) HM.out (by rw [List.length_take, HR.out.1]; have := HH.out; omega)
      have hM2 : M ++ q.take 64 = m ++ p.take (j + 64) := by rw [HMM.out, HQ.out, List.take_add, List.append_assoc]
      have hN2 : (M ++ q.take 64).length = N + 64 := by rw [List.length_append, ← HNN.out, List.length_take, HR.out.1]; have := HH.out; omega
      have HS5 := Lib.hid (show HsAt (w4.setCell ⟨gh, 72, none⟩ (.int .u64 ((N + 64 : Nat) : Int))) gh (m ++ p.take (j + 64)) by
        rw [← hM2]
        refine ⟨rs, H64.out, ?_, ?_⟩
        · rw [e2, hN2]
          have h5 : (N + 64) % 64 = 0 := by have := HM.out; rw [← HNN.out] at this; omega
          rw [h5]; rfl
        · unfold hCells
          rw [e1, hN2]
          exact hs5)
      have HM5 := Lib.hid (show (m ++ p.take (j + 64)).length % 64 = 0 by rw [← hM2, hN2]; have := HM.out; rw [← HNN.out] at this; omega)
      have HG5 := Lib.hid (grown_trans HG4.out (grown_set (grown_refl w4 (some gh)) 0 72 (.int .u64 ((N + 64 : Nat) : Int))))
      have HR5 := Lib.hid (r8_grown (HR.out.dropA 64 HH.out) (dropA_apart HAP.out 64 c1) HG5.out)
      rw [HQ.out, List.drop_drop] at HR5
      clear hs5 e1 e2 hM2 hN2 hto hfr
      go_roundw
      case rel => exact ⟨dropA a1 64 c1, r - 64, c1 - 64, j + 64, by have := HH.out; have := HRJ.out; omega, rfl, HR5.out, HS5.out, HM5.out, dropA_apart HAP.out 64 c1, grown_trans HG.out HG5.out, grown_trans HG1.out HG5.out⟩
      case measure => have := HH.out; show r - 64 < r; omega
    · have HH := Lib.hid h
      have h9 : decide ((64 : Int) ≤ (r : Int)) = false := by simp; omega
      have HNB := Lib.hid hNb
      clear h hNb hrc
      go_upto_region 11 with (fail)
      clear h9
      have hcn : wr.drew.cell? ⟨gh, 72, none⟩ = some (.int .u64 (N : Int)) := cell_n (S8.list_len _) H64.out HBK.out
      have HBK2 := Lib.hid (show wr.drew.heap[gh]? = some (.cells ((stOf M).list.map wv ++ tlH rs N).toArray 309 (0, 0)) from HBK.out)
      have HR2 := Lib.hid (show R8 wr.drew a1 r c1 q from HR.out)
      have hsp := splice_rest (S8.list_len (stOf M)) H64.out N 0 (q.take 64) (by rw [List.length_take]; omega)
      have HQL := Lib.hid (show q.length = r ∧ q.take 64 = q from ⟨HR.out.1, List.take_of_length_le (by rw [HR.out.1]; have := HH.out; omega)⟩)
      have HLEN := Lib.hid (show 8 + 64 ≤ ((stOf M).list.map wv ++ tlH rs N).length by rw [List.length_append, List.length_map, S8.list_len, tlH, List.length_append, List.length_map, H64.out]; simp)
      obtain ⟨rs4, hrs4⟩ : ∃ rs4, rs4 = rs.take 0 ++ q.take 64 ++ rs.drop (0 + (q.take 64).length) := ⟨_, rfl⟩
      rw [← hrs4] at hsp
      have HRS4 := Lib.hid hrs4
      have HSP := Lib.hid hsp
      have HS64 := Lib.hid (show rs4.length = 64 by rw [hrs4, HQL.out.2, List.length_append, List.length_append, List.length_take, List.length_drop, H64.out, HQL.out.1]; have := HH.out; omega)
      have hmin : min r 64 = r := by have := HH.out; omega
      have hw : IntKind.u64.wrap ((N : Int) + (r : Int)) = ((N + r : Nat) : Int) := by
        have := HNB.out
        simp [IntKind.wrap, IntKind.bits, IntKind.signed]; omega
      have hw2 : IntKind.u64.wrap (r : Int) = (r : Int) := by
        have := HNB.out
        simp [IntKind.wrap, IntKind.bits, IntKind.signed]; omega
      clear hsp hrs4
      refine wp_region_held_drew (S := fun _ => True) (by kernel_rfl) trivial (fun hHeld => ?_)
      refine wpAnyH_take (i := 0) (oi := _) (v := ?_) rfl (by kernel_rfl) (by kernel_rfl) (by kernel_rfl) (fun _ _ _ h => h) (Or.inl ⟨by rfl, ?_⟩) (by assumption) ?_
      rotate_left
      · intro w hSw
        (try dsimp only at hSw)
        go_simp
        all_goals (first | done | with_reducible rfl)
      (try simp only [Act.put, List.setIfInBounds_toArray, List.set_cons_zero, List.set_cons_succ, List.getElem_toArray, List.getElem_cons_succ, List.getElem_cons_zero])
      refine wpAnyH_take (i := 1) (oi := _) (v := ?_) rfl (by kernel_rfl) (by kernel_rfl) (by kernel_rfl) (fun _ _ _ h => h) (Or.inl ⟨by rfl, ?_⟩) (by assumption) ?_
      rotate_left
      · intro w hSw
        (try dsimp only at hSw)
        go_simp
        all_goals (first | done | with_reducible rfl)
      (try simp only [Act.put, List.setIfInBounds_toArray, List.set_cons_zero, List.set_cons_succ, List.getElem_toArray, List.getElem_cons_succ, List.getElem_cons_zero])
      refine wpAnyH_take (i := 2) (oi := _) (v := ?_) rfl (by kernel_rfl) (by kernel_rfl) (by kernel_rfl) (fun _ _ _ h => h) (Or.inl ⟨by rfl, ?_⟩) (by assumption) ?_
      rotate_left
      · intro w hSw
        (try dsimp only at hSw)
        go_simp
        all_goals (first | done | with_reducible rfl)
      (try simp only [Act.put, List.setIfInBounds_toArray, List.set_cons_zero, List.set_cons_succ, List.getElem_toArray, List.getElem_cons_succ, List.getElem_cons_zero])
      refine wpAnyH_take (i := 4) (oi := _) (v := ?_) rfl (by kernel_rfl) (by kernel_rfl) (by kernel_rfl) (fun _ _ _ h => h) (Or.inl ⟨by rfl, ?_⟩) (by assumption) ?_
      rotate_left
      · intro w hSw
        (try dsimp only at hSw)
        go_simp
        all_goals (first | done | with_reducible rfl)
      (try simp only [Act.put, List.setIfInBounds_toArray, List.set_cons_zero, List.set_cons_succ, List.getElem_toArray, List.getElem_cons_succ, List.getElem_cons_zero])
      refine wpAnyH_take (i := 5) (oi := _) (v := ?_) rfl (by kernel_rfl) (by kernel_rfl) (by kernel_rfl) (fun _ _ _ h => h) (Or.inl ⟨by rfl, ?_⟩) (by assumption) ?_
      rotate_left
      · intro w hSw
        (try dsimp only at hSw)
        go_simp
        all_goals (first | done | with_reducible rfl)
      (try simp only [Act.put, List.setIfInBounds_toArray, List.set_cons_zero, List.set_cons_succ, List.getElem_toArray, List.getElem_cons_succ, List.getElem_cons_zero])
      refine wpAnyH_take (i := 6) (oi := _) (v := ?_) rfl (by kernel_rfl) (by kernel_rfl) (by kernel_rfl) (fun _ _ _ h => h) (Or.inl ⟨by rfl, ?_⟩) (by assumption) ?_
      rotate_left
      · intro w hSw
        (try dsimp only at hSw)
        go_simp
        all_goals (first | done | with_reducible rfl)
      (try simp only [Act.put, List.setIfInBounds_toArray, List.set_cons_zero, List.set_cons_succ, List.getElem_toArray, List.getElem_cons_succ, List.getElem_cons_zero])
      refine wpAnyH_take (i := 7) (oi := _) (v := ?_) rfl (by kernel_rfl) (by kernel_rfl) (by kernel_rfl) (fun _ _ _ h => h) (Or.inl ⟨by rfl, ?_⟩) (by assumption) ?_
      rotate_left
      · intro w hSw
        (try dsimp only at hSw)
        go_simp
        all_goals (first | done | with_reducible rfl)
      (try simp only [Act.put, List.setIfInBounds_toArray, List.set_cons_zero, List.set_cons_succ, List.getElem_toArray, List.getElem_cons_succ, List.getElem_cons_zero])
      refine wpAnyH_take (i := 8) (oi := _) (v := ?_) rfl (by kernel_rfl) (by kernel_rfl) (by kernel_rfl) (fun _ _ _ h => h) (Or.inl ⟨by rfl, ?_⟩) (by assumption) ?_
      rotate_left
      · intro w hSw
        (try dsimp only at hSw)
        go_simp
        all_goals (first | done | with_reducible rfl)
      (try simp only [Act.put, List.setIfInBounds_toArray, List.set_cons_zero, List.set_cons_succ, List.getElem_toArray, List.getElem_cons_succ, List.getElem_cons_zero])
      refine wpAnyH_ready (rs := [3, 9]) (by kernel_rfl) (by simp) ?_
      refine AllReadyH.cons (o := _) rfl (fun K hK => ?_) (AllReadyH.cons (o := _) rfl (fun K hK => ?_) AllReadyH.nil)
      · go_simp
        refine hK.out _ _ trivial (fun hHeld => ?_)
        clear hK K
        (try simp only [Act.put, List.setIfInBounds_toArray, List.set_cons_zero, List.set_cons_succ, List.getElem_toArray, List.getElem_cons_succ, List.getElem_cons_zero])
        refine wpAnyH_ready (rs := [9]) (by kernel_rfl) (by simp) ?_
        refine AllReadyH.cons (o := _) rfl (fun K hK => ?_) AllReadyH.nil
        refine S_copyIn rfl (.tmp 70) (.tmp 71) 49 49 (by rfl) sl22 gh 8 64 64 (by rfl) ((stOf M).list.map wv ++ tlH rs N) 309 HBK2.out HLEN.out a1 r c1 q (by rfl) HR2.out (fun w4 hb4 hg4 => ?_)
        rw [HSP.out] at hb4
        have HB4 := Lib.hid hb4
        have HG4 := Lib.hid (show wr.grownBy w4 (some gh) from ⟨hg4.os, hg4.tape, hg4.output, hg4.size, hg4.block⟩)
        have hn4 := cell_n (S8.list_len _) HS64.out hb4
        have hf4 := frozen_of_row w4 gh 72 _ _ hb4
        clear hb4 hg4 hcn
        refine hK.out _ _ trivial (fun hHeld => ?_)
        clear hK K
        (try simp only [Act.put, List.setIfInBounds_toArray, List.set_cons_zero, List.set_cons_succ, List.getElem_toArray, List.getElem_cons_succ, List.getElem_cons_zero])
        refine wpAnyH_take (i := 10) (oi := _) (v := ?_) rfl (by kernel_rfl) (by kernel_rfl) (by kernel_rfl) (fun _ _ _ h => h) (Or.inl ⟨by rfl, ?_⟩) (by assumption) ?_
        rotate_left
        · intro w hSw
          (try dsimp only at hSw)
          go_simp
          all_goals (first | done | with_reducible rfl)
        (try simp only [Act.put, List.setIfInBounds_toArray, List.set_cons_zero, List.set_cons_succ, List.getElem_toArray, List.getElem_cons_succ, List.getElem_cons_zero])
        refine wpAnyH_take (i := 11) (oi := _) (v := ?_) rfl (by kernel_rfl) (by kernel_rfl) (by kernel_rfl) (fun _ _ _ h => h) (Or.inl ⟨by rfl, ?_⟩) (by assumption) ?_
        rotate_left
        · intro w hSw
          (try dsimp only at hSw)
          go_simp
          all_goals (first | done | with_reducible rfl)
        (try simp only [Act.put, List.setIfInBounds_toArray, List.set_cons_zero, List.set_cons_succ, List.getElem_toArray, List.getElem_cons_succ, List.getElem_cons_zero])
        refine wpAnyH_take (i := 12) (oi := _) (v := ?_) rfl (by kernel_rfl) (by kernel_rfl) (by kernel_rfl) (fun _ _ _ h => h) (Or.inl ⟨by rfl, ?_⟩) (by assumption) ?_
        rotate_left
        · intro w hSw
          (try dsimp only at hSw)
          go_simp
          all_goals (first | done | with_reducible rfl)
        (try simp only [Act.put, List.setIfInBounds_toArray, List.set_cons_zero, List.set_cons_succ, List.getElem_toArray, List.getElem_cons_succ, List.getElem_cons_zero])
        refine wpAnyH_take (i := 13) (oi := _) (v := ?_) rfl (by kernel_rfl) (by kernel_rfl) (by kernel_rfl) (fun _ _ _ h => h) (Or.inl ⟨by rfl, ?_⟩) (by assumption) ?_
        rotate_left
        · intro w hSw
          (try dsimp only at hSw)
          go_simp
          all_goals (first | done | with_reducible rfl)
        (try simp only [Act.put, List.setIfInBounds_toArray, List.set_cons_zero, List.set_cons_succ, List.getElem_toArray, List.getElem_cons_succ, List.getElem_cons_zero])
        refine wpAnyH_ready (rs := [14]) (by kernel_rfl) (by simp) ?_
        refine AllReadyH.cons (o := _) rfl (fun K hK => ?_) AllReadyH.nil
        go_simp
        refine hK.out _ _ trivial (fun hHeld => ?_)
        clear hK K
        (try simp only [Act.put, List.setIfInBounds_toArray, List.set_cons_zero, List.set_cons_succ, List.getElem_toArray, List.getElem_cons_succ, List.getElem_cons_zero])
        refine wpAnyH_done (by kernel_rfl) ?_ _
        have hs5 := heap_setCell_same w4 gh 72 _ _ (.int .u64 ((N + r : Nat) : Int)) HB4.out
        rw [set_n (S8.list_len _) HS64.out] at hs5
        obtain ⟨e1, e2⟩ := more_short M q (by rw [HQL.out.1]; have := HM.out; have := HH.out; omega)
        have hM2 : M ++ q = m ++ p := by rw [HMM.out, HQ.out, List.append_assoc, List.take_append_drop]
        have hN2 : (M ++ q).length = N + r := by rw [List.length_append, ← HNN.out, HQL.out.1]
        have HS5 := Lib.hid (show HsAt (w4.setCell ⟨gh, 72, none⟩ (.int .u64 ((N + r : Nat) : Int))) gh (m ++ p) by
          rw [← hM2]
          refine ⟨rs4, HS64.out, ?_, ?_⟩
          · have h5 : (N + r) % 64 = r := by have := HM.out; rw [← HNN.out] at this; have := HH.out; omega
            have h6 : rest M = [] := List.eq_nil_of_length_eq_zero (by rw [rest_len]; exact HM.out)
            rw [e2, h6, hN2, h5, HRS4.out, HQL.out.2, List.take_zero, List.nil_append, List.take_append_of_le_length (by rw [HQL.out.1]; omega), List.take_of_length_le (by rw [HQL.out.1]; omega)]
          · unfold hCells
            rw [e1, hN2]
            exact hs5)
        have HG5 := Lib.hid (grown_trans HG4.out (grown_set (grown_refl w4 (some gh)) 0 72 (.int .u64 ((N + r : Nat) : Int))))
        clear hs5 e1 e2 hM2 hN2
        go_end0
        exact HP.out _ HS5.out (grown_trans HG.out HG5.out)
      · refine S_copyIn rfl (.tmp 70) (.tmp 71) 49 49 (by rfl) sl22 gh 8 64 64 (by rfl) ((stOf M).list.map wv ++ tlH rs N) 309 HBK2.out HLEN.out a1 r c1 q (by rfl) HR2.out (fun w4 hb4 hg4 => ?_)
        rw [HSP.out] at hb4
        have HB4 := Lib.hid hb4
        have HG4 := Lib.hid (show wr.grownBy w4 (some gh) from ⟨hg4.os, hg4.tape, hg4.output, hg4.size, hg4.block⟩)
        have hn4 := cell_n (S8.list_len _) HS64.out hb4
        have hf4 := frozen_of_row w4 gh 72 _ _ hb4
        clear hb4 hg4 hcn
        refine hK.out _ _ trivial (fun hHeld => ?_)
        clear hK K
        (try simp only [Act.put, List.setIfInBounds_toArray, List.set_cons_zero, List.set_cons_succ, List.getElem_toArray, List.getElem_cons_succ, List.getElem_cons_zero])
        refine wpAnyH_take (i := 10) (oi := _) (v := ?_) rfl (by kernel_rfl) (by kernel_rfl) (by kernel_rfl) (fun _ _ _ h => h) (Or.inl ⟨by rfl, ?_⟩) (by assumption) ?_
        rotate_left
        · intro w hSw
          (try dsimp only at hSw)
          go_simp
          all_goals (first | done | with_reducible rfl)
        (try simp only [Act.put, List.setIfInBounds_toArray, List.set_cons_zero, List.set_cons_succ, List.getElem_toArray, List.getElem_cons_succ, List.getElem_cons_zero])
        refine wpAnyH_ready (rs := [3]) (by kernel_rfl) (by simp) ?_
        refine AllReadyH.cons (o := _) rfl (fun K hK => ?_) AllReadyH.nil
        go_simp
        refine hK.out _ _ trivial (fun hHeld => ?_)
        clear hK K
        (try simp only [Act.put, List.setIfInBounds_toArray, List.set_cons_zero, List.set_cons_succ, List.getElem_toArray, List.getElem_cons_succ, List.getElem_cons_zero])
        refine wpAnyH_take (i := 11) (oi := _) (v := ?_) rfl (by kernel_rfl) (by kernel_rfl) (by kernel_rfl) (fun _ _ _ h => h) (Or.inl ⟨by rfl, ?_⟩) (by assumption) ?_
        rotate_left
        · intro w hSw
          (try dsimp only at hSw)
          go_simp
          all_goals (first | done | with_reducible rfl)
        (try simp only [Act.put, List.setIfInBounds_toArray, List.set_cons_zero, List.set_cons_succ, List.getElem_toArray, List.getElem_cons_succ, List.getElem_cons_zero])
        refine wpAnyH_take (i := 12) (oi := _) (v := ?_) rfl (by kernel_rfl) (by kernel_rfl) (by kernel_rfl) (fun _ _ _ h => h) (Or.inl ⟨by rfl, ?_⟩) (by assumption) ?_
        rotate_left
        · intro w hSw
          (try dsimp only at hSw)
          go_simp
          all_goals (first | done | with_reducible rfl)
        (try simp only [Act.put, List.setIfInBounds_toArray, List.set_cons_zero, List.set_cons_succ, List.getElem_toArray, List.getElem_cons_succ, List.getElem_cons_zero])
        refine wpAnyH_take (i := 13) (oi := _) (v := ?_) rfl (by kernel_rfl) (by kernel_rfl) (by kernel_rfl) (fun _ _ _ h => h) (Or.inl ⟨by rfl, ?_⟩) (by assumption) ?_
        rotate_left
        · intro w hSw
          (try dsimp only at hSw)
          go_simp
          all_goals (first | done | with_reducible rfl)
        (try simp only [Act.put, List.setIfInBounds_toArray, List.set_cons_zero, List.set_cons_succ, List.getElem_toArray, List.getElem_cons_succ, List.getElem_cons_zero])
        refine wpAnyH_ready (rs := [14]) (by kernel_rfl) (by simp) ?_
        refine AllReadyH.cons (o := _) rfl (fun K hK => ?_) AllReadyH.nil
        go_simp
        refine hK.out _ _ trivial (fun hHeld => ?_)
        clear hK K
        (try simp only [Act.put, List.setIfInBounds_toArray, List.set_cons_zero, List.set_cons_succ, List.getElem_toArray, List.getElem_cons_succ, List.getElem_cons_zero])
        refine wpAnyH_done (by kernel_rfl) ?_ _
        have hs5 := heap_setCell_same w4 gh 72 _ _ (.int .u64 ((N + r : Nat) : Int)) HB4.out
        rw [set_n (S8.list_len _) HS64.out] at hs5
        obtain ⟨e1, e2⟩ := more_short M q (by rw [HQL.out.1]; have := HM.out; have := HH.out; omega)
        have hM2 : M ++ q = m ++ p := by rw [HMM.out, HQ.out, List.append_assoc, List.take_append_drop]
        have hN2 : (M ++ q).length = N + r := by rw [List.length_append, ← HNN.out, HQL.out.1]
        have HS5 := Lib.hid (show HsAt (w4.setCell ⟨gh, 72, none⟩ (.int .u64 ((N + r : Nat) : Int))) gh (m ++ p) by
          rw [← hM2]
          refine ⟨rs4, HS64.out, ?_, ?_⟩
          · have h5 : (N + r) % 64 = r := by have := HM.out; rw [← HNN.out] at this; have := HH.out; omega
            have h6 : rest M = [] := List.eq_nil_of_length_eq_zero (by rw [rest_len]; exact HM.out)
            rw [e2, h6, hN2, h5, HRS4.out, HQL.out.2, List.take_zero, List.nil_append, List.take_append_of_le_length (by rw [HQL.out.1]; omega), List.take_of_length_le (by rw [HQL.out.1]; omega)]
          · unfold hCells
            rw [e1, hN2]
            exact hs5)
        have HG5 := Lib.hid (grown_trans HG4.out (grown_set (grown_refl w4 (some gh)) 0 72 (.int .u64 ((N + r : Nat) : Int))))
        clear hs5 e1 e2 hM2 hN2
        go_end0
        exact HP.out _ HS5.out (grown_trans HG.out HG5.out)

theorem slice_rest (wx : World) (gh q : Nat) (hq : q < 64) : (Instr.sliceAt 307 (.pointer (some ⟨gh, 8, none⟩)) (some (.int .i64 (q : Int))) none none).run Tryz.prog wx = .ok (.slice (some ⟨gh, 8 + q, none⟩) (64 - q) (64 - q)) wx := by
  have ht : Tryz.prog.underlying 307 = some (.array (Tryz.prog.arrayLen 307) (Tryz.prog.elem 307)) := by kernel_rfl
  have hl : Tryz.prog.arrayLen 307 = 64 := by kernel_rfl
  have hs : (sizeOf (Tryz.prog.elem 307)).run Tryz.prog wx = .ok 1 wx := by kernel_rfl
  rw [run_sliceAt_array_l wx 307 ⟨gh, 8, none⟩ ht .i64 (q : Int) (by omega) (by rw [hl]; omega), hs, hl]
  simp only [Result.andThen, slicedAt, Int.toNat_natCast, Nat.mul_one]
  rw [if_neg (by omega), Addr.add_lit]
/-- Write: the next piece. -/
theorem write_any (w : World) (gh : Nat) (a : Option Addr) (n c : Nat) (m p : List UInt8) (hh : HsAt w gh m) (hr : R8 w a n c p) (hap : ∀ x, a = some x → 0 < n → gh ≠ x.block) (hb : m.length + n ≤ 1125899906842624) (ht : RoundTab w) (h3 : 1 < w.heap.size) (hne : gh ≠ 1) :
    Calls Tryz.prog 162 #[.pointer (some ⟨gh, 0, none⟩), .slice a n c] w fun e w' => e = .returned (.tuple #[]) ∧ HsAt w' gh (m ++ p) ∧ w.grownBy w' (some gh) := by
  by_cases h0 : m.length % 64 = 0
  · have HX := Lib.hid (fun us => write_t w w gh a n c m p hh h0 hr hap hb ht h3 hne (grown_refl _ _) us)
    obtain ⟨rs, h64, hrs, hbk⟩ := hh
    obtain ⟨N, hN⟩ : ∃ N, N = m.length := ⟨_, rfl⟩
    unfold hCells at hbk
    rw [← hN] at hbk h0
    have hcn := cell_n (S8.list_len _) h64 hbk
    have hmod2 : ((N : Nat) : Int) % 64 = 0 := by omega
    have HMOD := Lib.hid h0
    have HNQ := Lib.hid hN
    have HBKQ := Lib.hid hbk
    clear hN h0 hbk
    have HXX := Lib.hid (And.intro hap (And.intro hb (And.intro ht hr)))
    clear hap hb ht hr
    go_enter Tryz.func162, Tryz.ntmps162
    refine wp_two_k (c := wr0) ⟨_, _, rfl⟩ fun K hK => ?_
    have HK := Lib.hid hK
    clear hK
    conv => arg 2; whnf
    go_wp2_with fail
    refine HK.out _ _ (write_t w w gh a n c m p ⟨rs, h64, ?_, ?_⟩ ?_ HXX.out.2.2.2 HXX.out.1 HXX.out.2.1 HXX.out.2.2.1 h3 hne (grown_refl _ _) _ _ _ _ _ _ _ _ _ _ _ _ _ _ _ _ _ _ _ _ _ _ _ _ _ _ _ _ _ _ _ _ _ _ _ _ _ _ _ _ _ _ _ _ _ _ _ _ _ _ _ _ _ _ _ _ _ _ _ _ _ _ _ _ _ _ _ _ _ _ _ _ _ _ _  _ (fun w' h1 h2 => ⟨rfl, h1, h2⟩))
    · rw [← HNQ.out, HMOD.out]; rw [← HNQ.out, HMOD.out] at hrs; exact hrs
    · unfold hCells; rw [← HNQ.out]; exact HBKQ.out
    · rw [← HNQ.out]; exact HMOD.out
  · obtain ⟨rs, h64, hrs, hbk⟩ := hh
    obtain ⟨N, hN⟩ : ∃ N, N = m.length := ⟨_, rfl⟩
    obtain ⟨q, hq⟩ : ∃ q, q = N % 64 := ⟨_, rfl⟩
    unfold hCells at hbk
    rw [← hN] at hbk h0 hrs hb
    rw [← hq] at h0 hrs
    have hq64 : q < 64 := by omega
    have hcn := cell_n (S8.list_len _) h64 hbk
    have hmod2 : ((N : Nat) : Int) % 64 = (q : Int) := by omega
    have HQ := Lib.hid hq
    have HN := Lib.hid hN
    have HR := Lib.hid hr
    have HBK := Lib.hid hbk
    have H64 := Lib.hid h64
    have HRS := Lib.hid hrs
    have h9 : decide ((0 : Int) < (q : Int)) = true := by simp; omega
    have HXX := Lib.hid (And.intro hap (And.intro hb ht))
    clear hap hb ht hr hq hN hbk h64 hrs
    go_enter Tryz.func162, Tryz.ntmps162
    refine wp_two_k (c := wr0) ⟨_, _, rfl⟩ fun K hK => ?_
    have HK := Lib.hid hK
    clear hK
    conv => arg 2; whnf
    have hsl := fun wx => slice_rest wx gh q hq64
    have HL2 := Lib.hid (show 8 + q + (64 - q) ≤ ((stOf m).list.map wv ++ tlH rs N).length by rw [List.length_append, List.length_map, S8.list_len, tlH, List.length_append, List.length_map, H64.out]; simp; omega)
    have HBK1 := Lib.hid (show w.heap[gh]? = some (.cells ((stOf m).list.map wv ++ tlH rs N).toArray 309 (0, 0)) from HBK.out)
    have HSP := Lib.hid (splice_rest (S8.list_len (stOf m)) H64.out N q (p.take (64 - q)) (by rw [List.length_take]; omega))
    have hPL : p.length = n := HR.out.1
    have HPL := Lib.hid hPL
    obtain ⟨rs4, hrs4⟩ : ∃ rs4, rs4 = rs.take q ++ p.take (64 - q) ++ rs.drop (q + (p.take (64 - q)).length) := ⟨_, rfl⟩
    rw [← hrs4] at HSP
    have HS64 := Lib.hid (show rs4.length = 64 by rw [hrs4, List.length_append, List.length_append, List.length_take, List.length_drop, List.length_take, H64.out, hPL]; omega)
    have HRS4 := Lib.hid hrs4
    obtain ⟨k, hk⟩ : ∃ k, k = min n (64 - q) := ⟨_, rfl⟩
    have HKK := Lib.hid hk
    have hNb : N + n ≤ 1125899906842624 := HXX.out.2.1
    have hw : IntKind.u64.wrap ((N : Int) + (k : Int)) = ((N + k : Nat) : Int) := by
      simp [IntKind.wrap, IntKind.bits, IntKind.signed]; omega
    have hw2 : IntKind.u64.wrap (k : Int) = (k : Int) := by
      simp [IntKind.wrap, IntKind.bits, IntKind.signed]; omega
    have hfr : ∀ wx, (Instr.slice 49 (.slice a n c) (some (.int .i64 (k : Int))) none none).run Tryz.prog wx = .ok (.slice (dropA a k c) (n - k) (c - k)) wx := fun wx => slice_from (P := Tryz.prog) sl22 wx a n c k k rfl (by omega)
    have hqk : q + k ≤ 64 := by omega
    have HNB := Lib.hid hNb
    have HHK := Lib.hid hk
    clear hrs4 hPL hk hNb
    by_cases hlt : q + n < 64
    · have h10 : decide ((q : Int) + (k : Int) < 64) = true := by simp; have := HHK.out; omega
      have HLT := Lib.hid hlt
      clear hlt
      go_wp2_with (refine L_copyIn rfl (.tmp 18) (.tmp 19) 49 49 (by rfl) sl22 gh (8 + q) (64 - q) (64 - q) (by rfl) ((stOf m).list.map wv ++ tlH rs N) 309 HBK1.out HL2.out a n c p (by rfl) HR.out (fun w4 hb4 hg4 => ?_)
                   rw [HSP.out] at hb4
                   rw [← HKK.out]
                   have HB4 := Lib.hid hb4
                   have HG4 := Lib.hid hg4
                   have hn4 := cell_n (S8.list_len _) HS64.out hb4
                   have hf4 := frozen_of_row w4 gh 72 _ _ hb4
                   clear hb4 hg4 hsl hcn)
      refine bodyPost_ret (v := .tuple #[]) (by simp [results, Tryz.results162, go_sem]) rfl ?_
      have hpt : p.take (64 - q) = p := List.take_of_length_le (by rw [HPL.out]; have := HLT.out; omega)
      have hkn : k = n := by have := HHK.out; have := HLT.out; omega
      have hs5 := heap_setCell_same w4 gh 72 _ _ (.int .u64 ((N + k : Nat) : Int)) HB4.out
      rw [set_n (S8.list_len _) HS64.out] at hs5
      obtain ⟨e1, e2⟩ := more_short m p (by rw [← HN.out, HPL.out, ← HQ.out]; exact HLT.out)
      have hN2 : (m ++ p).length = N + k := by rw [List.length_append, ← HN.out, HPL.out, hkn]
      refine ⟨rfl, ⟨rs4, HS64.out, ?_, ?_⟩, grown_trans HG4.out (grown_set (grown_refl w4 (some gh)) 0 72 (.int .u64 ((N + k : Nat) : Int)))⟩
      · have h5 : (N + k) % 64 = q + n := by have := HQ.out; have := HLT.out; omega
        rw [e2, hN2, h5, HRS4.out, hpt, ← HRS.out, List.take_append_of_le_length (by rw [List.length_append, List.length_take, H64.out, HPL.out]; omega), List.take_of_length_le (by rw [List.length_append, List.length_take, H64.out, HPL.out]; omega)]
      · unfold hCells
        rw [e1, hN2]
        exact hs5
    · have h10 : decide ((q : Int) + (k : Int) < 64) = false := by simp; have := HHK.out; omega
      have HLT := Lib.hid hlt
      clear hlt
      go_wp2_with (refine L_copyIn rfl (.tmp 18) (.tmp 19) 49 49 (by rfl) sl22 gh (8 + q) (64 - q) (64 - q) (by rfl) ((stOf m).list.map wv ++ tlH rs N) 309 HBK1.out HL2.out a n c p (by rfl) HR.out (fun w4 hb4 hg4 => ?_)
                   rw [HSP.out] at hb4
                   rw [← HKK.out]
                   have HB4 := Lib.hid hb4
                   have HG4 := Lib.hid hg4
                   have hn4 := cell_n (S8.list_len _) HS64.out hb4
                   have hf4 := frozen_of_row w4 gh 72 _ _ hb4
                   clear hb4 hg4 hsl hcn)
      have HCNG := Lib.hid (hfr)
      clear hfr hn4 hf4 hw hw2 h10 hqk hmod2 h9
      obtain ⟨w5, hw5⟩ : ∃ w5, w5 = w4.setCell ⟨gh, 72, none⟩ (.int .u64 ((N + k : Nat) : Int)) := ⟨_, rfl⟩
      have hs5 := heap_setCell_same w4 gh 72 _ _ (.int .u64 ((N + k : Nat) : Int)) HB4.out
      rw [set_n (S8.list_len _) HS64.out, ← hw5] at hs5
      have HG5 := Lib.hid (show w.grownBy w5 (some gh) by rw [hw5]; exact grown_trans HG4.out (grown_set (grown_refl w4 (some gh)) 0 72 (.int .u64 ((N + k : Nat) : Int))))
      rw [show ((N : Int) + (k : Int)) = ((N + k : Nat) : Int) from by push_cast; rfl, ← hw5]
      have HS5 := Lib.hid hs5
      clear hw5 hs5
      have hkn : k = 64 - q := by have := HHK.out; have := HLT.out; omega
      have HKN := Lib.hid hkn
      clear hkn
      go_still_tail 7, (by kernel_rfl)
      change wpList _ _ _ _ _ w5.drew
      have HTK := Lib.hid (take_any w5.drew gh (stOf m) (tlH rs4 (N + k)) 309 HS5.out (some ⟨gh, 8, none⟩) 64 rs4 (r8_rest (S8.list_len _) HS64.out HS5.out) (show RoundTab w5 from rt_grown HXX.out.2.2 h3 hne HG5.out) (Nat.lt_of_lt_of_le h3 HG5.out.size))
      go_wp2_with fail
      refine HTK.out.mono ?_
      rintro e w6 ⟨rfl, hb6, hg6⟩
      have HB6 := Lib.hid hb6
      have HG6 := Lib.hid (show w5.grownBy w6 (some gh) from ⟨hg6.os, hg6.tape, hg6.output, hg6.size, hg6.block⟩)
      clear hb6 hg6 HTK
      go_wp2_with fail
      have hGG := grown_trans HG5.out HG6.out
      have hpk : (p.take (64 - q)).length = 64 - q := by rw [List.length_take, HPL.out]; have := HLT.out; omega
      have hr4 : rs4 = rest m ++ p.take k := by
        rw [HRS4.out, hpk, HRS.out, HKN.out, List.drop_of_length_le (by rw [H64.out]; omega), List.append_nil]
      have hml : m.length % 64 + (p.take k).length = 64 := by rw [HKN.out, hpk, ← HN.out, ← HQ.out]; omega
      obtain ⟨e1, e2⟩ := more_fill m (p.take k) hml
      have hN2 : (m ++ p.take k).length = N + k := by rw [List.length_append, ← HN.out, HKN.out, hpk]
      have h65 : (N + k) % 64 = 0 := by have := HKN.out; have := HQ.out; omega
      refine HK.out _ _ (write_t w w6 gh (dropA a k c) (n - k) (c - k) (m ++ p.take k) (p.drop k) ⟨rs4, HS64.out, ?_, ?_⟩ (by rw [hN2]; exact h65) (r8_grown (HR.out.dropA k (by have := HHK.out; omega)) (dropA_apart HXX.out.1 k c) hGG) (dropA_apart HXX.out.1 k c) (by rw [hN2]; have := HNB.out; have := HHK.out; omega) (rt_grown HXX.out.2.2 h3 hne hGG) (Nat.lt_of_lt_of_le h3 hGG.size) hne hGG _ _ _ _ _ _ _ _ _ _ _ _ _ _ _ _ _ _ _ _ _ _ _ _ _ _ _ _ _ _ _ _ _ _ _ _ _ _ _ _ _ _ _ _ _ _ _ _ _ _ _ _ _ _ _ _ _ _ _ _ _ _ _ _ _ _ _ _ _ _ _ _ _ _ _  _ (fun w' h1 h2 => ⟨rfl, (by rw [List.append_assoc, List.take_append_drop] at h1; exact h1), h2⟩))
      · rw [hN2, h65, e2]; rfl
      · unfold hCells
        rw [e1, hN2, ← hr4]
        exact HB6.out
end Go.Proofs.YtoboabkaojfbaaaGreatDoor
