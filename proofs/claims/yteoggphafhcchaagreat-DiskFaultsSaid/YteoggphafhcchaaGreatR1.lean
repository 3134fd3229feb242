import Derived.Test.YteoggphafhcchaaGreatQ0
import Derived.Deep.QuietTactic
import Derived.BigQuiet
namespace Go.Proofs.YteoggphafhcchaaGreat
open Go Go.RowKit
set_option maxRecDepth 100000
set_option maxHeartbeats 1000000
set_option linter.unusedVariables false
set_option linter.unusedSimpArgs false
open Go.Maps Go.WideMaps
theorem within_s (w : World) (x : Int) (hx0 : -9223372036854775808 ≤ x) (hx1 : x ≤ 9223372036854775807) :
    Calls Tryz.prog 5 #[.int .i64 x, .int .i64 0, .int .i64 10000000] w fun e w' => (∃ r : Nat, r ≤ 10000000 ∧ e = .returned (.int .i64 (r : Int))) ∧ w' = w := by
  have hq1 : -(10000001 : Int) < x.tmod 10000001 := by
    rcases Int.le_total 0 x with h | h
    · have := Int.tmod_nonneg (10000001 : Int) h; omega
    · have := Int.tmod_nonneg (10000001 : Int) (show 0 ≤ -x by omega)
      have h2 := Int.tmod_lt_of_pos (-x) (show (0 : Int) < 10000001 by omega)
      rw [Int.neg_tmod] at this h2; omega
  have hq2 : x.tmod 10000001 < 10000001 := Int.tmod_lt_of_pos x (by omega)
  obtain ⟨q, hq⟩ : ∃ q, q = x.tmod 10000001 := ⟨_, rfl⟩
  have HQ := Lib.hid hq
  rw [← hq] at hq1 hq2
  have hq' : x.tmod 10000001 = q := hq.symm
  clear hq
  have hw1 : wrap64 (q + 10000000) = q + 10000000 := by unfold wrap64; omega
  have hw3 : wrap64 (q + 10000000 + 1) = q + 10000000 + 1 := by unfold wrap64; omega
  have hw4 : wrap64 q = q := by unfold wrap64; omega
  cases hd : decide (q < 0)
  · have hn : ¬ q < 0 := of_decide_eq_false hd
    go_enter Tryz.func5, Tryz.ntmps5
    go_wp2
    go_ret
    exact ⟨⟨q.toNat, by omega, by rw [Int.toNat_of_nonneg (by omega)]; rfl⟩, rfl⟩
  · have hn : q < 0 := of_decide_eq_true hd
    go_enter Tryz.func5, Tryz.ntmps5
    go_wp2
    go_ret
    exact ⟨⟨(q + 10000000 + 1).toNat, by omega, by rw [Int.toNat_of_nonneg (by omega)]; rfl⟩, rfl⟩
theorem within_3 (w : World) (x : Int) (hx0 : -9223372036854775808 ≤ x) (hx1 : x ≤ 9223372036854775807) :
    Calls Tryz.prog 5 #[.int .i64 x, .int .i64 0, .int .i64 2] w fun e w' => (∃ r : Nat, r ≤ 2 ∧ e = .returned (.int .i64 (r : Int))) ∧ w' = w := by
  have hq1 : -(3 : Int) < x.tmod 3 := by
    rcases Int.le_total 0 x with h | h
    · have := Int.tmod_nonneg (3 : Int) h; omega
    · have := Int.tmod_nonneg (3 : Int) (show 0 ≤ -x by omega)
      have h2 := Int.tmod_lt_of_pos (-x) (show (0 : Int) < 3 by omega)
      rw [Int.neg_tmod] at this h2; omega
  have hq2 : x.tmod 3 < 3 := Int.tmod_lt_of_pos x (by omega)
  obtain ⟨q, hq⟩ : ∃ q, q = x.tmod 3 := ⟨_, rfl⟩
  have HQ := Lib.hid hq
  rw [← hq] at hq1 hq2
  have hq' : x.tmod 3 = q := hq.symm
  clear hq
  have hw1 : wrap64 (q + 2) = q + 2 := by unfold wrap64; omega
  have hw3 : wrap64 (q + 2 + 1) = q + 2 + 1 := by unfold wrap64; omega
  have hw4 : wrap64 q = q := by unfold wrap64; omega
  cases hd : decide (q < 0)
  · have hn : ¬ q < 0 := of_decide_eq_false hd
    go_enter Tryz.func5, Tryz.ntmps5
    go_wp2
    go_ret
    exact ⟨⟨q.toNat, by omega, by rw [Int.toNat_of_nonneg (by omega)]; rfl⟩, rfl⟩
  · have hn : q < 0 := of_decide_eq_true hd
    go_enter Tryz.func5, Tryz.ntmps5
    go_wp2
    go_ret
    exact ⟨⟨(q + 2 + 1).toNat, by omega, by rw [Int.toNat_of_nonneg (by omega)]; rfl⟩, rfl⟩
theorem ns_of {w : World} {ρ : Nat → Nat} {B n c : Nat} {a : Option Addr} {l : List Nat} (h : w.ownsRow B 3 1 (.slice a n c) n (l.map nV)) (h0 : ∀ k, B ≤ k → ρ k = 0) (hb : ∀ x ∈ l, x ≤ 9223372036854775806) : NsAt w ρ a n (l.map fun (x : Nat) => (x : Int)) := by
  have hl : l.length = n := by have := h.1; simpa using this
  refine ⟨by rw [List.length_map]; exact hl, fun j x hx => ?_⟩
  rw [List.getElem?_map] at hx
  cases hj : l[j]? with
  | none => rw [hj] at hx; cases hx
  | some y =>
    rw [hj] at hx
    obtain rfl : (y : Int) = x := by simpa using hx
    obtain ⟨a0, c0, hv, hg⟩ := owns_shape h
    obtain ⟨rfl, -, rfl⟩ := Value.slice.inj hv
    have hjl := (List.getElem?_eq_some_iff.1 hj).1
    obtain ⟨g, rfl, -, -⟩ := hg (by omega)
    have he : l.map nV = l.flatMap fun x => [nV x] := List.map_eq_flatMap
    have hlt := h.lt g rfl
    rw [he] at h
    have := own_at (enc := fun x => [nV x]) (s := 1) (fun _ => rfl) h hj 0 _ rfl
    have hy := hb y (List.mem_of_getElem? hj)
    exact ⟨g, 0, rfl, by simpa [nV] using this, h0 g hlt.1, by omega, by omega⟩
theorem Calm.loose {d : Dm} (h : Calm d) : ∀ x ∈ d.loose.2, x ≤ 9223372036854775806 := fun x hx => by
  unfold Dm.loose at hx
  obtain ⟨i, hi, rfl⟩ := List.mem_map.1 hx
  exact h.units i (reach_lt h.pre i hi)
theorem imgD_power (sp : Int) (d : Dm) (ks : List Nm) (hn : (keysOf d.safe).Nodup) (hk : ks = (keysOf d.kept).mergeSort fun x y => decide (x ≤ y)) : (imgD sp d.kept ks).power = true :=
  (imaged sp d.kept ks.length ks rfl (by rw [hk]; exact (List.mergeSort_perm _ _).nodup_iff.2 (by rw [keys_kept]; exact hn))).pw
theorem diskall_walk (w : World) (sp : Int) (hsp0 : -9223372036854775808 ≤ sp) (hsp1 : sp ≤ 9223372036854775807) (a : Option Addr) (n c : Nat) (ops : List Op3) (hsc : ScAt w w.heap.size a n ops) :
    Calls Tryz.prog 3 #[.int .i64 sp, .slice a n c] w fun e w' => e = .returned (.bool true) ∧ Below w.heap.size w w' := by
  have hfew := hsc.few
  have hlen := hsc.len
  have HSC := Lib.hid hsc
  have HLN := Lib.hid hlen
  clear hsc hlen
  go_enter Tryz.func3, Tryz.ntmps3
  go_upto_region 2 with (first
    | (go_at_call 5; refine (within_s w sp hsp0 hsp1).mono ?_; rintro e w1 ⟨⟨S, hS, rfl⟩, e1⟩; rw [e1]; clear e1 w1))
  obtain ⟨D, hD⟩ : ∃ D, D = madeD S ops := ⟨_, rfl⟩
  obtain ⟨hinv, hacts⟩ := Inv.made hS ops
  rw [← hD] at hinv hacts
  have hopl : ops.length = n := HLN.out
  have HI := Lib.hid hinv
  have HC := Lib.hid (hinv.calm hS (by omega) (by omega) (by omega))
  have HFN := Lib.hid (hinv.fine (by omega))
  have HRL := Lib.hid (restart_loose hinv)
  have HRC := Lib.hid (show Calm (D.restart D.changes.length D.unitsL) from restart_calm HC.out.pre HFN.out hinv.okc (hinv.units_all hS (by omega)) (by rw [hinv.ep]; omega) _ _ (fun s i h => by
    rw [List.take_of_length_le (by omega), hinv.rel] at h
    exact hinv.leg s i h))
  have HRZ := Lib.hid (show Calm (D.restart 0 []) from restart_calm HC.out.pre HFN.out hinv.okc (hinv.units_all hS (by omega)) (by rw [hinv.ep]; omega) _ _ (fun s i h => hinv.legS s i h))
  have hsk : ∀ s x, lk D.kept s = some x → legalB (bs s) = true ∧ x.length ≤ 10000000 := fun s x h => by
    rw [lk_kept] at h
    cases e : lk D.safe s with
    | none => rw [e] at h; cases h
    | some i =>
      rw [e] at h
      cases h
      exact ⟨hinv.legS s i e, Nat.le_trans (hinv.file_at i).safe hS⟩
  have HSK := Lib.hid hsk
  obtain ⟨ks, hks⟩ : ∃ ks, ks = (keysOf D.kept).mergeSort fun x y => decide (x ≤ y) := ⟨_, rfl⟩
  have HIK := Lib.hid (image_kept hinv hS (by omega) (by omega) (by omega) ks hks 1099511627776)
  have HKL := Lib.hid (show D.kept.length ≤ 4096 ∧ (keysOf D.kept).Nodup from ⟨by unfold Dm.kept; rw [List.length_map]; exact hinv.fewS, by rw [keys_kept]; exact hinv.ns⟩)
  have HKS := Lib.hid hks
  have hpw : D.power = true := hinv.pw
  have hep : D.epoch = 0 := hinv.ep
  have HPW := Lib.hid hpw
  have HEP := Lib.hid hep
  have HDM := Lib.hid hD
  clear hinv hsk hks hpw hep hacts hopl hD
  go_upto_region 4 with (first
    | (go_at_call 6; have _g := HDM; refine (made_any w S hS w.heap.size (Nat.le_refl _) a n c ops HSC.out).mono ?_; rintro e w2 ⟨hb2, La, ga, rfl, hda, hla⟩
       rw [← HDM.out] at hda
       have HD1 := Lib.hid hda
       have HL1 := Lib.hid hla
       have HB2 := Lib.hid hb2
       have HDN := Lib.hid HDM.out
       clear hda hla hb2 HDM _g)
    | (go_at_call 6; have _g := HDN; refine (made_any w2 S hS w.heap.size HB2.out.size a n c ops (HSC.out.below HB2.out)).mono ?_; rintro e w3 ⟨hb3, Lb, gb, rfl, hdb, hlb⟩
       rw [← HDN.out] at hdb
       have HDB := Lib.hid hdb
       have HDA := Lib.hid (HD1.out.below hb3)
       have HSEP := Lib.hid (show ∀ k, Lb.ρ k ≠ 0 → La.ρ k = 0 from fun k hk => by
         by_cases h9 : La.ρ k = 0
         · exact h9
         · exact absurd (hlb k (HD1.out.dom k h9)) hk)
       have HLB := Lib.hid (show ∀ k, k < w.heap.size → Lb.ρ k = 0 from fun k hk => hlb k (by have := HB2.out.size; omega))
       have HB3 := Lib.hid (HB2.out.trans (hb3.mono HB2.out.size))
       clear hdb hlb hb3 HD1 _g))
  obtain ⟨P, hP⟩ : ∃ P, P = bs D.pict := ⟨_, rfl⟩
  obtain ⟨rn, hrn⟩ : ∃ rn, rn = D.reach.length := ⟨_, rfl⟩
  obtain ⟨cn, hcn⟩ : ∃ cn, cn = D.changes.length := ⟨_, rfl⟩
  have HPP := Lib.hid hP
  have HRN := Lib.hid (And.intro hrn hcn)
  have hw3 : w.heap.size ≤ w3.heap.size := HB3.out.size
  have hcnb : cn ≤ 1000000000000 := by have h1 := HI.out.chl; have h2 := HLN.out; omega
  have hcn0 : -9223372036854775808 ≤ (cn : Int) := by omega
  have hcn1 : (cn : Int) ≤ 9223372036854775807 := by omega
  clear hP hrn hcn
  go_upto_region 7 with (first
    | (go_at_call 7; have _g := HDA; refine (same_any w3 La Lb ga gb D D HDA.out HDB.out HC.out HC.out (View.refl D)).mono ?_; rintro e w4 ⟨rfl, hb4⟩
       have HA4 := Lib.hid (HDA.out.below hb4)
       have HD4 := Lib.hid (HDB.out.below hb4)
       have HB4 := Lib.hid (HB3.out.trans (hb4.mono hw3))
       have hpa := picture_any w4 La ga D HA4.out HC.out.pre
       rw [← HPP.out, HPW.out] at hpa
       have HPA := Lib.hid hpa
       clear hb4 hpa HDA HDB _g)
    | (go_at_call 8; have _g := HPA; refine HPA.out.mono ?_; rintro e w5 ⟨rfl, hb5⟩
       have HA5 := Lib.hid (HA4.out.below hb5)
       have HD5 := Lib.hid (HD4.out.below hb5)
       have HB5 := Lib.hid (HB4.out.trans (hb5.mono HB4.out.size))
       have hla := loose_any w5 La ga D HA5.out HC.out.pre HC.out.units
       rw [← HRN.out.1, ← HRN.out.2] at hla
       have HLA := Lib.hid hla
       clear hb5 hla HPA HA4 HD4 _g))
  go_upto_region 8 with (first
    | (go_at_call 10; have _g := HLA; refine HLA.out.mono ?_; rintro e w6 ⟨hb6, a6, c6, rfl, ho6⟩
       have hns : NsAt w6 La.ρ a6 rn D.unitsL := ns_of (c := c6) ho6 (fun k hk => HA5.out.new k hk) HC.out.loose
       have HA6 := Lib.hid (HA5.out.below hb6)
       have HD6 := Lib.hid (HD5.out.below hb6)
       have HB6 := Lib.hid (HB5.out.trans (hb6.mono HB5.out.size))
       have hre := restart_any w6 La ga D HA6.out HC.out.pre HFN.out HI.out.okc a6 rn c6 (cn : Int) hcn0 hcn1 D.unitsL hns
       have HRE := Lib.hid hre
       clear hb6 ho6 hns hre HLA HA5 HD5 _g)
    | (go_at_call 9; have _g := HRE; refine HRE.out.mono ?_; rintro e w7 ⟨rfl, La7, hd7, hu7⟩
       obtain ⟨hdb7, hs7⟩ := HD6.out.other hu7 HSEP.out
       rw [HRN.out.2] at hd7
       have HA7 := Lib.hid hd7
       have HD7 := Lib.hid hdb7
       have HS7 := Lib.hid hs7
       have HL7 := Lib.hid (hu7.low HB6.out.size HL1.out)
       have HB7 := Lib.hid (HB6.out.trans (hu7.below HB6.out.size HL1.out))
       have hpa := picture_any w7 La7 ga _ hd7 HRC.out.pre
       rw [HRL.out.1, ← HPP.out, show (D.restart D.changes.length D.unitsL).power = true from rfl] at hpa
       have HPA := Lib.hid hpa
       clear hd7 hu7 hdb7 hs7 hpa HRE HA6 HD6 _g))
  obtain ⟨D7, hD7⟩ : ∃ D7, D7 = D.restart D.changes.length D.unitsL := ⟨_, rfl⟩
  rw [← hD7] at HA7 HRC HRL
  have HD7E := Lib.hid hD7
  clear hD7
  obtain ⟨r7, hr7⟩ : ∃ r7, r7 = D7.reach.length := ⟨_, rfl⟩
  have HR7 := Lib.hid hr7
  have hr7b : r7 < 1099511631873 := by rw [hr7]; exact reach_len HRC.out.pre
  clear hr7
  go_upto_region 9 with (first
    | (go_at_call 8; have _g := HPA; refine HPA.out.mono ?_; rintro e w8 ⟨rfl, hb8⟩
       have HA8 := Lib.hid (HA7.out.below hb8)
       have HD8 := Lib.hid (HD7.out.below hb8)
       have HB8 := Lib.hid (HB7.out.trans (hb8.mono HB7.out.size))
       have hla := loose_any w8 La7 ga D7 HA8.out HRC.out.pre HRC.out.units
       rw [← HR7.out, show D7.changes.length = 0 from HRL.out.2.1] at hla
       have HLA := Lib.hid hla
       clear hb8 hla HPA HA7 HD7 _g))
  go_upto_region 10 with (first
    | (go_at_call 10; have _g := HLA; refine HLA.out.mono ?_; rintro e w9 ⟨hb9, a9, c9, rfl, ho9⟩
       have HA9 := Lib.hid (HA8.out.below hb9)
       have HD9 := Lib.hid (HD8.out.below hb9)
       have HB9 := Lib.hid (HB8.out.trans (hb9.mono HB8.out.size))
       have HO9 := Lib.hid ho9
       clear hb9 ho9 HLA HA8 HD8 _g))
  obtain ⟨wA, hwA⟩ : ∃ wA, wA = w9.alloc (boxCut a9 r7 c9 0) := ⟨_, rfl⟩
  obtain ⟨gA, hgA⟩ : ∃ gA, gA = w9.heap.size := ⟨_, rfl⟩
  have hbA : Below w9.heap.size w9 wA := by rw [hwA]; exact bel1 _ _
  have hxA : wA.heap[gA]? = some (boxCut a9 r7 c9 0) := by rw [hwA, hgA]; exact heap_alloc_new w9 _
  rw [show (w9.alloc (.cells #[.slice a9 r7 c9, .int .i64 0] 32)) = wA from hwA.symm]
  rw [← hgA]
  have x0 := cell_of_row _ _ 0 _ _ _ hxA
  have x1 := cell_of_row _ _ 1 _ _ _ hxA
  simp only [List.getElem?_toArray, List.getElem?_cons_zero, List.getElem?_cons_succ] at x0 x1
  have HAA := Lib.hid (HA9.out.below hbA)
  have HDA := Lib.hid (HD9.out.below hbA)
  have HBA := Lib.hid (HB9.out.trans (hbA.mono HB9.out.size))
  have HOA := Lib.hid (own_below HO9.out hbA)
  have hepo := epoch_any wA La7 ga D7 HAA.out
  rw [show (D7.epoch : Int) = 1 by rw [HD7E.out]; show ((D.epoch + 1 : Nat) : Int) = 1; rw [HEP.out]; rfl] at hepo
  have HEPO := Lib.hid hepo
  have hwAs : w.heap.size ≤ wA.heap.size := HBA.out.size
  clear hwA hgA hbA hxA hepo HA9 HD9 HB9 HO9
  go_wp2_with (go_at_call 11; have _g := HEPO; refine HEPO.out.mono ?_; rintro e w' ⟨rfl, e1⟩; rw [e1]; clear e1 w' HEPO _g)
  go_loopw [12] (fun iv wr => ∃ k : Nat, k ≤ r7 ∧ iv = .int .i64 k ∧ wr = wA) (fun iv _ => r7 - (intOf iv).toNat)
  case atStart => exact ⟨0, Nat.zero_le _, rfl, rfl⟩
  case round =>
    obtain ⟨k, hk, rfl, e9⟩ := hrel
    rw [e9]
    clear e9
    by_cases hkl : k < r7
    · have hy : ∃ y, D7.loose.2[k]? = some y := ⟨_, List.getElem?_eq_getElem (by unfold Dm.loose; rw [List.length_map, ← HR7.out]; exact hkl)⟩
      obtain ⟨y, hy⟩ := hy
      obtain rfl : y = 0 := HRL.out.2.2 y (List.mem_of_getElem? hy)
      obtain ⟨a0, c0, hv, hg⟩ := owns_shape HOA.out
      obtain ⟨rfl, -, rfl⟩ := Value.slice.inj hv
      obtain ⟨g, rfl, -, -⟩ := hg (by omega)
      have hcell : wA.cell? ⟨g, k, none⟩ = some (.int .i64 0) := by
        have he : D7.loose.2.map nV = D7.loose.2.flatMap fun x => [nV x] := List.map_eq_flatMap
        have ho := HOA.out
        rw [he] at ho
        have := own_at (enc := fun x => [nV x]) (s := 1) (fun _ => rfl) ho hy 0 _ rfl
        simpa [nV] using this
      clear hv hg hy
      go_wp2_with fail
      go_roundw
      case rel => exact ⟨k + 1, by omega, by push_cast; rfl, trivial⟩
      case measure => simp [intOf]; omega
    · obtain rfl : k = r7 := by omega
      have hka := kept_any wA Lb gb D HDA.out HC.out.pre
      have HKA := Lib.hid hka
      clear hka
      go_upto_region 19 with (first
        | (go_at_call 12; have _g := HKA; refine HKA.out.mono ?_; rintro e wB ⟨hbB, kb, rfl, hK⟩
           have HAB := Lib.hid (HAA.out.below hbB)
           have HDB := Lib.hid (HDA.out.below hbB)
           have HBB := Lib.hid (HBA.out.trans (hbB.mono hwAs))
           have him := image_any wB wA.heap.size kb D.kept hK HSK.out HKL.out.1 HKL.out.2 ks HKS.out
           have HIMG := Lib.hid him
           clear hbB hK him HKA HAA HDA x0 x1 _g)
        | (go_at_call 13; have _g := HIMG; refine HIMG.out.mono ?_; rintro e wC ⟨hbC, Lc, gc, rfl, hdc, hlc⟩
           have HAC := Lib.hid (HAB.out.below hbC)
           have HDC := Lib.hid (HDB.out.below hbC)
           have HCC := Lib.hid hdc
           have HBC := Lib.hid (HBB.out.trans (hbC.mono HBB.out.size))
           have HSC2 := Lib.hid (show ∀ k, Lc.ρ k ≠ 0 → Lb.ρ k = 0 from fun k hk => by
             by_cases h9 : Lb.ρ k = 0
             · exact h9
             · exact absurd (hlc k (HDB.out.dom k h9)) hk)
           have hre := restart_any wC Lb gb D HDC.out HC.out.pre HFN.out HI.out.okc none 0 0 0 (by decide) (by decide) [] ⟨rfl, fun j x h => by cases h⟩
           have HRE := Lib.hid hre
           clear hbC hdc hlc hre HIMG HAB HDB _g))
      have hz : ({ D with power := true } : Dm).restart 0 [] = D.restart 0 [] := rfl
      obtain ⟨DZ, hDZ⟩ : ∃ DZ, DZ = D.restart 0 [] := ⟨_, rfl⟩
      obtain ⟨DI, hDI⟩ : ∃ DI, DI = imgD 1099511627776 D.kept ks := ⟨_, rfl⟩
      rw [← hDZ] at HRE HRZ HIK
      rw [← hDI] at HCC HIK
      have HDP := Lib.hid (show DI.power = true by rw [hDI]; exact imgD_power _ D ks HI.out.ns HKS.out)
      obtain ⟨Q, hQ⟩ : ∃ Q, Q = bs DZ.pict := ⟨_, rfl⟩
      have HQ := Lib.hid hQ
      have HDZ := Lib.hid hDZ
      clear hz hDZ hDI hQ
      go_upto_region 24 with (first
        | (go_at_call 9; have _g := HRE; refine HRE.out.mono ?_; rintro e wE ⟨rfl, LE, hde, hue⟩
           obtain ⟨hcE, hsE⟩ := HCC.out.other hue HSC2.out
           have HBE := Lib.hid hde
           have HCE := Lib.hid hcE
           have HAE := Lib.hid (HAC.out.other hue (fun k hk => by
             by_cases h9 : Lb.ρ k = 0
             · exact h9
             · exact absurd (HS7.out k h9) hk)).1
           have HBB2 := Lib.hid (HBC.out.trans (hue.below HBC.out.size HLB.out))
           have hpz := picture_any wE LE gb DZ hde HRZ.out.pre
           rw [← HQ.out, show DZ.power = true by rw [HDZ.out]; rfl] at hpz
           have HPZ := Lib.hid hpz
           clear hde hue hcE hsE hpz HRE HCC HAC HDC _g)
        | (go_at_call 8; have _g := HPZ; refine HPZ.out.mono ?_; rintro e wF ⟨rfl, hbF⟩
           have HAF := Lib.hid (HAE.out.below hbF)
           have HBF := Lib.hid (HBE.out.below hbF)
           have HCF := Lib.hid (HCE.out.below hbF)
           have HBB3 := Lib.hid (HBB2.out.trans (hbF.mono HBB2.out.size))
           have hpi := picture_any wF Lc gc DI HCF.out HIK.out.2.1.pre
           rw [← HIK.out.1, ← HQ.out, HDP.out] at hpi
           have HPI := Lib.hid hpi
           clear hbF hpi HPZ HAE HBE HCE _g)
        | (go_at_call 8; have _g := HPI; refine HPI.out.mono ?_; rintro e wG ⟨rfl, hbG⟩
           have HAG := Lib.hid (HAF.out.below hbG)
           have HBG := Lib.hid (HBF.out.below hbG)
           have HCG := Lib.hid (HCF.out.below hbG)
           have HBB4 := Lib.hid (HBB3.out.trans (hbG.mono HBB3.out.size))
           clear hbG HPI HAF HBF HCF _g))
      have HE1 : ∀ nq : Nat, Calls Tryz.prog 11 #[.pointer (some ⟨gc, 0, none⟩)] (wG.drewN nq) fun e w' => e = .returned (.int .i64 0) ∧ w' = wG.drewN nq := fun nq => by
        have h9 := epoch_any (wG.drewN nq) Lc gc DI (HCG.out.below (below_drewN (Below.refl _ _) nq))
        rw [HIK.out.2.2.1] at h9
        exact h9
      have HE2 : ∀ nq : Nat, Calls Tryz.prog 14 #[.pointer (some ⟨gc, 0, none⟩)] (wG.drewN nq) fun e w' => e = .returned (.int .i64 0) ∧ w' = wG.drewN nq := fun nq => by
        have h9 := acts_any (wG.drewN nq) Lc gc DI (HCG.out.below (below_drewN (Below.refl _ _) nq))
        rw [HIK.out.2.2.2] at h9
        exact h9
      obtain ⟨A, hA⟩ : ∃ A : Int, A = (D.acts : Int) := ⟨_, rfl⟩
      have HE3 : ∀ nq : Nat, Calls Tryz.prog 14 #[.pointer (some ⟨gb, 0, none⟩)] (wG.drewN nq) fun e w' => e = .returned (.int .i64 A) ∧ w' = wG.drewN nq := fun nq => by
        have h9 := acts_any (wG.drewN nq) LE gb DZ (HBG.out.below (below_drewN (Below.refl _ _) nq))
        rw [HDZ.out] at h9
        rw [hA]
        exact h9
      have HE4 : ∀ nq : Nat, Calls Tryz.prog 14 #[.pointer (some ⟨ga, 0, none⟩)] (wG.drewN nq) fun e w' => e = .returned (.int .i64 A) ∧ w' = wG.drewN nq := fun nq => by
        have h9 := acts_any (wG.drewN nq) La7 ga D7 (HAG.out.below (below_drewN (Below.refl _ _) nq))
        rw [HD7E.out] at h9
        rw [hA]
        exact h9
      have HE1 := Lib.hid HE1
      have HE2 := Lib.hid HE2
      have HE3 := Lib.hid HE3
      have HE4 := Lib.hid HE4
      clear hA
      go_quiet (first
        | (go_at_call 11; exact Calls.quiet_of_same (HE1.out _))
        | (go_at_call_of 14 (Value.pointer (some ⟨gc, 0, none⟩)); exact Calls.quiet_of_same (HE2.out _))
        | (go_at_call_of 14 (Value.pointer (some ⟨gb, 0, none⟩)); exact Calls.quiet_of_same (HE3.out _))
        | (go_at_call_of 14 (Value.pointer (some ⟨ga, 0, none⟩)); exact Calls.quiet_of_same (HE4.out _)))
      go_wp2_with fail
      go_ret
      exact ⟨rfl, below_drewN HBB4.out _⟩
end Go.Proofs.YteoggphafhcchaaGreat
