import Derived.Test.YteoggphafhcchaaD23b
namespace Go.Proofs.Yteoggphafhcchaa
open Go Go.RowKit Go.Shelf
set_option maxRecDepth 100000
set_option maxHeartbeats 1000000
set_option linter.unusedVariables false
set_option linter.unusedSimpArgs false
open Go.Maps Go.WideMaps Go.ChangeMaps
theorem IsFault.below {w w' : World} {e : Value} {c n : ByteArray} {y : Int} (h : IsFault w e c n y) (hb : Below w.heap.size w w') : IsFault w' e c n y := by
  obtain ⟨g, e1, h⟩ := h
  exact ⟨g, e1, (hb.block g (Array.getElem?_eq_some_iff.1 h).1).trans h⟩
theorem IsFault.turn {w w' : World} {e : Value} {c n : ByteArray} {y : Int} {b m : Nat} {R : Value → Option (DataW Unit × List MemPlace)} {D : DataW Unit} (h : IsFault w e c n y) (hm : w.ownsMap Try.prog 9 R b m D) (hg : w.grownBy w' (some b)) : IsFault w' e c n y := by
  obtain ⟨g, e1, h⟩ := h
  obtain ⟨es, ck, hb, -⟩ := hm
  refine ⟨g, e1, (hg.block g (Array.getElem?_eq_some_iff.1 h).1 (fun e => ?_)).trans h⟩
  rw [Option.some.inj e, hb] at h; cases h
theorem below_turn {w w1 w2 : World} {B b : Nat} (h : Below B w w1) (hg : w1.grownBy w2 (some b)) (hb : B ≤ b) (hs : B ≤ w.heap.size := by omega) : Below B w w2 :=
  h.trans ⟨hg.os, hg.tape, hg.output, hg.size, fun j hj => hg.block j (by have := h.size; omega) (fun e => by have := Option.some.inj e; omega)⟩
abbrev omB : ByteArray := ⟨#[111, 110, 101, 45, 109, 111, 114, 101]⟩
abbrev twB : ByteArray := ⟨#[116, 119, 111, 45, 109, 111, 114, 101]⟩
theorem om_le : omB.size ≤ maxLen := by unfold maxLen; decide
theorem tw_le : twB.size ≤ maxLen := by unfold maxLen; decide
theorem om_legal : legalB omB = true := by decide
theorem tw_legal : legalB twB = true := by decide
theorem other_no {j : Nat} {E : DataW Unit} (h : Laid j E) {s : ByteArray} (hs : s.size ≠ 6) : has E (kL s) = false := by
  cases hh : has E (kL s)
  · rfl
  · obtain ⟨i, -, e⟩ := (h.2.1 _).1 hh
    rw [e, crowd_size] at hs
    exact absurd rfl hs
theorem gone_facts {E : DataW Unit} (ht : Tidy E) (hm : IsMap E) (hs : size E = 4096) (ho : has E (kL omB) = true) (hl : ∀ s : ByteArray, at? E s = .nil ↔ has E (kL s) = false) :
    size (E.del (kL omB)) = 4095 ∧ at? (E.del (kL omB)) omB = .nil ∧ ∀ s : ByteArray, at? (E.del (kL omB)) s = .nil ↔ has (E.del (kL omB)) (kL s) = false := by
  refine ⟨?_, by rw [at_del, if_pos rfl], nil_del hl _⟩
  have := size_del (k := kL omB) ht
  rw [ho, hs] at this
  simpa using this
attribute [local go_sem] Oper.semAt_some
theorem crowd_walk (w : World) (n i : Int) (hn0 : -9223372036854775808 ≤ n) (hn1 : n ≤ 9223372036854775807) (hi0 : -9223372036854775808 ≤ i) (hi1 : i ≤ 9223372036854775807) :
    Calls Try.prog 3 #[.int .i64 n, .int .i64 i] w fun e w' => e = .returned (.bool true) ∧ Below w.heap.size w w' := by
  have hmm := @run_makeMap Try.prog
  refine (callsIn_wide (n := 5)).1 (callsIn_of_wp_marks Try.func3 rfl trivial (wpIn_wide.2 ?_) rfl)
  simp only [Try.ntmps3, List.size_toArray, List.length_cons, List.length_nil, Nat.reduceAdd, Nat.reduceSub, Array.replicate_succ, Array.replicate_zero, List.push_toArray, List.append_toArray, List.nil_append, List.cons_append]
  go_wp2_with (go_at_call 4; refine (within_n _ n hn0 hn1).mono ?_; rintro e w' ⟨⟨r, hr0, hr1, rfl⟩, rfl⟩)
  clear hmm
  go_loopw [6] (fun v wr => ∃ (k : Nat) (D : DataW Unit), k ≤ r ∧ v = .int .i64 k ∧ wr.ownsMap Try.prog 9 lenR w'.heap.size k D ∧ Hid (Crowd k D) ∧ Below w'.heap.size w' wr)
    (fun v _ => r - (intOf v).toNat)
  case atStart =>
    exact ⟨0, _, Nat.zero_le _, rfl, World.ownsMap_made w' Try.prog 9 lenR, Crowd.zero, (Below.refl _ _).alloc (Nat.le_refl _) _⟩
  case round =>
    obtain ⟨k, D, hk, rfl, hown, hcr, hbl⟩ := hrel
    by_cases hkr : k < r
    · have HO := Lib.hid hown
      have HBL := Lib.hid hbl
      clear hown hbl
      go_wp2_with (first
        | (go_at_call 5; refine (crowded_any _ k (by omega)).mono ?_; rintro e w2 ⟨rfl, hb2⟩)
        | (at_mapUpdate; refine wpList_mapUpdate_own _ rfl _ _ _ 23 rfl 9 24 law9 Try.underlying23 lenR w'.heap.size k D rfl (HO.out.kept (gwk hb2) (by simp)) (by unfold maxLen; omega) _ _ _ rfl rfl (key9 (crowd_le k)) (.lit (.int .i64 0)) [] rfl ?_; intro w3 hown3 hgrow3)
        | go_in)
      have hbw : Below w'.heap.size w' w3 := (HBL.out.trans (hb2.mono HBL.out.size)).trans ⟨hgrow3.os, hgrow3.tape, hgrow3.output, hgrow3.size, fun j hj => hgrow3.block j (by have := HBL.out.size; have := hb2.size; omega) (fun e => by have := Option.some.inj e; omega)⟩
      exact ⟨⟨k + 1, _, by omega, by push_cast; rfl, hown3, hcr.out.step (by omega) (HO.out.tidy law9) HO.out.isMap, hbw⟩, by simp [intOf]; omega⟩
    · obtain rfl : k = r := by omega
      have HO := Lib.hid hown
      have HBL := Lib.hid hbl
      have HCR := Lib.hid hcr
      clear hown hbl hcr
      have hown := HO.out
      by_cases hbig : 4096 < k
      · obtain ⟨D1, hD1⟩ : ∃ D1, D1 = D.put (kL (crowdB 0)) (.lit (.int .i64 1)) := ⟨_, rfl⟩
        have hh0 : has D (kL (crowdB 0)) = true := (HCR.out.2.1 _).2 ⟨0, by omega, rfl⟩
        have hs1 : size D1 = k := by rw [hD1, size_put (hown.tidy law9), hh0, HCR.out.1]; rfl
        have hl1 : ∀ s : ByteArray, has D1 (kL s) = true → legalB s = true := by
          intro s hs
          rw [hD1] at hs
          by_cases e : s = crowdB 0
          · rw [e]; exact crowd_legal 0
          · rw [has_put_other (fun e1 => e (kL_inj e1))] at hs
            obtain ⟨j, -, rfl⟩ := (HCR.out.2.1 s).1 hs
            exact crowd_legal j
        have hf7 : ∀ r', FitsOut D1 r' → r' = 7 := by
          intro r' h
          rcases h with ⟨⟨s, h1, h2⟩, -⟩ | ⟨-, ⟨-, h1⟩ | ⟨h1, -⟩⟩
          · rw [hl1 s h2] at h1; cases h1
          · exact h1
          · omega
        rw [hD1] at hf7
        have hf34 : ∀ r', FitsOut ((D.put (kL (crowdB 0)) (.lit (.int .i64 1))).put (kL ⟨#[65]⟩) (.lit (.int .i64 0))) r' → r' = 34 := by
          intro r' h
          rcases h with ⟨-, h1⟩ | ⟨h1, -⟩
          · exact h1
          · have := h1 ⟨#[65]⟩ (has_put_same (hown.isMap.put _ _) (keylit _) _)
            exact absurd this (by decide)
        have HF34 := Lib.hid hf34
        have HF7 := Lib.hid hf7
        clear hown hf7 hf34 hl1 hs1 hh0
        go_wp2_with (first
          | (go_at_call 5; refine (crowded_any _ 0 (by omega)).mono ?_; rintro e w2 ⟨rfl, hb2⟩)
          | (at_mapUpdate; refine wpList_mapUpdate_own _ rfl _ _ _ 23 rfl 9 24 law9 Try.underlying23 lenR w'.heap.size k D rfl ((HO.out.kept (gwk hb2) (by simp)).alloc _) (by unfold maxLen; omega) _ _ _ rfl rfl (key9 (crowd_le 0)) (.lit (.int .i64 1)) [] rfl ?_; intro w3 hown3 hgrow3
             have hbw3 : Below w'.heap.size w' w3 := below_turn ((HBL.out.trans (hb2.mono HBL.out.size)).alloc (by have := HBL.out.size; have := hb2.size; omega) _) hgrow3 (Nat.le_refl _)
             clear hb2 hgrow3)
          | (go_at_call 6; refine (image_bad w3 w'.heap.size (k + 1) _ hown3 (by omega) 7 HF7.out (by decide)).mono ?_; rintro e w4 ⟨⟨v1, rfl, hv1⟩, hb4⟩
             have hown4 := hown3.kept (gwk hb4) (by simp)
             have hbw4 := hbw3.trans (hb4.mono hbw3.size)
             clear hown3 hb4 hbw3)
          | (at_mapUpdate; refine wpList_mapUpdate_own _ rfl _ _ _ 23 rfl 9 24 law9 Try.underlying23 lenR w'.heap.size (k + 1) (D.put (kL (crowdB 0)) (.lit (.int .i64 1))) rfl hown4 (by unfold maxLen; omega) _ _ _ rfl rfl (key9 (s := ⟨#[65]⟩) (by unfold maxLen; decide)) (.lit (.int .i64 0)) [] rfl ?_; intro w5 hown5 hgrow5
             have hv5 := hv1.turn hown4 hgrow5
             have hbw5 := below_turn hbw4 hgrow5 (Nat.le_refl _)
             clear hown4 hv1 hbw4 hgrow5)
          | (go_at_call 6; refine (image_bad w5 w'.heap.size (k + 2) _ hown5 (by omega) 34 HF34.out (by decide)).mono ?_; rintro e w6 ⟨⟨v2, rfl, hv2⟩, hb6⟩
             have hv6 := hv5.below hb6
             have hbw6 := hbw5.trans (hb6.mono hbw5.size)
             clear hown5 hv5 hb6 hbw5)
          | (go_at_call 7; refine (is_same _ v1 _ _ _ hv6).mono ?_; clear hv6; rintro e w7 ⟨rfl, rfl⟩)
          | (go_at_call 7; refine (is_same _ v2 _ _ _ hv2).mono ?_; clear hv2; rintro e w7 ⟨rfl, rfl⟩)
          | go_in)
        refine postM_of ?_
        go_returns
        exact ⟨rfl, hbw6⟩
      · have hl0 : ∀ s : ByteArray, has D (kL s) = true → legalB s = true := fun s hs => by obtain ⟨j, -, rfl⟩ := (HCR.out.2.1 s).1 hs; exact crowd_legal j
        have hsD := HCR.out.1
        clear hown
        go_wp2_with (first
          | (go_at_call 6; refine (image_any wr w'.heap.size k D HO.out (by omega) hl0 (by omega) (by omega) HCR.out.2.2).mono ?_; rintro e w2 ⟨⟨gd, d, E, rfl, hnew, hfl, hsE, hat, hhas⟩, hb2⟩
             have hbw2 := HBL.out.trans (hb2.mono HBL.out.size)
             have hBw : w'.heap.size ≤ wr.heap.size := HBL.out.size
             obtain ⟨B, hB⟩ : ∃ B, B = wr.heap.size := ⟨_, rfl⟩
             rw [← hB] at hnew hBw
             have HN := Lib.hid hnew
             have HL0 := Lib.hid (show Laid k E from ⟨hsE.trans hsD, fun s => (hhas s).trans (HCR.out.2.1 s), fun s => (hat s).trans (by
               cases hh : has E (kL s) <;> cases hh2 : has D (kL s) <;> simp
               · have := (hhas s).2 hh2; rw [hh] at this; cases this
               · have := (hhas s).1 hh; rw [hh2] at this; cases this)⟩)
             have HB2 := Lib.hid hbw2
             clear hnew hat hhas hb2 hbw2 hB)
          | go_in)
        go_loopw [13] (fun v wx => ∃ (j : Nat) (E : DataW Unit) (d2 : Dk), k ≤ j ∧ j ≤ 4096 ∧ v = .int .i64 j ∧ St wx B gd d2 (j - k) j E ∧ Hid (Laid j E) ∧ d2.acts = (j : Int) - k ∧ 0 ≤ d2.files ∧ d2.files ≤ j ∧ Below w'.heap.size w' wx)
          (fun v _ => 4096 - (intOf v).toNat)
        case atStart =>
          refine ⟨k, E, d, Nat.le_refl _, by omega, rfl, by rw [Nat.sub_self]; have := HN.out.st; rw [hsD] at this; exact this, HL0.out, by rw [HN.out.ac]; omega, by omega, by omega, HB2.out⟩
        case round =>
          obtain ⟨j, E2, d2, hj0, hj1, rfl, hst, hld, hac, hf0, hf1, hbx⟩ := hrel
          have HST := Lib.hid hst
          have HBX := Lib.hid hbx
          have hzx := hbx.size
          clear hst hbx
          by_cases hj : j < 4096
          · go_wp2_with (go_at_call 5; refine (crowded_any _ j (by omega)).mono ?_; rintro e w3 ⟨rfl, hb3⟩)
            have hno := hld.out.no (by omega : j < 10000)
            have hsj := hld.out.1
            have hzy := hb3.size
            have hzz := HST.out.hB
            have hzu := HST.out.lt
            have hq := create_new w3 B gd d2 (j - k) j E2 (HST.out.below hb3) (by omega) (by omega) (by omega) (crowdB j) (crowd_le j) (crowd_legal j) ((hld.out.2.2 _).2 hno) (by omega) (wrap_small hf0 (by omega)) (wrap_small (by omega) (by omega))
            go_wp2_with (first
              | (go_at_call 8; refine hq.mono ?_; clear hq; rintro e w4 ⟨rfl, ⟨g, d3, hst3, ha3, hf30, hf31⟩, hb4⟩)
              | go_in)
            refine ⟨⟨j + 1, _, d3, by omega, by omega, by push_cast; rfl, by rw [show j + 1 - k = j - k + 1 by omega]; exact hst3, hld.out.step (by omega) (HST.out.m.tidy law9) HST.out.m.isMap g, by rw [ha3, hac]; push_cast; omega, by omega, by push_cast; omega, (HBX.out.trans (hb3.mono hzx)).trans (hb4.mono hBw)⟩, by simp [intOf]; omega⟩
          · obtain rfl : j = 4096 := by omega
            have hall : ∀ j, j < 4096 → ∃ g : Nat, at? E2 (crowdB j) = .lit (.int .i64 g) := fun j hj => by
              rcases (look_ptr HST.out.m (crowd_le j)).2 with h | h
              · have h1 := (hld.out.2.2 _).1 h
                rw [(hld.out.2.1 _).2 ⟨j, hj, rfl⟩] at h1; cases h1
              · exact h
            have hom : at? E2 omB = .nil := (hld.out.2.2 _).2 (other_no hld.out (by decide))
            have hgl := HST.out.lt
            have hgB := HST.out.hB
            have hse := hld.out.1
            have HALL := Lib.hid hall
            clear hall
            go_wp2_with (first
              | (go_at_call 4; refine (within_i _ i hi0 hi1).mono ?_; rintro e w3 ⟨⟨r2, hr2, rfl⟩, e9⟩; rw [e9]; clear e9 w3)
              | (go_at_call 8; refine (create_full wr B gd d2 (4096 - k) 4096 E2 HST.out (by omega) omB om_le om_legal hom (by omega)).mono ?_; rintro e w4 ⟨⟨v1, rfl, hv1⟩, hb4⟩
                 have hs4 := HST.out.below hb4
                 have hx4 := HBX.out.trans (hb4.mono hzx)
                 have hy4 := hb4.size
                 clear HST HBX hb4)
              | (go_at_call 7; refine (is_same _ v1 _ _ _ hv1).mono ?_; clear hv1; rintro e w7 ⟨rfl, e9⟩; rw [e9]; clear e9 w7)
              | (go_at_call 5; have _g := hs4; refine (crowded_any _ r2 (by omega)).mono ?_; clear _g; rintro e w5 ⟨rfl, hb5⟩
                 have hs5 := hs4.below hb5
                 have hx5 := hx4.trans (hb5.mono (by omega))
                 have hy5 := hb5.size
                 obtain ⟨g, hg⟩ := HALL.out r2 (by omega)
                 clear hs4 hx4 hb5)
              | (go_at_call 8; refine (create_here w5 B gd d2 (4096 - k) 4096 E2 hs5 (by omega) (crowdB r2) (crowd_le r2) (crowd_legal r2) g hg).mono ?_; rintro e w6 ⟨⟨v2, rfl, hv2⟩, hb6⟩
                 have hs6 := hs5.below hb6
                 have hx6 := hx5.trans (hb6.mono (by omega))
                 have hy6 := hb6.size
                 clear hs5 hx5 hb6)
              | (go_at_call 7; refine (is_same _ v2 _ _ _ hv2).mono ?_; clear hv2; rintro e w7 ⟨rfl, e9⟩; rw [e9]; clear e9 w7)
              | (go_at_call 9; refine (acts_any w6 gd d2 hs6.g).mono ?_; rintro e w7 ⟨rfl, e9⟩; rw [e9, hac]; clear e9 w7; have HAC := Lib.hid hac; clear hac)
              | (go_at_call 5; have _g := hs6; refine (crowded_any _ r2 (by omega)).mono ?_; clear _g; rintro e w8 ⟨rfl, hb8⟩
                 have hs8 := hs6.below hb8
                 have hx8 := hx6.trans (hb8.mono (by omega))
                 have hy8 := hb8.size
                 clear hs6 hx6 hb8)
              | (go_at_call 5; have _g := hs8; rw [show ((r2 : Int) + 1) % 4096 = (((r2 + 1) % 4096 : Nat) : Int) by omega]; refine (crowded_any _ ((r2 + 1) % 4096) (by omega)).mono ?_; clear _g; rintro e w9 ⟨rfl, hb9⟩
                 have hs9 := hs8.below hb9
                 have hx9 := hx8.trans (hb9.mono (by omega))
                 have hy9 := hb9.size
                 obtain ⟨g2, hg2⟩ := HALL.out ((r2 + 1) % 4096) (by omega)
                 clear hs8 hx8 hb9)
              | (go_at_call 10; have _g := hs9; refine (rename_any w9 B gd d2 (4096 - k) 4096 E2 hs9 (by omega) (by omega) (by omega) (crowdB r2) (crowdB ((r2 + 1) % 4096)) (crowd_le _) (crowd_le _) (crowd_legal _) (crowd_legal _) (crowd_ne (by omega) (by omega) (by omega)) g g2 hg hg2 (wrap_small (by rw [HAC.out]; omega) (by rw [HAC.out]; omega))).mono ?_; clear _g; rintro e w10 ⟨rfl, ⟨d3, hs10, ha3, hf30, hf31⟩, hb10⟩
                 have hx10 := hx9.trans (hb10.mono hBw)
                 have hy10 := hb10.size
                 obtain ⟨z3, o3, l3⟩ := swap_facts hld.out (hs9.m.tidy law9) hs9.m.isMap (r := r2) (t := (r2 + 1) % 4096) (by omega) (by omega) (by omega) g
                 obtain ⟨E3, hE3⟩ : ∃ E3, E3 = (E2.del (kL (crowdB r2))).put (kL (crowdB ((r2 + 1) % 4096))) (.lit (.int .i64 g)) := ⟨_, rfl⟩
                 rw [← hE3] at hs10 z3 o3 l3
                 have h3om := (l3 omB).2 (o3 omB (by decide))
                 have hno3 := o3 omB (by decide)
                 have HL3 := Lib.hid l3
                 have HO3 := Lib.hid o3
                 have ha3' : d3.acts = 4096 - (k : Int) + 1 := by rw [ha3, HAC.out]; omega
                 clear hs9 hx9 hb10 l3 o3 ha3)
              | (go_at_call 8; have _g := hs10; refine (create_new w10 B gd d3 (4096 - k + 1) (4096 + 1) E3 hs10 (by omega) (by omega) (by omega) omB om_le om_legal h3om (by omega) (wrap_small (by omega) (by omega)) (wrap_small (by omega) (by omega))).mono ?_; clear _g; rintro e w11 ⟨rfl, ⟨g3, d4, hs11, ha4, hf40, hf41⟩, hb11⟩
                 have hx11 := hx10.trans (hb11.mono hBw)
                 have hy11 := hb11.size
                 have hE3m := hs10.m.isMap
                 have hl4 := nil_put hE3m HL3.out omB g3
                 have h4em : at? (E3.put (kL omB) (.lit (.int .i64 g3))) ByteArray.empty = .nil := by rw [at_put hE3m, if_neg (by decide)]; exact (HL3.out _).2 (HO3.out _ (by decide))
                 have z4 : size (E3.put (kL omB) (.lit (.int .i64 g3))) = 4096 := by rw [size_put (hs10.m.tidy law9), hno3, z3]; rfl
                 have h4tw : at? (E3.put (kL omB) (.lit (.int .i64 g3))) twB = .nil := by rw [at_put hs10.m.isMap, if_neg (by decide)]; exact (HL3.out twB).2 (HO3.out twB (by decide))
                 clear hs10 hx10 hb11)
              | (go_at_call 8; have _g := hs11; refine (create_full w11 B gd d4 _ _ _ hs11 (by omega) twB tw_le tw_legal h4tw (by omega)).mono ?_; clear _g; rintro e w12 ⟨⟨v3, rfl, hv3⟩, hb12⟩
                 have hs12 := hs11.below hb12
                 have hx12 := hx11.trans (hb12.mono (by omega))
                 have hy12 := hb12.size
                 clear hs11 hx11 hb12)
              | (go_at_call 7; have _g := hv3; refine (is_same _ v3 _ _ _ hv3).mono ?_; clear hv3 _g; rintro e w7 ⟨rfl, e9⟩; rw [e9]; clear e9 w7)
              | (go_at_call 11; have _g := hs12; have h4om : at? (E3.put (kL omB) (.lit (.int .i64 g3))) omB = .lit (.int .i64 g3) := (by rw [at_put hE3m, if_pos rfl])
                 refine (remove_any w12 B gd d4 _ _ _ hs12 (by omega) (by omega) omB om_le om_legal g3 h4om h4em (wrap_small (by omega) (by omega))).mono ?_; clear _g; rintro e w13 ⟨rfl, ⟨d5, hs13, ha5, hf50, hf51⟩, hb13⟩
                 have hx13 := hx12.trans (hb13.mono hBw)
                 have hy13 := hb13.size
                 obtain ⟨z5, n5, l5⟩ := gone_facts (hs12.m.tidy law9) hs12.m.isMap z4 (has_put_same hE3m (keylit _) _) hl4
                 obtain ⟨E5, hE5⟩ : ∃ E5, E5 = (E3.put (kL omB) (.lit (.int .i64 g3))).del (kL omB) := ⟨_, rfl⟩
                 have h5tw : at? ((E3.put (kL omB) (.lit (.int .i64 g3))).del (kL omB)) twB = .nil := by rw [at_del, if_neg (by decide)]; exact h4tw
                 rw [← hE5] at hs13 z5 n5 l5 h5tw
                 have hno5 := (l5 twB).1 h5tw
                 have ha5' : d5.acts = 4096 - (k : Int) + 3 := by rw [ha5, ha4, ha3']; omega
                 clear hs12 hx12 hb13)
              | (go_at_call 8; have _g := hs13; refine (create_new w13 B gd d5 _ _ E5 hs13 (by omega) (by omega) (by omega) twB tw_le tw_legal h5tw (by omega) (wrap_small (by omega) (by omega)) (wrap_small (by omega) (by omega))).mono ?_; clear _g; rintro e w14 ⟨rfl, ⟨g5, d6, hs14, ha6, hf60, hf61⟩, hb14⟩
                 have hx14 := hx13.trans (hb14.mono hBw)
                 have hy14 := hb14.size
                 have z6 : size (E5.put (kL twB) (.lit (.int .i64 g5))) = 4096 := by rw [size_put (hs13.m.tidy law9), hno5, z5]; rfl
                 have h6om : at? (E5.put (kL twB) (.lit (.int .i64 g5))) omB = .nil := by rw [at_put hs13.m.isMap, if_neg (by decide)]; exact n5
                 have ha6' : d6.acts = 4096 - (k : Int) + 4 := by rw [ha6, ha5']; omega
                 have HNL6 := Lib.hid (fun s => nil_put (s := s) hs13.m.isMap l5 twB g5)
                 clear hs13 hx13 hb14)
              | (go_at_call 8; have _g := hs14; refine (create_full w14 B gd d6 _ _ _ hs14 (by omega) omB om_le om_legal h6om (by omega)).mono ?_; clear _g; rintro e w15 ⟨⟨v4, rfl, hv4⟩, hb15⟩
                 have hs15 := hs14.below hb15
                 have hx15 := hx14.trans (hb15.mono (by omega))
                 have hy15 := hb15.size
                 clear hs14 hx14 hb15)
              | (go_at_call 7; have _g := hv4; refine (is_same _ v4 _ _ _ hv4).mono ?_; clear hv4 _g; rintro e w7 ⟨rfl, e9⟩; rw [e9]; clear e9 w7)
              | (go_at_call 9; have _g := hs15; refine (acts_any w15 gd d6 hs15.g).mono ?_; clear _g; rintro e w7 ⟨rfl, e9⟩; rw [e9, ha6']; clear e9 w7)
              | (go_at_call 12; have _g := hx15; refine (walk_any _ gd).mono ?_; clear _g; rintro e wa ⟨rfl, ewa⟩
                 have hba : Below w15.heap.size w15 wa := by rw [ewa]; exact ((Below.refl _ _).alloc (Nat.le_refl _) _).alloc (by simp) _
                 have hca : wa.heap[w15.heap.size]? = some (.cells #[.int .i64 0] 3) := by rw [ewa]; exact (Below.heap_alloc _ _ _ (by simp)).trans (heap_alloc_new w15 _)
                 have hsa := hs15.below hba
                 have hxa := hx15.trans (hba.mono (by omega))
                 have hq15 : w'.heap.size ≤ w15.heap.size := hx15.size
                 have hqa : w15.heap.size + 2 = wa.heap.size := by rw [ewa]; simp
                 have hya := hba.size
                 have heqf := eqf45
                 clear ewa hba hs15 hx15)
              | (go_at_call 12; have _g := hxa; refine (walk_any wa gd).mono ?_; clear _g heqf; rintro e wb ⟨rfl, ewb⟩
                 have hbb : Below wa.heap.size wa wb := by rw [ewb]; exact (Below.refl _ _).alloc (Nat.le_refl _) _
                 have hbd : wb.heap[wa.heap.size]? = some (boxD gd) := by rw [ewb]; exact heap_alloc_new wa _
                 have hzb : wb.heap.size = wa.heap.size + 1 := by rw [ewb]; simp
                 have hca' := (hbb.block _ (Array.getElem?_eq_some_iff.1 hca).1).trans hca
                 have hsb := hsa.below hbb
                 have hxb := hxa.trans (hbb.mono (by omega))
                 clear ewb hbb hsa hxa hca)
              | go_in)
            refine (wpIn_wide (n := 5)).1 ?_
            refine wpIn_rangeFunc_ownF (n := 5) (F := Fence.wide) rfl (by omega) (gf := 30) (lb := #[.pointer (some ⟨wa.heap.size, 0, none⟩)]) rfl trivial (enters_of Try.func30 (by kernel_rfl) rfl)
              (walk_stops wa.heap.size gd w15.heap.size _ d6 _ wb hbd hsb.g hsb.pw hsb.m hsb.ok HNL6.out (by omega) (by omega) (by omega)) Kpc.trans (fun W l o o' _ h hc _ => Kpc.turn W l o o' h hc) (Below.refl _ _) (fun _ => rfl)
              (fun pre W => W.heap[w15.heap.size]? = some (.cells #[.int .i64 pre.length] 3) ∧ Below w'.heap.size w' W) (fun _ _ _ => False)
              (fun pre A B row ⟨h1, h2⟩ hg hr => ⟨(hg.block _ (Array.getElem?_eq_some_iff.1 h1).1 (fun e => by obtain ⟨_, o, ho, hc⟩ := hr _ e.symm; rw [h1] at ho; cases ho; cases hc)).trans h1, h2.grown hg h2.size (fun k e => by have := (hr k e).1; omega)⟩)
              (fun _ _ _ _ _ h _ _ => h) ⟨hca', hxb⟩ ?a1 ?assign ?body ?done ?stop
            case assign =>
              intro ll x W K hK
              gi_wp2
              exact hK
            case body =>
              rintro ll pre x W ⟨hc, hb⟩ hlN
              have cc := cell0 hc
              have cf := frozen_of_row W w15.heap.size 0 _ _ hc
              have hpl : pre.length < 4096 := by omega
              have HC := Lib.hid hc
              have HB := Lib.hid hb
              clear hc hb
              gi_wp2
              exact ⟨KeepsOthers.setCell _ _ _, fun q cs t fz hne hk => (heap_setCell_other W ⟨w15.heap.size, 0, none⟩ q _ hne).trans hk, by have h9 := heap_setCell_same W w15.heap.size 0 _ _ (.int .i64 ((pre.length : Int) + 1)) HC.out; simpa using h9, HB.out.setCell (p := ⟨w15.heap.size, 0, none⟩) hq15 _⟩
            case done =>
              rintro D xs W2 hD hxs ⟨hc, hb⟩ hK
              rw [hxs, z6] at hc
              have cc := cell0 hc
              have HB := Lib.hid hb
              have HK := Lib.hid hK
              clear hc hb hK
              go_wp2_with fail
              refine leave1 HK.out ?_
              go_returns
              exact ⟨rfl, HB.out.trans ((Below.refl _ W2).grown (grownBy_putObj' W2 D _) HB.out.size (fun k e => by cases e; have := hxb.size; omega))⟩
            case stop =>
              rintro D cc pre W2 hD hSp h hK
              exact h.elim
theorem crowd_go (w : World) (n : Int) (hn0 : -9223372036854775808 ≤ n) (hn1 : n ≤ 9223372036854775807) (i : Int) (hi0 : -9223372036854775808 ≤ i) (hi1 : i ≤ 9223372036854775807) :
    Calls Try.prog 3 #[.int .i64 n, .int .i64 i] w fun e w' => e = .returned (.bool true) ∧ Below w.heap.size w w' := crowd_walk w n i hn0 hn1 hi0 hi1
end Go.Proofs.Yteoggphafhcchaa
