import Derived.Test.YtoboabkaojfbaaaGreatDoorQ34
import Derived.Test.YtoboabkaojfbaaaGreatDoorQ27
namespace Go.Proofs.YtoboabkaojfbaaaGreatDoor
open Go Go.RowKit
set_option maxRecDepth 100000
set_option maxHeartbeats 8000000
set_option linter.unusedVariables false
set_option linter.unusedSimpArgs false
theorem exec_alloc25 {ρ : Operand → Value} {o : Oper} (ho : o.op = .alloc 25) (w : World) : (execOp ρ o).run Tryz.prog w = .ok (.value (.pointer (some ⟨w.heap.size, 0, none⟩))) (w.alloc o25) := by
  unfold execOp
  rw [ho]
  kernel_rfl
theorem two_heads {wr wB : World} {x y : Nat} (hb : Below wr.heap.size wr wB) (hx : wB.heap[x]? = some o25) (hy : wB.heap[y]? = some o25) (hne : x ≠ y) (h1 : wr.heap.size ≤ x) (h2 : wr.heap.size ≤ y) (a b : Hd) (X Y : Array Value) (hX : X = hdA a) (hY : Y = hdA b) :
    wB.there x 0 98 ∧ (wB.setCells x 0 X.toList).there y 0 98 ∧ Below wr.heap.size wr (wB.setCells x 0 X.toList) ∧ Below wr.heap.size wr ((wB.setCells x 0 X.toList).setCells y 0 Y.toList) ∧ ((wB.setCells x 0 X.toList).setCells y 0 Y.toList).heap[x]? = some (.cells (hdA a) 25 (0, 0)) ∧ ((wB.setCells x 0 X.toList).setCells y 0 Y.toList).heap[y]? = some (.cells (hdA b) 25 (0, 0)) := by
  subst hX
  subst hY
  have hx : wB.heap[x]? = some (.cells (HB zDg 0 zDg zDg 0).toArray 25 (0, 0)) := hx
  have hy : wB.heap[y]? = some (.cells (HB zDg 0 zDg zDg 0).toArray 25 (0, 0)) := hy
  have t1 := there_block hx
  have gx := setCells_grown x (hdA a).toList 0 wB
  have gy := setCells_grown y (hdA b).toList 0 (wB.setCells x 0 (hdA a).toList)
  have hy1 := blk_keep gx hy (fun e => hne e.symm)
  have t2 := there_block hy1
  rw [o25_size] at t1 t2
  have e1 : (wB.setCells x 0 (hdA a).toList).heap[x]? = some (.cells (hdA a) 25 (0, 0)) := by
    have := setCells_all hx (hdA a).toList (by rw [Array.length_toList, hdA_size, o25_size]); simpa using this
  have e2 : ((wB.setCells x 0 (hdA a).toList).setCells y 0 (hdA b).toList).heap[y]? = some (.cells (hdA b) 25 (0, 0)) := by
    have := setCells_all hy1 (hdA b).toList (by rw [Array.length_toList, hdA_size, o25_size]); simpa using this
  have b1 := hb.grown gx hb.size (fun q hq => by rw [← Option.some.inj hq]; exact h1)
  exact ⟨t1, t2, b1, b1.grown gy b1.size (fun q hq => by rw [← Option.some.inj hq]; exact h2), blk_keep gy e1 hne, e2⟩
theorem formed_any (w : World) (f : Fc) (sA sB wA0 wB0 : S3) (hF : FcAt w f sA sB wA0 wB0) (ht : Tabs w) :
    Calls Tryz.prog 61 #[.agg (fcA f sA sB wA0 wB0)] w (FoRet w f) := by
  obtain ⟨A, hA⟩ : ∃ A, A = fcA f sA sB wA0 wB0 := ⟨_, rfl⟩
  have HA := Lib.hid (show A = fcA f sA sB wA0 wB0 ∧ A.size = 266 from ⟨hA, by rw [hA]; exact fcA_size _ _ _ _ _⟩)
  rw [← hA]
  have HF := Lib.hid hF; have HT := Lib.hid ht
  obtain ⟨D1, hD1⟩ : ∃ D, D = ntA f.a.head sA.v := ⟨_, rfl⟩
  obtain ⟨D2, hD2⟩ : ∃ D, D = ntA f.b.head sB.v := ⟨_, rfl⟩
  have HD := Lib.hid (show D1.size = 99 ∧ D2.size = 99 by rw [hD1, hD2]; exact ⟨ntA_size _ _, ntA_size _ _⟩)
  have HDD := Lib.hid (And.intro hD1 hD2)
  clear hA hF ht hD1 hD2
  go_enter Tryz.func61, Tryz.ntmps61
  go_upto_region 1 with (fail)
  obtain ⟨g1, hg1⟩ : ∃ g, g = w.heap.size := ⟨_, rfl⟩
  rw [← hg1]
  have HQ1 := Lib.hid (show (w.alloc (.cells A 35)).heap[g1]? = some (.cells A 35 (0, 0)) by rw [hg1]; exact heap_alloc_new w _)
  have HB1 := Lib.hid ((Below.refl w.heap.size w).alloc (Nat.le_refl _) (.cells A 35))
  have HG1 := Lib.hid hg1
  clear hg1
  generalize w.alloc (.cells A 35) = w1 at *
  have HR1 := Lib.hid (show w1.rangeAt g1 0 D1.toList by have := HQ1.out; rw [HA.out.1] at this; rw [HDD.out.1]; exact FB.r_noteA this)
  have HR2 := Lib.hid (show w1.rangeAt g1 99 D2.toList by have := HQ1.out; rw [HA.out.1] at this; rw [HDD.out.2]; exact FB.r_noteB this)
  go_upto_region 2 with (first
    | (refine L_load_arr rfl 28 (.tmp 9) (by rfl) g1 0 (by rfl) D1 _ HR1.out Tryz.underlying28 rfl (by rw [HD.out.1]; exact info28) ?_)
    | (refine L_load_arr rfl 28 (.tmp 11) (by rfl) g1 99 (by rfl) D2 _ HR2.out Tryz.underlying28 rfl (by rw [HD.out.2]; exact info28) ?_)
    | (refine L_build2n rfl (.tmp 10) (.tmp 12) (by rfl) D1 D2 (by rfl) (by rfl) HD.out.1 HD.out.2 ?_))
  obtain ⟨gN, hgN⟩ : ∃ g, g = w1.heap.size := ⟨_, rfl⟩
  rw [← hgN]
  have HQN := Lib.hid (show (w1.alloc (.cells (D1.toList ++ D2.toList).toArray 28)).heap[gN]? = some (.cells (D1.toList ++ D2.toList).toArray 28 (0, 0)) by rw [hgN]; exact heap_alloc_new w1 _)
  have HX2 := Lib.hid ((Below.refl w1.heap.size w1).alloc (Nat.le_refl _) (.cells (D1.toList ++ D2.toList).toArray 28))
  clear hgN
  generalize w1.alloc (.cells (D1.toList ++ D2.toList).toArray 28) = w2 at *
  have HQ2 := Lib.hid (blk_up HQ1.out HX2.out)
  have HB2 := Lib.hid (HB1.out.trans (HX2.out.mono HB1.out.size))
  clear HR1 HR2
  go_wp2_with fail
  go_loopw [15, 4, 2] (fun v _ s2 wr => ∃ k : Nat, k ≤ 2 ∧ v = .int .i64 (k : Int) ∧ s2 = .bool false ∧ (0 < k → okN f.a = true) ∧ (1 < k → okN f.b = true) ∧ Below w2.heap.size w2 wr) (fun v _ _ _ => 2 - (intOf v).toNat)
  case atStart => exact ⟨0, by omega, rfl, rfl, fun h => absurd h (by decide), fun h => absurd h (by decide), Below.refl _ _⟩
  case round =>
    obtain ⟨k, hk, rfl, rfl, h0, h1, hb⟩ := hrel
    have HBR := Lib.hid hb; have HOK := Lib.hid (And.intro h0 h1)
    clear hb h0 h1
    by_cases hlt : k < 2
    · obtain ⟨x, sx, hkx, hr, hrs⟩ : ∃ (x : Nt) (sx : S3), ((k = 0 ∧ x = f.a) ∨ (k = 1 ∧ x = f.b)) ∧ w2.rangeAt gN (k * 99) (ntA x.head sx.v).toList ∧ RS 64 sgE w sx.a sx.n sx.c x.signs := by
        rcases (show k = 0 ∨ k = 1 by omega) with rfl | rfl
        · exact ⟨f.a, sA, .inl ⟨rfl, rfl⟩, by rw [← HDD.out.1]; exact mid_range HQN.out 0 (A := []) (B := D2.toList) (by simp) rfl, HF.out.a⟩
        · exact ⟨f.b, sB, .inr ⟨rfl, rfl⟩, by rw [← HDD.out.2]; exact mid_range HQN.out 99 (A := D1.toList) (B := []) (by simp) (by rw [Array.length_toList, HD.out.1]), HF.out.b⟩
      obtain ⟨ax, nx, cx⟩ := sx
      obtain ⟨D, hD⟩ : ∃ D, D = ntA x.head (S3.v ⟨ax, nx, cx⟩) := ⟨_, rfl⟩
      have HDX := Lib.hid (show D = ntA x.head (S3.v ⟨ax, nx, cx⟩) ∧ D.size = 99 ∧ D.all (·.oneCell') = true by rw [hD]; exact ⟨rfl, ntA_size _ _, ntA_one _ _ rfl⟩)
      have HRX := Lib.hid (show wr.rangeAt gN (k * 99) D.toList by rw [hD]; exact range_below hr HBR.out)
      have hwr : Below w.heap.size w wr := HB2.out.trans (HBR.out.mono HB2.out.size)
      have HRS := Lib.hid (hrs.below hwr)
      have HWR := Lib.hid hwr
      have HNX := Lib.hid (show x.signs.length = nx ∧ nx ≤ 281474976710656 from ⟨hrs.1, hrs.2.2.1⟩)
      have HKX := Lib.hid hkx; have HLT := Lib.hid hlt
      obtain ⟨ei, hei⟩ : ∃ ei : Int, ei = ((noteE x : Nat) : Int) := ⟨_, rfl⟩
      have HEI := Lib.hid hei
      have h9 : decide ((k : Int) < 2) = true := by rw [decide_eq_true_eq]; omega
      have hk2 : k ≤ 1 := by omega
      have HTH := Lib.hid (show (wr.alloc o28).there wr.heap.size 0 99 by
        have := there_block (show (wr.alloc o28).heap[wr.heap.size]? = some (.cells (ntA zHd nilS) 28 (0, 0)) from heap_alloc_new wr _); rwa [ntA_size] at this)
      clear hr hrs hwr hkx hlt hk hei hD
      go_upto_region 4 with (first
        | (refine L_load_arr rfl 28 (.tmp 17) (by rfl) gN (k * 99) (by first | rfl | (simp only [Nat.zero_add]; rfl)) D _ HRX.out Tryz.underlying28 rfl (by rw [HDX.out.2.1]; exact info28) ?_)
        | (refine wpList_store_mid rfl 28 (.tmp 4) (.tmp 18) (by rfl) wr.heap.size 0 D (by rfl) (by rfl) (by rw [HDX.out.2.1]; exact HTH.out) (by rw [HDX.out.2.1]; exact info28) HDX.out.2.2 ?_))
      change Code.wp Tryz.prog _ _ _ ((wr.alloc o28).setCells wr.heap.size 0 D.toList)
      obtain ⟨g4, hg4⟩ : ∃ g, g = wr.heap.size := ⟨_, rfl⟩
      rw [← hg4]
      have HQ4 := Lib.hid (show ((wr.alloc o28).setCells g4 0 D.toList).heap[g4]? = some (.cells D 28 (0, 0)) by
        have := setCells_all (show (wr.alloc o28).heap[g4]? = some (.cells (ntA zHd nilS) 28 (0, 0)) by rw [hg4]; exact heap_alloc_new wr _) D.toList (by rw [Array.length_toList, HDX.out.2.1, ntA_size])
        simpa using this)
      have HX4 := Lib.hid (show Below wr.heap.size wr ((wr.alloc o28).setCells g4 0 D.toList) from ((Below.refl _ _).alloc (Nat.le_refl _) _).grown (setCells_grown _ _ _ _) (by rw [World.size_alloc]; omega) (fun k hk => by rw [← Option.some.inj hk, hg4]; exact Nat.le_refl _))
      clear hg4
      generalize (wr.alloc o28).setCells g4 0 D.toList = w4 at *
      have HEN := Lib.hid (show Calls Tryz.prog 56 #[.agg D] w4 (fun e w' => ∃ a n c, e = .returned (.tuple #[.slice a n c, .int .i64 ei]) ∧ Below w4.heap.size w4 w') by
        rw [HDX.out.1, HEI.out]
        refine (encN_any w4 x.head ax nx cx x.signs (HRS.out.below HX4.out)).mono ?_
        rintro e w' ⟨a, n, c, h1, -, h3⟩
        exact ⟨a, n, c, h1, h3⟩)
      go_upto_region 5 with (first
        | (refine wpList_load_row rfl 28 (.tmp 4) (by rfl) g4 (by rfl) 28 D (0, 0) _ HQ4.out Tryz.underlying28 rfl (by rw [HDX.out.2.1]; exact info28) ?_)
        | (go_at_call 56; (with_reducible refine HEN.out.mono ?_); rintro e w5 ⟨pa, pn, pc, rfl, hb⟩; have HX5 := Lib.hid hb; clear hb))
      have HB5 := Lib.hid (show Below w2.heap.size w2 w5 from HBR.out.trans ((HX4.out.trans (HX5.out.mono HX4.out.size)).mono HBR.out.size))
      have k98 : w5.cell? ⟨g4, 98, none⟩ = some (.slice ax nx cx) := by
        have := blk_up HQ4.out HX5.out
        rw [HDX.out.1] at this
        exact nt_signs this
      have hnx := HNX.out.2
      have HWW := Lib.hid (show Below w.heap.size w w5 from HB2.out.trans (HB5.out.mono HB2.out.size))
      by_cases c1 : ei = 0
      · have HE0 := Lib.hid (show noteE x = 0 by have := HEI.out; omega)
        subst c1
        by_cases c2 : nx = 1
        · have HOX := Lib.hid (show okN x = true by rw [noteE_okN, HE0.out, HNX.out.1, c2]; rfl)
          subst c2
          go_wp2_with fail
          go_roundw
          case rel => exact ⟨k + 1, by have := HLT.out; omega, by push_cast; rfl, rfl, fun _ => by
            rcases HKX.out with ⟨rfl, rfl⟩ | ⟨rfl, rfl⟩
            · exact HOX.out
            · exact HOK.out.1 (by decide), fun hq => by
            rcases HKX.out with ⟨rfl, rfl⟩ | ⟨rfl, rfl⟩
            · exact absurd hq (by decide)
            · exact HOX.out, HB5.out⟩
          case measure => have := HLT.out; simp [intOf]; omega
        · have HOX := Lib.hid (show okN x = false by rw [noteE_okN, HNX.out.1, decide_eq_false c2, Bool.and_false])
          have HV := Lib.hid (show formedP f = false by
            rcases HKX.out with ⟨-, e⟩ | ⟨-, e⟩
            · exact formed_na (by rw [← e]; exact HOX.out)
            · exact formed_nb (by rw [← e]; exact HOX.out))
          have d2 : ((nx : Int) == 1) = false := by rw [beq_eq_false_iff_ne]; omega
          have d2n : ((nx : Int) != 1) = true := by rw [bne_iff_ne]; omega
          go_wp2_with fail
          go_ret
          exact ⟨by (first | (rw [HV.out]; done) | (rw [HV.out]; rfl)), HWW.out⟩
      · have HOX := Lib.hid (show okN x = false by rw [noteE_okN, decide_eq_false (show ¬ noteE x = 0 by have := HEI.out; omega), Bool.false_and])
        have HV := Lib.hid (show formedP f = false by
          rcases HKX.out with ⟨-, e⟩ | ⟨-, e⟩
          · exact formed_na (by rw [← e]; exact HOX.out)
          · exact formed_nb (by rw [← e]; exact HOX.out))
        have d1 : (ei == 0) = false := by rw [beq_eq_false_iff_ne]; exact c1
        have d1n : (ei != 0) = true := by rw [bne_iff_ne]; exact c1
        go_wp2_with fail
        go_ret
        exact ⟨by (first | (rw [HV.out]; done) | (rw [HV.out]; rfl)), HWW.out⟩
    · obtain rfl : k = 2 := by omega
      have h9 : decide (((2 : Nat) : Int) < 2) = false := by decide
      have HOA := Lib.hid (HOK.out.1 (by decide)); have HOB := Lib.hid (HOK.out.2 (by decide))
      have HWR := Lib.hid (show Below w.heap.size w wr from HB2.out.trans (HBR.out.mono HB2.out.size))
      have HQR := Lib.hid (show wr.heap[g1]? = some (.cells (fcA f sA sB wA0 wB0) 35 (0, 0)) by have := blk_up HQ2.out HBR.out; rwa [HA.out.1] at this)
      clear hlt hk
      go_upto_region 8 with (fail)
      rename_i K9 hK9
      have HK9 := Lib.hid hK9
      clear hK9
      obtain ⟨A7, hA7⟩ : ∃ A, A = hdA f.a.head := ⟨_, rfl⟩
      obtain ⟨A8, hA8⟩ : ∃ A, A = hdA f.b.head := ⟨_, rfl⟩
      have HAS := Lib.hid (show A7.size = 98 ∧ A8.size = 98 ∧ A7.all (·.oneCell') = true ∧ A8.all (·.oneCell') = true by rw [hA7, hA8]; exact ⟨hdA_size _, hdA_size _, hdA_one _, hdA_one _⟩)
      have HL7 := Lib.hid (fun (x : World) (hx : Below wr.heap.size wr x) => show x.rangeAt g1 0 A7.toList by rw [hA7]; have := FB.r_ha (blk_up HQR.out hx); simpa [hdA] using this)
      have HL8 := Lib.hid (fun (x : World) (hx : Below wr.heap.size wr x) => show x.rangeAt g1 99 A8.toList by rw [hA8]; have := FB.r_hb (blk_up HQR.out hx); simpa [hdA] using this)
      obtain ⟨ga, hga⟩ : ∃ g, g = wr.heap.size := ⟨_, rfl⟩
      obtain ⟨gb, hgb⟩ : ∃ g, g = wr.heap.size + 1 := ⟨_, rfl⟩
      obtain ⟨wA, hwA⟩ : ∃ x, x = wr.drew.alloc o25 := ⟨_, rfl⟩
      obtain ⟨wB, hwB⟩ : ∃ x, x = wA.alloc o25 := ⟨_, rfl⟩
      have hd0 : Below wr.heap.size wr wr.drew := (Below.refl _ _).drew
      have HBA := Lib.hid (show Below wr.heap.size wr wA by rw [hwA]; exact hd0.alloc (Nat.le_refl _) _)
      have HBB := Lib.hid (show Below wr.heap.size wr wB by rw [hwB]; exact HBA.out.alloc HBA.out.size _)
      have hza : wA.heap.size = gb := by rw [hwA, World.size_alloc, hgb]; rfl
      have HXA := Lib.hid (show ∀ (ρ : Operand → Value) (o : Oper), o.op = .alloc 25 → (execOp ρ o).run Tryz.prog wr.drew = .ok (.value (.pointer (some ⟨ga, 0, none⟩))) wA from fun ρ o ho => by rw [exec_alloc25 ho, hwA, hga]; rfl)
      have HXB := Lib.hid (show ∀ (ρ : Operand → Value) (o : Oper), o.op = .alloc 25 → (execOp ρ o).run Tryz.prog wA = .ok (.value (.pointer (some ⟨gb, 0, none⟩))) wB from fun ρ o ho => by rw [exec_alloc25 ho, hwB, hza])
      have HGA := Lib.hid (show wB.heap[ga]? = some o25 by rw [hwB]; exact (alOld _ _ _ (by rw [hza, hga, hgb]; omega)).trans (by rw [hwA, hga]; exact heap_alloc_new wr.drew o25))
      have HGB := Lib.hid (show wB.heap[gb]? = some o25 by rw [hwB, ← hza]; exact heap_alloc_new wA o25)
      have HZ := Lib.hid (show ga ≠ gb ∧ wr.heap.size ≤ ga ∧ wr.heap.size ≤ gb by omega)
      have HT1 := Lib.hid (two_heads HBB.out HGA.out HGB.out HZ.out.1 HZ.out.2.1 HZ.out.2.2 f.a.head f.b.head A7 A8 hA7 hA8)
      have HT2 := Lib.hid (two_heads HBB.out HGB.out HGA.out (fun e => HZ.out.1 e.symm) HZ.out.2.2 HZ.out.2.1 f.a.head f.b.head A7 A8 hA7 hA8)
      have HD0 := Lib.hid hd0
      clear hga hgb hwA hwB hza hd0 hA7 hA8
      refine wp_region_held_drew (S := fun x : World => Below wr.heap.size wr x) (by kernel_rfl) HD0.out (fun hHeld => ?_)
      apply wpT 0
      apply wpT 1
      apply wpL 2 (.agg A7)
      · exact fun w hSw => exec_load rfl (load25 (HL7.out _ hSw) HAS.out.1)
      apply wpT 3
      apply wpT 4
      apply wpL 5 (.agg A8)
      · exact fun w hSw => exec_load rfl (load25 (HL8.out _ hSw) HAS.out.2.1)
      refine wpAnyH_ready (rs := [6, 7]) (by kernel_rfl) (by simp) (AllReadyH.cons (o := _) rfl (fun K hK => ?_) (AllReadyH.cons (o := _) rfl (fun K hK => ?_) AllReadyH.nil))
      · refine S_value rfl (HXA.out _ _ rfl) ?_
        apply bk hK
        · exact HBA.out
        intro hHeld
        clear hK K
        apply wpR 7
        intro K hK
        refine S_value rfl (HXB.out _ _ rfl) ?_
        apply bk hK
        · exact HBB.out
        intro hHeld
        clear hK K
        apply wpR 8
        intro K hK
        refine S_store_mid rfl 25 (.tmp 7) (.tmp 35) (by rfl) ga 0 A7 (by rfl) (by rfl) (by rw [HAS.out.1]; exact HT1.out.1) (by rw [HAS.out.1]; exact info25) HAS.out.2.2.1 ?_
        apply bk hK
        · exact HT1.out.2.2.1
        intro hHeld
        clear hK K
        apply wpR 9
        intro K hK
        refine S_store_mid rfl 25 (.tmp 8) (.tmp 38) (by rfl) gb 0 A8 (by rfl) (by rfl) (by rw [HAS.out.2.1]; exact HT1.out.2.1) (by rw [HAS.out.2.1]; exact info25) HAS.out.2.2.2 ?_
        apply bk hK
        · exact HT1.out.2.2.2.1
        intro hHeld
        clear hK K
        refine wpAnyH_done (by kernel_rfl) ?_ _
        have hx := HT1.out.2.2.2.1
        change K9 _ _
        refine HK9.out _ _ ?_
        refine fo_mid w _ (HWR.out.trans (hx.mono HWR.out.size)) f sA sB wA0 wB0 (HF.out.below (HWR.out.trans (hx.mono HWR.out.size))) HOA.out HOB.out g1 ga gb (blk_up HQR.out hx) HT1.out.2.2.2.2.1 HT1.out.2.2.2.2.2 (HT.out.below (HWR.out.trans (hx.mono HWR.out.size))) _ _ _ _ _ _ _ _ _ _ _ _ _ _ _ _ _ _ _ _ _ _ _ _ _ _ _ _ _ _ _ _ _ _ _ _ _ _ _ _ _ _ _ _ _ _ _ _ _ _ _ _ _ _ _ _ _ _ _ _ _ _ _ _ _ _ _ _ _ _ _ _ _ _ _ _ _ _ _ _ _ _ _ _ _ _ _ _ _ _ _ _ _ _ _ _ _ _ _ _ _ _ _ _ _ _ _ _ _ _ _ _ _ _ _ _ _ _ _ _ _ _ _ _ _ _ _ _ _ _ _ _ _ _ _ _ _ _ _ _
      · refine S_value rfl (HXA.out _ _ rfl) ?_
        apply bk hK
        · exact HBA.out
        intro hHeld
        clear hK K
        apply wpR 6
        intro K hK
        refine S_value rfl (HXB.out _ _ rfl) ?_
        apply bk hK
        · exact HBB.out
        intro hHeld
        clear hK K
        apply wpR 8
        intro K hK
        refine S_store_mid rfl 25 (.tmp 7) (.tmp 35) (by rfl) gb 0 A7 (by rfl) (by rfl) (by rw [HAS.out.1]; exact HT2.out.1) (by rw [HAS.out.1]; exact info25) HAS.out.2.2.1 ?_
        apply bk hK
        · exact HT2.out.2.2.1
        intro hHeld
        clear hK K
        apply wpR 9
        intro K hK
        refine S_store_mid rfl 25 (.tmp 8) (.tmp 38) (by rfl) ga 0 A8 (by rfl) (by rfl) (by rw [HAS.out.2.1]; exact HT2.out.2.1) (by rw [HAS.out.2.1]; exact info25) HAS.out.2.2.2 ?_
        apply bk hK
        · exact HT2.out.2.2.2.1
        intro hHeld
        clear hK K
        refine wpAnyH_done (by kernel_rfl) ?_ _
        have hx := HT2.out.2.2.2.1
        change K9 _ _
        refine HK9.out _ _ ?_
        refine fo_mid w _ (HWR.out.trans (hx.mono HWR.out.size)) f sA sB wA0 wB0 (HF.out.below (HWR.out.trans (hx.mono HWR.out.size))) HOA.out HOB.out g1 gb ga (blk_up HQR.out hx) HT2.out.2.2.2.2.1 HT2.out.2.2.2.2.2 (HT.out.below (HWR.out.trans (hx.mono HWR.out.size))) _ _ _ _ _ _ _ _ _ _ _ _ _ _ _ _ _ _ _ _ _ _ _ _ _ _ _ _ _ _ _ _ _ _ _ _ _ _ _ _ _ _ _ _ _ _ _ _ _ _ _ _ _ _ _ _ _ _ _ _ _ _ _ _ _ _ _ _ _ _ _ _ _ _ _ _ _ _ _ _ _ _ _ _ _ _ _ _ _ _ _ _ _ _ _ _ _ _ _ _ _ _ _ _ _ _ _ _ _ _ _ _ _ _ _ _ _ _ _ _ _ _ _ _ _ _ _ _ _ _ _ _ _ _ _ _ _ _ _ _
end Go.Proofs.YtoboabkaojfbaaaGreatDoor
namespace Go.Proofs.YtoboabkaojfbaaaGreatDoor
open Go Go.RowKit
set_option maxRecDepth 100000
set_option maxHeartbeats 8000000
set_option linter.unusedVariables false
set_option linter.unusedSimpArgs false
/-! Lists held against each other. -/

theorem sames_dg (w : World) (a b : Option Addr) (n m c d : Nat) (xs ys : List Dg) (h1 : RS 32 dgE w a n c xs) (h2 : RS 32 dgE w b m d ys) :
    Calls Tryz.prog 70 #[.slice a n c, .slice b m d] w fun e w' => e = .returned (.bool (decide (xs = ys))) ∧ Below w.heap.size w w' := by
  have HH1 := Lib.hid h1; have HH2 := Lib.hid h2
  have hn : n ≤ 281474976710656 := h1.2.2.1
  have HLN := Lib.hid (And.intro h1.1 h2.1)
  clear h1 h2
  by_cases e : n = m
  · subst e
    go_enter Tryz.func70, Tryz.ntmps70
    go_wp2_with fail
    go_loopw [5] (fun v wr => ∃ k : Nat, k ≤ n ∧ v = .int .i64 (k : Int) ∧ xs.take k = ys.take k ∧ Below w.heap.size w wr) (fun v _ => n - (intOf v).toNat)
    case atStart => exact ⟨0, Nat.zero_le _, rfl, by simp, Below.refl _ _⟩
    case round =>
      obtain ⟨k, hk, rfl, ht, hb⟩ := hrel
      have HTK := Lib.hid ht; have HB := Lib.hid hb
      clear ht hb
      by_cases hlt : k < n
      · obtain ⟨x, hx⟩ : ∃ x, xs[k]? = some x := ⟨_, List.getElem?_eq_getElem (by have := HLN.out.1; omega)⟩
        obtain ⟨y, hy⟩ : ∃ y, ys[k]? = some y := ⟨_, List.getElem?_eq_getElem (by have := HLN.out.2; omega)⟩
        obtain ⟨ba, oa, rfl, hr1⟩ : ∃ ba oa, a = some ⟨ba, oa, none⟩ ∧ wr.rangeAt ba (oa + k * 32) (dgA x.1).toList := by
          obtain ⟨ba, oa, ea, hc⟩ := (HH1.out.below HB.out).2.2.2 k x hx
          exact ⟨ba, oa, ea, fun j v hj => hc j v (by simpa [dgA, dgE, sgA] using hj)⟩
        obtain ⟨bb, ob, rfl, hr2⟩ : ∃ bb ob, b = some ⟨bb, ob, none⟩ ∧ wr.rangeAt bb (ob + k * 32) (dgA y.1).toList := by
          obtain ⟨ba, oa, ea, hc⟩ := (HH2.out.below HB.out).2.2.2 k y hy
          exact ⟨ba, oa, ea, fun j v hj => hc j v (by simpa [dgA, dgE, sgA] using hj)⟩
        obtain ⟨X, hX⟩ : ∃ X, X = dgA x.1 := ⟨_, rfl⟩
        obtain ⟨Y, hY⟩ : ∃ Y, Y = dgA y.1 := ⟨_, rfl⟩
        rw [← hX] at hr1
        rw [← hY] at hr2
        have HXS := Lib.hid (show X.size = 32 ∧ Y.size = 32 by rw [hX, hY]; exact ⟨by rw [dgA_size, x.2], by rw [dgA_size, y.2]⟩)
        have HNE := Lib.hid (fun (u : World) => show (binOp .neq 23 (.agg X) (.agg Y)).run Tryz.prog u = .ok (.bool (!decide (x = y))) u by rw [hX, hY]; exact neqd_dg _ _ _)
        have HXY := Lib.hid (And.intro hx hy); have HLT := Lib.hid hlt
        have h9 : decide ((k : Int) < (n : Int)) = true := by rw [decide_eq_true_eq]; omega
        have hki : (k : Int) < (n : Int) := by omega
        have hk48 : k ≤ 281474976710656 := by omega
        clear hX hY hx hy hlt hk
        cases hxy : decide (x = y) with
        | true =>
          have HE := Lib.hid (show x = y from of_decide_eq_true hxy)
          rw [hxy] at HNE
          clear hxy
          go_upto_region 6 with (fail)
          refine wp_region_held_drew (S := fun u : World => u.rangeAt ba (oa + k * 32) X.toList ∧ u.rangeAt bb (ob + k * 32) Y.toList) (by kernel_rfl) ⟨hr1, hr2⟩ (fun hHeld => ?_)
          apply wpT 0
          apply wpT 1
          apply wpT 2
          apply wpL 3 (.agg X)
          · exact fun w hSw => exec_load rfl (load23r hSw.1 HXS.out.1)
          apply wpT 4
          apply wpT 5
          apply wpT 6
          apply wpL 7 (.agg Y)
          · exact fun w hSw => exec_load rfl (load23r hSw.2 HXS.out.2)
          apply wpL 8 (.bool (!true))
          · exact fun w hSw => exec_bin rfl (HNE.out w) (by kernel_rfl)
          refine wpAnyH_done (by kernel_rfl) ?_ _
          clear hr1 hr2 hHeld
          go_wp2_with fail
          go_roundw
          case rel => exact ⟨k + 1, HLT.out, by push_cast; rfl, by rw [List.take_add_one, List.take_add_one, HXY.out.1, HXY.out.2, HTK.out, HE.out], HB.out.drew⟩
          case measure => have := HLT.out; simp [intOf]; omega
        | false =>
          have HE := Lib.hid (show x ≠ y from of_decide_eq_false hxy)
          have HV := Lib.hid (show decide (xs = ys) = false from decide_eq_false (fun q => HE.out (by
            have := HXY.out.1
            rw [q, HXY.out.2] at this
            exact (Option.some.inj this).symm)))
          rw [hxy] at HNE
          clear hxy
          go_upto_region 6 with (fail)
          refine wp_region_held_drew (S := fun u : World => u.rangeAt ba (oa + k * 32) X.toList ∧ u.rangeAt bb (ob + k * 32) Y.toList) (by kernel_rfl) ⟨hr1, hr2⟩ (fun hHeld => ?_)
          apply wpT 0
          apply wpT 1
          apply wpT 2
          apply wpL 3 (.agg X)
          · exact fun w hSw => exec_load rfl (load23r hSw.1 HXS.out.1)
          apply wpT 4
          apply wpT 5
          apply wpT 6
          apply wpL 7 (.agg Y)
          · exact fun w hSw => exec_load rfl (load23r hSw.2 HXS.out.2)
          apply wpL 8 (.bool (!false))
          · exact fun w hSw => exec_bin rfl (HNE.out w) (by kernel_rfl)
          refine wpAnyH_done (by kernel_rfl) ?_ _
          clear hr1 hr2 hHeld
          go_wp2_with fail
          go_ret
          exact ⟨by (first | (rw [HV.out]; done) | (rw [HV.out]; rfl)), HB.out.drew⟩
      · obtain rfl : k = n := by omega
        have h9 : decide ((k : Int) < (k : Int)) = false := by rw [decide_eq_false_iff_not]; omega
        have HV := Lib.hid (show decide (xs = ys) = true from decide_eq_true (by
          have := HTK.out
          rwa [List.take_of_length_le (by have := HLN.out.1; omega), List.take_of_length_le (by have := HLN.out.2; omega)] at this))
        clear hlt hk
        go_wp2_with fail
        go_ret
        exact ⟨by (first | (rw [HV.out]; done) | (rw [HV.out]; rfl)), HB.out⟩
  · have HV := Lib.hid (show decide (xs = ys) = false from decide_eq_false (fun q => e (by have := HLN.out.1; have := HLN.out.2; rw [q] at *; omega)))
    have e1 : (n == m) = false := by rw [beq_eq_false_iff_ne]; exact e
    have e2 : ((n : Int) == (m : Int)) = false := by rw [beq_eq_false_iff_ne]; omega
    have e3 : (n != m) = true := by rw [bne_iff_ne]; exact e
    have e4 : ((n : Int) != (m : Int)) = true := by rw [bne_iff_ne]; omega
    go_enter Tryz.func70, Tryz.ntmps70
    go_wp2_with fail
    go_ret
    exact ⟨by (first | (rw [HV.out]; done) | (rw [HV.out]; rfl)), Below.refl _ _⟩

theorem sames_sg (w : World) (a b : Option Addr) (n m c d : Nat) (xs ys : List Sg) (h1 : RS 64 sgE w a n c xs) (h2 : RS 64 sgE w b m d ys) :
    Calls Tryz.prog 114 #[.slice a n c, .slice b m d] w fun e w' => e = .returned (.bool (decide (xs = ys))) ∧ Below w.heap.size w w' := by
  have HH1 := Lib.hid h1; have HH2 := Lib.hid h2
  have hn : n ≤ 281474976710656 := h1.2.2.1
  have HLN := Lib.hid (And.intro h1.1 h2.1)
  clear h1 h2
  by_cases e : n = m
  · subst e
    go_enter Tryz.func114, Tryz.ntmps114
    go_wp2_with fail
    go_loopw [5] (fun v wr => ∃ k : Nat, k ≤ n ∧ v = .int .i64 (k : Int) ∧ xs.take k = ys.take k ∧ Below w.heap.size w wr) (fun v _ => n - (intOf v).toNat)
    case atStart => exact ⟨0, Nat.zero_le _, rfl, by simp, Below.refl _ _⟩
    case round =>
      obtain ⟨k, hk, rfl, ht, hb⟩ := hrel
      have HTK := Lib.hid ht; have HB := Lib.hid hb
      clear ht hb
      by_cases hlt : k < n
      · obtain ⟨x, hx⟩ : ∃ x, xs[k]? = some x := ⟨_, List.getElem?_eq_getElem (by have := HLN.out.1; omega)⟩
        obtain ⟨y, hy⟩ : ∃ y, ys[k]? = some y := ⟨_, List.getElem?_eq_getElem (by have := HLN.out.2; omega)⟩
        obtain ⟨ba, oa, rfl, hr1⟩ : ∃ ba oa, a = some ⟨ba, oa, none⟩ ∧ wr.rangeAt ba (oa + k * 64) (sgA x).toList := by
          obtain ⟨ba, oa, ea, hc⟩ := (HH1.out.below HB.out).2.2.2 k x hx
          exact ⟨ba, oa, ea, fun j v hj => hc j v (by simpa [dgA, dgE, sgA] using hj)⟩
        obtain ⟨bb, ob, rfl, hr2⟩ : ∃ bb ob, b = some ⟨bb, ob, none⟩ ∧ wr.rangeAt bb (ob + k * 64) (sgA y).toList := by
          obtain ⟨ba, oa, ea, hc⟩ := (HH2.out.below HB.out).2.2.2 k y hy
          exact ⟨ba, oa, ea, fun j v hj => hc j v (by simpa [dgA, dgE, sgA] using hj)⟩
        obtain ⟨X, hX⟩ : ∃ X, X = sgA x := ⟨_, rfl⟩
        obtain ⟨Y, hY⟩ : ∃ Y, Y = sgA y := ⟨_, rfl⟩
        rw [← hX] at hr1
        rw [← hY] at hr2
        have HXS := Lib.hid (show X.size = 64 ∧ Y.size = 64 by rw [hX, hY]; exact ⟨sgA_size _, sgA_size _⟩)
        have HNE := Lib.hid (fun (u : World) => show (binOp .neq 63 (.agg X) (.agg Y)).run Tryz.prog u = .ok (.bool (!decide (x = y))) u by rw [hX, hY]; exact neq_sg _ _ _)
        have HXY := Lib.hid (And.intro hx hy); have HLT := Lib.hid hlt
        have h9 : decide ((k : Int) < (n : Int)) = true := by rw [decide_eq_true_eq]; omega
        have hki : (k : Int) < (n : Int) := by omega
        have hk48 : k ≤ 281474976710656 := by omega
        clear hX hY hx hy hlt hk
        cases hxy : decide (x = y) with
        | true =>
          have HE := Lib.hid (show x = y from of_decide_eq_true hxy)
          rw [hxy] at HNE
          clear hxy
          go_upto_region 6 with (fail)
          refine wp_region_held_drew (S := fun u : World => u.rangeAt ba (oa + k * 64) X.toList ∧ u.rangeAt bb (ob + k * 64) Y.toList) (by kernel_rfl) ⟨hr1, hr2⟩ (fun hHeld => ?_)
          apply wpT 0
          apply wpT 1
          apply wpT 2
          apply wpL 3 (.agg X)
          · exact fun w hSw => exec_load rfl (load_sg hSw.1 HXS.out.1)
          apply wpT 4
          apply wpT 5
          apply wpT 6
          apply wpL 7 (.agg Y)
          · exact fun w hSw => exec_load rfl (load_sg hSw.2 HXS.out.2)
          apply wpL 8 (.bool (!true))
          · exact fun w hSw => exec_bin rfl (HNE.out w) (by kernel_rfl)
          refine wpAnyH_done (by kernel_rfl) ?_ _
          clear hr1 hr2 hHeld
          go_wp2_with fail
          go_roundw
          case rel => exact ⟨k + 1, HLT.out, by push_cast; rfl, by rw [List.take_add_one, List.take_add_one, HXY.out.1, HXY.out.2, HTK.out, HE.out], HB.out.drew⟩
          case measure => have := HLT.out; simp [intOf]; omega
        | false =>
          have HE := Lib.hid (show x ≠ y from of_decide_eq_false hxy)
          have HV := Lib.hid (show decide (xs = ys) = false from decide_eq_false (fun q => HE.out (by
            have := HXY.out.1
            rw [q, HXY.out.2] at this
            exact (Option.some.inj this).symm)))
          rw [hxy] at HNE
          clear hxy
          go_upto_region 6 with (fail)
          refine wp_region_held_drew (S := fun u : World => u.rangeAt ba (oa + k * 64) X.toList ∧ u.rangeAt bb (ob + k * 64) Y.toList) (by kernel_rfl) ⟨hr1, hr2⟩ (fun hHeld => ?_)
          apply wpT 0
          apply wpT 1
          apply wpT 2
          apply wpL 3 (.agg X)
          · exact fun w hSw => exec_load rfl (load_sg hSw.1 HXS.out.1)
          apply wpT 4
          apply wpT 5
          apply wpT 6
          apply wpL 7 (.agg Y)
          · exact fun w hSw => exec_load rfl (load_sg hSw.2 HXS.out.2)
          apply wpL 8 (.bool (!false))
          · exact fun w hSw => exec_bin rfl (HNE.out w) (by kernel_rfl)
          refine wpAnyH_done (by kernel_rfl) ?_ _
          clear hr1 hr2 hHeld
          go_wp2_with fail
          go_ret
          exact ⟨by (first | (rw [HV.out]; done) | (rw [HV.out]; rfl)), HB.out.drew⟩
      · obtain rfl : k = n := by omega
        have h9 : decide ((k : Int) < (k : Int)) = false := by rw [decide_eq_false_iff_not]; omega
        have HV := Lib.hid (show decide (xs = ys) = true from decide_eq_true (by
          have := HTK.out
          rwa [List.take_of_length_le (by have := HLN.out.1; omega), List.take_of_length_le (by have := HLN.out.2; omega)] at this))
        clear hlt hk
        go_wp2_with fail
        go_ret
        exact ⟨by (first | (rw [HV.out]; done) | (rw [HV.out]; rfl)), HB.out⟩
  · have HV := Lib.hid (show decide (xs = ys) = false from decide_eq_false (fun q => e (by have := HLN.out.1; have := HLN.out.2; rw [q] at *; omega)))
    have e1 : (n == m) = false := by rw [beq_eq_false_iff_ne]; exact e
    have e2 : ((n : Int) == (m : Int)) = false := by rw [beq_eq_false_iff_ne]; omega
    have e3 : (n != m) = true := by rw [bne_iff_ne]; exact e
    have e4 : ((n : Int) != (m : Int)) = true := by rw [bne_iff_ne]; omega
    go_enter Tryz.func114, Tryz.ntmps114
    go_wp2_with fail
    go_ret
    exact ⟨by (first | (rw [HV.out]; done) | (rw [HV.out]; rfl)), Below.refl _ _⟩
end Go.Proofs.YtoboabkaojfbaaaGreatDoor
