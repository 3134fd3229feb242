import Derived.Test.YtoboabkaojfbaaaGreatDoorQ26
import Derived.Test.YtoboabkaojfbaaaGreatDoorQ22
namespace Go.Proofs.YtoboabkaojfbaaaGreatDoor
open Go Go.RowKit
set_option maxRecDepth 100000
set_option maxHeartbeats 4000000
set_option linter.unusedVariables false
set_option linter.unusedSimpArgs false
/-! head.Sign. -/
def zSg : Sg := ⟨zDg, zDg⟩
def signR (h : Hd) (k : List UInt8) : Sg := if signE h k = 0 then signP h k else zSg
theorem exec_build63z {ρ : Operand → Value} {o : Oper} (ho : o.op = .build 63 #[]) (w : World) : (execOp ρ o).run Tryz.prog w = .ok (.value (.agg (sgA zSg))) w := by
  have hb : (Instr.build 63 #[]).run Tryz.prog w = .ok (.agg (sgA zSg)) w := run_build w 63 #[] _ (by kernel_rfl)
  unfold execOp
  simp only [ho, List.map_toArray, List.map_nil, Sem.run_bind, hb, Result.andThen_ok, Sem.run_pure]
theorem isKey_q (w : World) (a : Option Addr) (n c : Nat) (k : List UInt8) (h : R8 w a n c k) (x : World) : Calls Tryz.prog 95 #[.slice a n c] x fun e w' => e = .returned (.bool (isKey k)) ∧ x = w' :=
  (isKey_any x a n c k h.1 h.2.2.1).mono fun _ _ ⟨p, q⟩ => ⟨p, q.symm⟩
theorem Sign_any (w : World) (h : Hd) (a : Option Addr) (n c : Nat) (k : List UInt8) (hk : R8 w a n c k) (ht : RoundTab w) (h3 : 1 < w.heap.size) :
    Calls Tryz.prog 38 #[.agg (hdA h), .slice a n c] w fun e w' => e = .returned (.tuple #[.agg (sgA (signR h k)), .int .i64 ((signE h k : Nat) : Int)]) ∧ Below w.heap.size w w' := by
  have HK := Lib.hid hk
  have HT := Lib.hid (show RoundTab w ∧ 1 < w.heap.size from ⟨ht, h3⟩)
  obtain ⟨A, hA⟩ : ∃ A, A = hdA h := ⟨_, rfl⟩
  have HA := Lib.hid hA
  have HAS := Lib.hid (show A.size = 98 by rw [hA, hdA_size])
  rw [← hA]
  obtain ⟨Z, hZ⟩ : ∃ Z, Z = sgA zSg := ⟨_, rfl⟩
  have HZ := Lib.hid hZ
  have HZS := Lib.hid (show Z.size = 64 ∧ Z.all (·.oneCell') = true by rw [hZ]; exact ⟨sgA_size _, all_oneCell_toArray (sgE_one _)⟩)
  have HBD := Lib.hid (fun (ρ : Operand → Value) (o : Oper) (ho : o.op = .build 63 #[]) (w : World) => show (execOp ρ o).run Tryz.prog w = .ok (.value (.agg Z)) w by rw [hZ]; exact exec_build63z ho w)
  obtain ⟨R, hR⟩ : ∃ R, R = Value.tuple #[.agg (sgA (signR h k)), .int .i64 ((signE h k : Nat) : Int)] := ⟨_, rfl⟩
  rw [← hR]
  have HRR := Lib.hid hR
  have HIK := Lib.hid (isKey_q w a n c k hk)
  have HRI := Lib.hid (fun x => show Calls Tryz.prog 96 #[.agg A] x (fun e w' => e = .returned (.bool (rightH h)) ∧ Below x.heap.size x w') by rw [hA]; exact right_any x h)
  clear hA hk ht h3 hZ hR
  go_enter Tryz.func38, Tryz.ntmps38
  go_upto_region 1 with (fail)
  change Code.wp Tryz.prog _ _ _ ((w.alloc (.cells A 25)).alloc o63)
  obtain ⟨g2, hg2⟩ : ∃ g, g = w.heap.size := ⟨_, rfl⟩
  obtain ⟨g4, hg4⟩ : ∃ g, g = w.heap.size + 1 := ⟨_, rfl⟩
  have HQ2 := Lib.hid (show ((w.alloc (.cells A 25)).alloc o63).heap[g2]? = some (.cells A 25 (0, 0)) by rw [hg2]; exact heap_alloc2_old w _ _)
  have HQ4 := Lib.hid (show ((w.alloc (.cells A 25)).alloc o63).heap[g4]? = some o63 by rw [hg4]; exact heap_alloc2_new w _ _)
  have HB1 := Lib.hid (show Below w.heap.size w ((w.alloc (.cells A 25)).alloc o63) from ((Below.refl _ _).alloc (Nat.le_refl _) _).alloc (by simp) _)
  first
    | rw [← hg4, ← hg2]
    | rw [← hg2, ← hg4]
  have HGG := Lib.hid (show g2 = w.heap.size ∧ g4 = w.heap.size + 1 from ⟨hg2, hg4⟩)
  clear hg2 hg4
  generalize (w.alloc (.cells A 25)).alloc o63 = w1 at *
  have HFIN := Lib.hid (fun (x : World) (G : Array Value) (hs : G.size = 64) (hb : Below w1.heap.size w1 x) => show (x.setCells g4 0 G.toList).heap[g4]? = some (.cells G 63 (0, 0)) ∧ Below w.heap.size w (x.setCells g4 0 G.toList) by
    have hq : x.heap[g4]? = some (.cells (sgA ⟨zDg, zDg⟩) 63 (0, 0)) := (hb.block g4 (Array.getElem?_eq_some_iff.1 HQ4.out).1).trans HQ4.out
    have hbb := HB1.out.trans (hb.mono HB1.out.size)
    refine ⟨?_, hbb.grown (setCells_grown _ _ _ _) hbb.size (fun q hq => by rw [← Option.some.inj hq, HGG.out.2]; omega)⟩
    have := setCells_all hq G.toList (by rw [Array.length_toList, hs, sgA_size])
    simpa using this)
  have HTH := Lib.hid (fun (x : World) (hb : Below w1.heap.size w1 x) => show x.there g4 0 64 by
    have hq : x.heap[g4]? = some (.cells (sgA ⟨zDg, zDg⟩) 63 (0, 0)) := (hb.block g4 (Array.getElem?_eq_some_iff.1 HQ4.out).1).trans HQ4.out
    have := there_block hq; rwa [sgA_size] at this)
  have HX1 := Lib.hid (Below.refl w1.heap.size w1)
  cases hik : isKey k with
  | false =>
    have HV := Lib.hid (show R = .tuple #[.agg Z, .int .i64 160] by rw [HRR.out, HZ.out, signR, signE, hik]; rfl)
    rw [hik] at HIK
    clear hik
    go_wp2_with (first
      | (go_at_call 95; (with_reducible refine (HIK.out _).mono ?_); rintro e w' ⟨rfl, rfl⟩)
      | (refine L_value rfl (HBD.out _ _ (by rfl) _) ?_)
      | (refine wpList_store_mid rfl 63 (.tmp 4) (.tmp 9) (by rfl) g4 0 Z (by rfl) (by rfl) (by rw [HZS.out.1]; exact HTH.out w1 HX1.out) (by rw [HZS.out.1]; exact info63) HZS.out.2 ?_))
    rw [HV.out]
    exact bodyPost_ret (v := .tuple #[.agg Z, .int .i64 160]) (results_row_tmp (p := 4) (u := 5) (ty := 63) rfl _ _ g4 63 Z (0, 0) _ rfl (HFIN.out w1 Z HZS.out.1 HX1.out).1 Tryz.underlying63 rfl (by rw [HZS.out.1]; exact info63)) rfl ⟨rfl, (HFIN.out w1 Z HZS.out.1 HX1.out).2⟩
  | true =>
    have HIT := Lib.hid hik
    rw [hik] at HIK
    clear hik
    cases hrr : rightH h with
    | false =>
      have HV := Lib.hid (show R = .tuple #[.agg Z, .int .i64 1] by rw [HRR.out, HZ.out, signR, signE, HIT.out, hrr]; rfl)
      rw [hrr] at HRI
      clear hrr
      go_wp2_with (first
        | (go_at_call 95; (with_reducible refine (HIK.out _).mono ?_); rintro e w' ⟨rfl, rfl⟩)
        | (refine wpList_load_row rfl 25 (.tmp 2) (by rfl) g2 (by rfl) 25 A (0, 0) _ HQ2.out Tryz.underlying25 rfl (by rw [HAS.out]; exact info25) ?_)
        | (go_at_call 96; (with_reducible refine (HRI.out _).mono ?_); rintro e w3 ⟨rfl, hb⟩; have HX3 := Lib.hid hb; clear hb)
        | (refine L_value rfl (HBD.out _ _ (by rfl) _) ?_)
        | (refine wpList_store_mid rfl 63 (.tmp 4) (.tmp 13) (by rfl) g4 0 Z (by rfl) (by rfl) (by rw [HZS.out.1]; exact HTH.out w3 HX3.out) (by rw [HZS.out.1]; exact info63) HZS.out.2 ?_))
      rw [HV.out]
      exact bodyPost_ret (v := .tuple #[.agg Z, .int .i64 1]) (results_row_tmp (p := 4) (u := 5) (ty := 63) rfl _ _ g4 63 Z (0, 0) _ rfl (HFIN.out w3 Z HZS.out.1 HX3.out).1 Tryz.underlying63 rfl (by rw [HZS.out.1]; exact info63)) rfl ⟨rfl, (HFIN.out w3 Z HZS.out.1 HX3.out).2⟩
    | true =>
      obtain ⟨G, hG⟩ : ∃ G, G = sgA (signP h k) := ⟨_, rfl⟩
      have HV := Lib.hid (show R = .tuple #[.agg G, .int .i64 0] by rw [HRR.out, hG, signR, signE, HIT.out, hrr]; rfl)
      have HGS := Lib.hid (show G.size = 64 ∧ G.all (·.oneCell') = true by rw [hG]; exact ⟨sgA_size _, all_oneCell_toArray (sgE_one _)⟩)
      have HSG := Lib.hid (fun (x : World) (hx : Below w1.heap.size w1 x) => show Calls Tryz.prog 97 #[.agg A, .slice a n c] x (fun e w' => e = .returned (.agg G) ∧ Below x.heap.size x w') by
        rw [HA.out, hG]
        have hb := HB1.out.trans (hx.mono HB1.out.size)
        have hn : n ≤ 64 := by
          have h1 := HIT.out
          have h2 := HK.out.1
          unfold isKey at h1
          rw [Bool.and_eq_true, decide_eq_true_eq, decide_eq_true_eq] at h1
          omega
        exact sign_any x h a n c k hrr (HK.out.below hb) hn (rt_below HT.out.1 hb HT.out.2) (by have := hb.size; have := HT.out.2; omega))
      rw [hrr] at HRI
      clear hrr hG
      go_upto_region 5 with (first
        | (go_at_call 95; (with_reducible refine (HIK.out _).mono ?_); rintro e w' ⟨rfl, rfl⟩)
        | (refine wpList_load_row rfl 25 (.tmp 2) (by rfl) g2 (by rfl) 25 A (0, 0) _ HQ2.out Tryz.underlying25 rfl (by rw [HAS.out]; exact info25) ?_)
        | (go_at_call 96; (with_reducible refine (HRI.out _).mono ?_); rintro e w3 ⟨rfl, hb⟩; have HX3 := Lib.hid hb; clear hb))
      have HQ3 := Lib.hid (show w3.heap[g2]? = some (.cells A 25 (0, 0)) from (HX3.out.block g2 (Array.getElem?_eq_some_iff.1 HQ2.out).1).trans HQ2.out)
      go_wp2_with (first
        | (refine wpList_load_row rfl 25 (.tmp 2) (by rfl) g2 (by rfl) 25 A (0, 0) _ HQ3.out Tryz.underlying25 rfl (by rw [HAS.out]; exact info25) ?_)
        | (go_at_call 97; (with_reducible refine (HSG.out _ HX3.out).mono ?_); rintro e w4 ⟨rfl, hb⟩; have HX4 := Lib.hid (HX3.out.trans (hb.mono HX3.out.size)); clear hb)
        | (refine wpList_store_mid rfl 63 (.tmp 4) (.tmp 16) (by rfl) g4 0 G (by rfl) (by rfl) (by rw [HGS.out.1]; exact HTH.out w4 HX4.out) (by rw [HGS.out.1]; exact info63) HGS.out.2 ?_))
      rw [HV.out]
      exact bodyPost_ret (v := .tuple #[.agg G, .int .i64 0]) (results_row_tmp (p := 4) (u := 5) (ty := 63) rfl _ _ g4 63 G (0, 0) _ rfl (HFIN.out w4 G HGS.out.1 HX4.out).1 Tryz.underlying63 rfl (by rw [HGS.out.1]; exact info63)) rfl ⟨rfl, (HFIN.out w4 G HGS.out.1 HX4.out).2⟩
end Go.Proofs.YtoboabkaojfbaaaGreatDoor
namespace Go.Proofs.YtoboabkaojfbaaaGreatDoor
open Go Go.RowKit
set_option maxRecDepth 100000
set_option maxHeartbeats 4000000
set_option linter.unusedVariables false
set_option linter.unusedSimpArgs false
/-! head.Check. -/
section
variable {P : Program} {ops : Array Oper} {Q : Exit → Act → World → Prop} {md : Region.Mode} {S : World → Prop}
/-- An operation that is not wanted. -/
theorem wpN (i : Nat) {oi : Oper} {fuel : Nat} {listed l' : Array Bool} {a a' : Act} {w : World} (hi : ops[i]? = some oi := by rfl)
    (hs : Region.noSelect ops = true := by kernel_rfl) (hf : Region.free md ops listed i = true := by kernel_rfl) (hr : (Region.ready md ops listed).contains i = true := by kernel_rfl)
    (hQ : ∀ c a w, Q (.panic c) (a.put oi.dst undef) w → Q (.panic c) a w := by exact fun _ _ _ h => h) (hw : Region.wanted oi (yielded ops a.tmps) = false := by rfl) (hS : S w := by assumption)
    (hl : listed.setIfInBounds i true = l' := by ((try simp only [List.setIfInBounds_toArray, List.set_cons_zero, List.set_cons_succ]); all_goals (first | done | rfl))) (ha : a.put oi.dst undef = a' := by (simp only [Act.put, List.setIfInBounds_toArray, List.set_cons_zero, List.set_cons_succ, List.getElem_toArray, List.getElem_cons_succ, List.getElem_cons_zero]; all_goals (first | done | rfl)))
    (h : wpAnyH P md ops Q S fuel l' a' w) : wpAnyH P md ops Q S (fuel + 1) listed a w := by
  subst hl ha
  exact wpAnyH_take hi hs hf hr hQ (Or.inr ⟨hw, rfl⟩) hS h
end
theorem checkP_no {h : Hd} {s : Sg} {k : List UInt8} (hi : isKey k = false) : checkP h s k = 160 := by unfold checkP; rw [hi]; rfl
theorem checkP_id {h : Hd} {s : Sg} {k : List UInt8} (hi : isKey k = true) (he : decide (idP k = s.key) = false) : checkP h s k = 160 := by unfold checkP; rw [hi, he]; rfl
theorem checkP_arg {h : Hd} {s : Sg} {k : List UInt8} (hi : isKey k = true) (he : decide (idP k = s.key) = true) (hr : rightH h = false) : checkP h s k = 1 := by unfold checkP; rw [hi, he, hr]; rfl
theorem checkP_tag {h : Hd} {s : Sg} {k : List UInt8} (hi : isKey k = true) (he : decide (idP k = s.key) = true) (hr : rightH h = true) : checkP h s k = if decide (signP h k = s) then 0 else 161 := by
  unfold checkP; rw [hi, he, hr]; simp
theorem key_len {w : World} {a : Option Addr} {n c : Nat} {k : List UInt8} (h : R8 w a n c k) (hi : isKey k = true) : n ≤ 64 := by
  have h2 := h.1
  unfold isKey at hi
  rw [Bool.and_eq_true, decide_eq_true_eq, decide_eq_true_eq] at hi
  omega
theorem check_any (w : World) (h : Hd) (s : Sg) (a : Option Addr) (n c : Nat) (k : List UInt8) (hk : R8 w a n c k) (ht : RoundTab w) (h3 : 1 < w.heap.size) :
    Calls Tryz.prog 84 #[.agg (hdA h), .agg (sgA s), .slice a n c] w fun e w' => e = .returned (.int .i64 ((checkP h s k : Nat) : Int)) ∧ Below w.heap.size w w' := by
  have HK := Lib.hid hk
  have HT := Lib.hid (show RoundTab w ∧ 1 < w.heap.size from ⟨ht, h3⟩)
  obtain ⟨A, hA⟩ : ∃ A, A = hdA h := ⟨_, rfl⟩
  have HA := Lib.hid hA
  have HAS := Lib.hid (show A.size = 98 by rw [hA, hdA_size])
  rw [← hA]
  obtain ⟨G, hG⟩ : ∃ G, G = sgA s := ⟨_, rfl⟩
  have HG := Lib.hid hG
  have HGS := Lib.hid (show G.size = 64 by rw [hG, sgA_size])
  rw [← hG]
  obtain ⟨cv, hcv⟩ : ∃ cv : Int, cv = ((checkP h s k : Nat) : Int) := ⟨_, rfl⟩
  rw [← hcv]
  have HCV := Lib.hid hcv
  have HIK := Lib.hid (isKey_q w a n c k hk)
  have HRI := Lib.hid (fun x => show Calls Tryz.prog 96 #[.agg A] x (fun e w' => e = .returned (.bool (rightH h)) ∧ Below x.heap.size x w') by rw [hA]; exact right_any x h)
  clear hA hG hcv hk ht h3
  go_enter Tryz.func84, Tryz.ntmps84
  go_upto_region 1 with (fail)
  obtain ⟨g3, hg3⟩ : ∃ g, g = w.heap.size := ⟨_, rfl⟩
  obtain ⟨g4, hg4⟩ : ∃ g, g = w.heap.size + 1 := ⟨_, rfl⟩
  have HQ3 := Lib.hid (show ((w.alloc (.cells A 25)).alloc (.cells G 63)).heap[g3]? = some (.cells A 25 (0, 0)) by rw [hg3]; exact heap_alloc2_old w _ _)
  have HQ4 := Lib.hid (show ((w.alloc (.cells A 25)).alloc (.cells G 63)).heap[g4]? = some (.cells G 63 (0, 0)) by rw [hg4]; exact heap_alloc2_new w _ _)
  have HB1 := Lib.hid (show Below w.heap.size w ((w.alloc (.cells A 25)).alloc (.cells G 63)) from ((Below.refl _ _).alloc (Nat.le_refl _) _).alloc (by simp) _)
  first
    | rw [← hg4, ← hg3]
    | rw [← hg3, ← hg4]
  clear hg3 hg4
  generalize (w.alloc (.cells A 25)).alloc (.cells G 63) = w1 at *
  have HSS := Lib.hid (fun (x : World) (hx : Below w1.heap.size w1 x) => show x.heap[g3]? = some (.cells A 25 (0, 0)) ∧ x.heap[g4]? = some (.cells G 63 (0, 0)) from ⟨(hx.block g3 (Array.getElem?_eq_some_iff.1 HQ3.out).1).trans HQ3.out, (hx.block g4 (Array.getElem?_eq_some_iff.1 HQ4.out).1).trans HQ4.out⟩)
  have HWX := Lib.hid (fun (x : World) (hx : Below w1.heap.size w1 x) => HB1.out.trans (hx.mono HB1.out.size))
  have HX1 := Lib.hid (show Below w1.heap.size w1 w1.drew from (Below.refl _ _).drew)
  obtain ⟨D, hD⟩ : ∃ D, D = dgA (idP k).1 := ⟨_, rfl⟩
  have HD := Lib.hid hD
  have HCI := Lib.hid (fun (x : World) (hx : Below w1.heap.size w1 x) => show Calls Tryz.prog 40 #[.slice a n c] x (fun e w' => e = .returned (.agg D) ∧ Below x.heap.size x w') by
    rw [hD]
    have hb := HWX.out x hx
    exact id_any x a n c k (HK.out.below hb) (rt_below HT.out.1 hb HT.out.2) (by have := hb.size; have := HT.out.2; omega))
  obtain ⟨E, hE⟩ : ∃ E, E = dgA s.key.1 := ⟨_, rfl⟩
  have HES := Lib.hid (show E.size = 32 by rw [hE, dgA_size, s.key.2])
  have HLE := Lib.hid (fun (x : World) (hx : x.heap[g4]? = some (.cells G 63 (0, 0))) => show x.rangeAt g4 0 E.toList by
    have := (sg_key hx HG.out).1
    rw [hE]; simpa [dgE, dgA] using this)
  have HNE := Lib.hid (fun (x : World) => show (binOp .neq 23 (.agg D) (.agg E)).run Tryz.prog x = .ok (.bool (!decide (idP k = s.key))) x by rw [hD, hE]; exact neqd_dg _ _ _)
  clear hD hE
  cases hik : isKey k with
  | false =>
    have HV := Lib.hid (show cv = 160 by rw [HCV.out, checkP_no hik]; rfl)
    rw [hik] at HIK
    clear hik
    refine wp_region_held_drew (S := fun x => x.heap[g3]? = some (.cells A 25 (0, 0)) ∧ x.heap[g4]? = some (.cells G 63 (0, 0))) (by kernel_rfl) (HSS.out _ HX1.out) (fun hHeld => ?_)
    apply wpT 0
    apply wpR 1
    intro K hK
    go_simp
    refine (HIK.out _).mono ?_
    rintro e w2 ⟨rfl, e2⟩
    have e2 := e2.symm; subst e2
    apply bk hK
    · exact hHeld
    intro hHeld
    clear hK K
    apply wpT 2
    apply wpT 3
    apply wpN 4
    apply wpN 5
    apply wpN 6
    apply wpN 7
    apply wpN 8
    apply wpT 9
    refine wpAnyH_done (by kernel_rfl) ?_ _
    go_wp2_with fail
    go_ret
    exact ⟨by (first | (rw [HV.out]; done) | (rw [HV.out]; rfl)), HWX.out _ HX1.out⟩
  | true =>
    have HIT := Lib.hid hik
    rw [hik] at HIK
    clear hik
    cases hid : decide (idP k = s.key) with
    | false =>
      have HV := Lib.hid (show cv = 160 by rw [HCV.out, checkP_id HIT.out hid]; rfl)
      rw [hid] at HNE
      clear hid
      refine wp_region_held_drew (S := fun x => x.heap[g3]? = some (.cells A 25 (0, 0)) ∧ x.heap[g4]? = some (.cells G 63 (0, 0))) (by kernel_rfl) (HSS.out _ HX1.out) (fun hHeld => ?_)
      apply wpT 0
      apply wpR 1
      intro K hK
      go_simp
      refine (HIK.out _).mono ?_
      rintro e w2 ⟨rfl, e2⟩
      have e2 := e2.symm; subst e2
      apply bk hK
      · exact hHeld
      intro hHeld
      clear hK K
      apply wpT 2
      apply wpT 3
      apply wpT 4
      apply wpT 6
      apply wpL 7 (.agg E)
      · exact fun w hSw => exec_load rfl (load23r (HLE.out w hSw.2) HES.out)
      apply wpR 5
      intro K hK
      go_simp
      refine (HCI.out _ HX1.out).mono ?_
      rintro e w3 ⟨rfl, hb⟩
      have HX3 := Lib.hid (HX1.out.trans (hb.mono HX1.out.size))
      clear hb
      apply bk hK
      · exact HSS.out _ HX3.out
      intro hHeld
      clear hK K
      apply wpL 8 (.bool (!false))
      · exact fun w hSw => exec_bin rfl (HNE.out w) (by kernel_rfl)
      apply wpT 9
      refine wpAnyH_done (by kernel_rfl) ?_ _
      go_wp2_with fail
      go_ret
      exact ⟨by (first | (rw [HV.out]; done) | (rw [HV.out]; rfl)), HWX.out _ HX3.out⟩
    | true =>
      have HIE := Lib.hid hid
      rw [hid] at HNE
      clear hid
      refine wp_region_held_drew (S := fun x => x.heap[g3]? = some (.cells A 25 (0, 0)) ∧ x.heap[g4]? = some (.cells G 63 (0, 0))) (by kernel_rfl) (HSS.out _ HX1.out) (fun hHeld => ?_)
      apply wpT 0
      apply wpR 1
      intro K hK
      go_simp
      refine (HIK.out _).mono ?_
      rintro e w2 ⟨rfl, e2⟩
      have e2 := e2.symm; subst e2
      apply bk hK
      · exact hHeld
      intro hHeld
      clear hK K
      apply wpT 2
      apply wpT 3
      apply wpT 4
      apply wpT 6
      apply wpL 7 (.agg E)
      · exact fun w hSw => exec_load rfl (load23r (HLE.out w hSw.2) HES.out)
      apply wpR 5
      intro K hK
      go_simp
      refine (HCI.out _ HX1.out).mono ?_
      rintro e w3 ⟨rfl, hb⟩
      have HX3 := Lib.hid (HX1.out.trans (hb.mono HX1.out.size))
      clear hb
      apply bk hK
      · exact HSS.out _ HX3.out
      intro hHeld
      clear hK K
      apply wpL 8 (.bool (!true))
      · exact fun w hSw => exec_bin rfl (HNE.out w) (by kernel_rfl)
      apply wpT 9
      refine wpAnyH_done (by kernel_rfl) ?_ _
      have HQA := Lib.hid (show w3.heap[g3]? = some (.cells A 25 (0, 0)) from (HSS.out _ HX3.out).1)
      cases hrr : rightH h with
      | false =>
        have HV := Lib.hid (show cv = 1 by rw [HCV.out, checkP_arg HIT.out HIE.out hrr]; rfl)
        rw [hrr] at HRI
        clear hrr
        go_wp2_with (first
          | (refine wpList_load_row rfl 25 (.tmp 3) (by rfl) g3 (by rfl) 25 A (0, 0) _ HQA.out Tryz.underlying25 rfl (by rw [HAS.out]; exact info25) ?_)
          | (go_at_call 96; (with_reducible refine (HRI.out _).mono ?_); rintro e w4 ⟨rfl, hb⟩; have HX4 := Lib.hid (HX3.out.trans (hb.mono HX3.out.size)); clear hb))
        go_ret
        exact ⟨by (first | (rw [HV.out]; done) | (rw [HV.out]; rfl)), HWX.out _ HX4.out⟩
      | true =>
        obtain ⟨F, hF⟩ : ∃ F, F = sgA (signP h k) := ⟨_, rfl⟩
        have HSG := Lib.hid (fun (x : World) (hx : Below w1.heap.size w1 x) => show Calls Tryz.prog 97 #[.agg A, .slice a n c] x (fun e w' => e = .returned (.agg F) ∧ Below x.heap.size x w') by
          rw [HA.out, hF]
          have hb := HWX.out x hx
          exact sign_any x h a n c k hrr (HK.out.below hb) (key_len HK.out HIT.out) (rt_below HT.out.1 hb HT.out.2) (by have := hb.size; have := HT.out.2; omega))
        have HNS := Lib.hid (fun (x : World) => show (binOp .neq 63 (.agg F) (.agg G)).run Tryz.prog x = .ok (.bool (!decide (signP h k = s))) x by rw [hF, HG.out]; exact neq_sg _ _ _)
        have HVV := Lib.hid (show cv = (if decide (signP h k = s) then (0 : Int) else 161) by rw [HCV.out, checkP_tag HIT.out HIE.out hrr]; split <;> rfl)
        rw [hrr] at HRI
        clear hrr hF
        go_upto_region 5 with (first
          | (refine wpList_load_row rfl 25 (.tmp 3) (by rfl) g3 (by rfl) 25 A (0, 0) _ HQA.out Tryz.underlying25 rfl (by rw [HAS.out]; exact info25) ?_)
          | (go_at_call 96; (with_reducible refine (HRI.out _).mono ?_); rintro e w4 ⟨rfl, hb⟩; have HX4 := Lib.hid (HX3.out.trans (hb.mono HX3.out.size)); clear hb))
        have HX5 := Lib.hid (show Below w1.heap.size w1 w4.drew from HX4.out.drew)
        refine wp_region_held_drew (S := fun x => x.heap[g3]? = some (.cells A 25 (0, 0)) ∧ x.heap[g4]? = some (.cells G 63 (0, 0))) (by kernel_rfl) (HSS.out _ HX5.out) (fun hHeld => ?_)
        apply wpL 0 (.agg A)
        · exact fun w hSw => exec_load rfl (load25 (row_range hSw.1) HAS.out)
        apply wpT 1
        apply wpL 3 (.agg G)
        · exact fun w hSw => exec_load rfl (load_sg (row_range hSw.2) HGS.out)
        apply wpR 2
        intro K hK
        go_simp
        refine (HSG.out _ HX5.out).mono ?_
        rintro e w6 ⟨rfl, hb⟩
        have HX6 := Lib.hid (HX5.out.trans (hb.mono HX5.out.size))
        clear hb
        apply bk hK
        · exact HSS.out _ HX6.out
        intro hHeld
        clear hK K
        apply wpL 4 (.bool (!decide (signP h k = s)))
        · exact fun w hSw => exec_bin rfl (HNS.out w) (by kernel_rfl)
        refine wpAnyH_done (by kernel_rfl) ?_ _
        cases hsq : decide (signP h k = s) with
        | true =>
          have HV := Lib.hid (show cv = 0 by rw [HVV.out, hsq]; rfl)
          clear hsq
          go_wp2_with fail
          go_ret
          exact ⟨by (first | (rw [HV.out]; done) | (rw [HV.out]; rfl)), HWX.out _ HX6.out⟩
        | false =>
          have HV := Lib.hid (show cv = 161 by rw [HVV.out, hsq]; rfl)
          clear hsq
          go_wp2_with fail
          go_ret
          exact ⟨by (first | (rw [HV.out]; done) | (rw [HV.out]; rfl)), HWX.out _ HX6.out⟩
end Go.Proofs.YtoboabkaojfbaaaGreatDoor
namespace Go.Proofs.YtoboabkaojfbaaaGreatDoor
open Go Go.RowKit
set_option maxRecDepth 100000
set_option maxHeartbeats 4000000
set_option linter.unusedVariables false
set_option linter.unusedSimpArgs false
/-! Rows that are filled place by place; a reader's digests and signs one more; the reader that Read makes. -/
theorem rSigns_snoc : ∀ (k : Nat) (s : Rs), rSigns (k + 1) s = ((rSigns k s).1 ++ [⟨(rDg (rSigns k s).2).1, (rDg (rDg (rSigns k s).2).2).1⟩], (rDg (rDg (rSigns k s).2).2).2)
  | 0, s => rfl
  | k + 1, s => by
    have h := rSigns_snoc k (rDg (rDg s).2).2
    show (⟨(rDg s).1, (rDg (rDg s).2).1⟩ :: (rSigns (k + 1) (rDg (rDg s).2).2).1, (rSigns (k + 1) (rDg (rDg s).2).2).2) = _
    rw [h]
    rfl
theorem rSigns_len : ∀ (k : Nat) (s : Rs), (rSigns k s).1.length = k
  | 0, _ => rfl
  | k + 1, s => by rw [rSigns_snoc, List.length_append, rSigns_len k s]; rfl
theorem rDgN_snoc : ∀ (k : Nat) (s : Rs), rDgN (k + 1) s = ((rDgN k s).1 ++ [(rDg (rDgN k s).2).1], (rDg (rDgN k s).2).2)
  | 0, s => rfl
  | k + 1, s => by
    have h := rDgN_snoc k (rDg s).2
    show ((rDg s).1 :: (rDgN (k + 1) (rDg s).2).1, (rDgN (k + 1) (rDg s).2).2) = _
    rw [h]
    rfl
theorem rDgN_len : ∀ (k : Nat) (s : Rs), (rDgN k s).1.length = k
  | 0, _ => rfl
  | k + 1, s => by rw [rDgN_snoc, List.length_append, rDgN_len k s]; rfl
section
variable {α : Type} (enc : α → List Value)
theorem flat_put (A B : List α) (z x : α) (s : Nat) (he : ∀ y, (enc y).length = s) {w : World} {g : Nat} {t : TypeId} (h : w.heap[g]? = some (.cells ((A ++ z :: B).flatMap enc).toArray t (0, 0))) (off : Nat) (ho : off = A.length * s) :
    (w.setCells g off (enc x)).heap[g]? = some (.cells ((A ++ x :: B).flatMap enc).toArray t (0, 0)) := by
  have := mid_set (A := A.flatMap enc) (Z := enc z) (B := B.flatMap enc) (V := enc x) h off (by simp) (by rw [flat_len enc s he, ho]) (by rw [he, he])
  simpa using this
theorem flat_there (A B : List α) (z : α) (s : Nat) (he : ∀ y, (enc y).length = s) {w : World} {g : Nat} {t : TypeId} (h : w.heap[g]? = some (.cells ((A ++ z :: B).flatMap enc).toArray t (0, 0))) (off : Nat) (ho : off = A.length * s) : w.there g off s :=
  mid_there h off s (by rw [List.size_toArray, flat_len enc s he, ho, List.length_append, List.length_cons, Nat.add_mul, Nat.add_mul]; omega)
theorem rs_block (s : Nat) (hs : 0 < s) (he : ∀ y, (enc y).length = s) {w : World} {g : Nat} {t : TypeId} {l : List α} (h : w.heap[g]? = some (.cells (l.flatMap enc).toArray t (0, 0))) (n : Nat) (hl : l.length = n) (hn : n ≤ 281474976710656) : RS s enc w (some ⟨g, 0, none⟩) n n l :=
  ⟨hl, Nat.le_refl _, hn, fun i x hx => ⟨g, 0, rfl, fun j v hv => by
    rw [cell_of_row _ _ _ _ _ _ h, Nat.zero_add, List.getElem?_toArray]
    exact flat_get enc s he l i x hx j v hv⟩⟩
/-- The row that make lays. -/
theorem made_block (s : Nat) (hs : 0 < s) (he : ∀ y, (enc y).length = s) {w : World} {B g n : Nat} {e : TypeId} {xs : List Value} (h : w.ownsRow B e s (.slice (some ⟨g, 0, none⟩) n n) n xs) : w.heap[g]? = some (.cells xs.toArray e (0, 0)) := by
  obtain ⟨h1, h2⟩ := h
  rcases h2 with ⟨hv, -⟩ | ⟨g', cap, cur, hv, hb, hh, hnc, hcm, hcs, htk⟩
  · cases hv
  · obtain ⟨e1, e2, e3⟩ := Value.slice.inj hv
    cases e1
    subst e3
    rw [hh]
    congr 2
    rw [← htk]
    have : cur.toList.length ≤ n * s := by rw [Array.length_toList, hcs]; exact Nat.le_refl _
    rw [List.take_of_length_le this]
end
theorem made_row {α : Type} (enc : α → List Value) (s : Nat) (hs : 0 < s) (he : ∀ y, (enc y).length = s) (x : α) (Z : Array Value) (hZ : Z = (enc x).toArray) (n : Nat) : (madeCells Z (n * s)).toList = (List.replicate n x).flatMap enc := by
  subst hZ
  have hl := flat_len enc s he (List.replicate n x)
  rw [List.length_replicate] at hl
  apply List.ext_getElem?
  intro i
  by_cases h : i < n * s
  · have hd : i = (i / s) * s + i % s := by rw [Nat.mul_comm]; exact (Nat.div_add_mod i s).symm
    have hq : (List.replicate n x)[i / s]? = some x := by
      rw [List.getElem?_replicate, if_pos (Nat.div_lt_of_lt_mul (by rwa [Nat.mul_comm]))]
    have hr : (enc x)[i % s]? = some ((enc x)[i % s]'(by rw [he]; exact Nat.mod_lt _ hs)) := List.getElem?_eq_getElem _
    have h2 := flat_get enc s he _ _ _ hq _ _ hr
    rw [← hd] at h2
    rw [h2]
    unfold madeCells
    rw [Array.getElem?_toList, Array.getElem?_map, Array.getElem?_range, if_pos h]
    have hsz : (enc x).toArray.size = s := by rw [List.size_toArray, he]
    show some ((enc x).toArray[i % (enc x).toArray.size]!) = _
    rw [getElem!_pos _ _ (by rw [hsz]; exact Nat.mod_lt _ hs)]
    congr 1
    rw [List.getElem_toArray]
    congr 1
    rw [hsz]
  · rw [List.getElem?_eq_none (by rw [Array.length_toList, size_madeCells]; omega), List.getElem?_eq_none (by omega)]
theorem made_sg (z : Value) (hz : z.cells = sgA zSg) (n : Nat) : (madeCells z.cells (n * 64)).toList = (List.replicate n zSg).flatMap sgE := by
  rw [hz]; exact made_row sgE 64 (by decide) sgE_len zSg _ rfl n
end Go.Proofs.YtoboabkaojfbaaaGreatDoor
