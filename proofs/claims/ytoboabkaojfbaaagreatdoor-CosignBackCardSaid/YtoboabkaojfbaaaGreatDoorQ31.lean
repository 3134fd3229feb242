import Derived.Test.YtoboabkaojfbaaaGreatDoorQ27
namespace Go.Proofs.YtoboabkaojfbaaaGreatDoor
open Go Go.RowKit
set_option maxRecDepth 100000
set_option maxHeartbeats 8000000
set_option linter.unusedVariables false
set_option linter.unusedSimpArgs false
/-! head.DecodeNote. -/
theorem read_g (w : World) (a : Option Addr) (n c : Nat) (l : List UInt8) (hr : R8 w a n c l) (hn : n ≤ 1000000000000) :
    Calls Tryz.prog 98 #[.slice a n c] w fun e w' => ∃ gr, e = .returned (.pointer (some ⟨gr, 0, none⟩)) ∧ w.heap.size ≤ gr ∧ RdG w' w'.heap.size gr (l, 0) ∧ Below w.heap.size w w' := by
  refine (read_new w a n c l hr hn).mono ?_
  rintro e w' ⟨gr, rfl, hge, ⟨a2, n2, c2, h1, h2, h3, h4⟩, hb⟩
  refine ⟨gr, rfl, hge, ⟨a2, n2, c2, l, 0, by simpa using h1, h2, h3, h4, Nat.zero_le _, rfl, fun x hx h0 => ?_⟩, hb⟩
  obtain ⟨b, off, e, hc⟩ := h2.2.2.2 0 (by have := h2.1; omega)
  rw [hx] at e
  obtain rfl := Option.some.inj e
  exact World.block_lt_of_cell? w' _ hc
def zNt : Nt := ⟨zHd, []⟩
def DnRet (w : World) (raw : List UInt8) (e : Ending) (w' : World) : Prop := ∃ s : S3, e = .returned (.tuple #[.agg (ntA ((decN raw).getD zNt).head s.v), .int .i64 (if (decN raw).isSome then 0 else 8)]) ∧ w'.ownsRow w.heap.size 63 64 s.v s.n (((decN raw).getD zNt).signs.flatMap sgE) ∧ Below w.heap.size w w'
theorem own_block {α : Type} (enc : α → List Value) (s : Nat) (hs : 0 < s) (he : ∀ y, (enc y).length = s) {w : World} {B g n : Nat} {t : TypeId} {l : List α} (h : w.heap[g]? = some (.cells (l.flatMap enc).toArray t (0, 0))) (hl : l.length = n) (hB : B ≤ g) (hn : n ≤ maxLen) : w.ownsRow B t s (.slice (some ⟨g, 0, none⟩) n n) n (l.flatMap enc) := by
  have e := flat_len enc s he l
  refine ⟨by rw [e, hl], .inr ⟨g, n, (l.flatMap enc).toArray, rfl, hB, h, Nat.le_refl _, hn, by rw [List.size_toArray, e, hl], ?_⟩⟩
  rw [List.take_of_length_le (by rw [e, hl]; exact Nat.le_refl _)]
theorem built28p (h : Hd) (s : S3) : Tryz.prog.built 28 [(0, .agg (hdA h)), (1, s.v)] = some (ntA h s.v) := by
  rw [built_fill (z := .agg (ntA zHd nilS)) (sz := 99) (by' := 136) (places := [(0, 98), (98, 1)]) (by kernel_rfl) (by kernel_rfl) (by kernel_rfl)]
  have h0 := fill_part (([(0, 98), (98, 1)] : List (Nat × Nat)).toArray[·]?) 0 0 (.agg (hdA h)) [(1, s.v)] [] (hdE zHd) [nilS] (hdE h) (by rw [hdE_len]; rfl) rfl rfl (by rw [hdE_len, hdE_len])
  have h1 := fill_part (([(0, 98), (98, 1)] : List (Nat × Nat)).toArray[·]?) 1 98 s.v [] (hdE h) [nilS] [] [s.v] rfl rfl (hdE_len h) rfl
  rw [List.append_nil, List.append_nil] at h1
  exact h0.trans h1
theorem exec_build28p {ρ : Operand → Value} {o : Oper} {d e : Operand} {D : Array Value} {h : Hd} {s : S3} (ho : o.op = .build 28 #[(0, d), (1, e)]) (hd : ρ d = .agg D) (he : ρ e = s.v) (hD : D = hdA h) (w : World) : (execOp ρ o).run Tryz.prog w = .ok (.value (.agg (ntA h s.v))) w := by
  subst hD
  have hb : (Instr.build 28 #[(0, .agg (hdA h)), (1, s.v)]).run Tryz.prog w = .ok (.agg (ntA h s.v)) w := run_build w 28 #[(0, .agg (hdA h)), (1, s.v)] _ (built28p h s)
  unfold execOp
  simp only [ho, List.map_toArray, List.map_cons, List.map_nil, hd, he, Sem.run_bind, hb, Result.andThen_ok, Sem.run_pure]
theorem decN_no {raw : List UInt8} (h : (rHead (rTake 1 (raw, 0)).2).1 = none) : decN raw = none := by unfold decN; simp only [h]
theorem decN_some {raw : List UInt8} {hd : Hd} (h : (rHead (rTake 1 (raw, 0)).2).1 = some hd) : decN raw = if (rTake 1 (raw, 0)).1 ≠ 33 ∨ (rTake 1 (rHead (rTake 1 (raw, 0)).2).2).1 = 0 ∨ 16 < (rTake 1 (rHead (rTake 1 (raw, 0)).2).2).1 then none else
    if rDone (rSigns (rTake 1 (rHead (rTake 1 (raw, 0)).2).2).1 (rTake 1 (rHead (rTake 1 (raw, 0)).2).2).2).2 = 0 ∧ riseP (rSigns (rTake 1 (rHead (rTake 1 (raw, 0)).2).2).1 (rTake 1 (rHead (rTake 1 (raw, 0)).2).2).2).1 = true then some ⟨hd, (rSigns (rTake 1 (rHead (rTake 1 (raw, 0)).2).2).1 (rTake 1 (rHead (rTake 1 (raw, 0)).2).2).2).1⟩ else none := by
  unfold decN; simp only [h]
theorem o25_size : (HB zDg 0 zDg zDg 0).toArray.size = 98 := by rw [List.size_toArray, HB_len]
theorem decN_any (w : World) (a : Option Addr) (n c : Nat) (raw : List UInt8) (hr : R8 w a n c raw) (hn : n ≤ 1000000000000) :
    Calls Tryz.prog 100 #[.slice a n c] w (DnRet w raw) := by
  have HR := Lib.hid hr; have HN := Lib.hid hn
  obtain ⟨Z, hZ⟩ : ∃ Z, Z = ntA zHd nilS := ⟨_, rfl⟩
  have HZ := Lib.hid hZ
  have HZS := Lib.hid (show Z.size = 99 ∧ Z.all (·.oneCell') = true by rw [hZ]; exact ⟨ntA_size _ _, ntA_one _ _ rfl⟩)
  have HBZ := Lib.hid (fun (ρ : Operand → Value) (o : Oper) (ho : o.op = .build 28 #[]) (w : World) => show (execOp ρ o).run Tryz.prog w = .ok (.value (.agg Z)) w by rw [hZ]; exact exec_build28 ho w)
  clear hr hn hZ
  go_enter Tryz.func100, Tryz.ntmps100
  go_upto_region 1 with (fail)
  change Code.wp Tryz.prog _ _ _ (w.alloc o28)
  obtain ⟨g2, hg2⟩ : ∃ g, g = w.heap.size := ⟨_, rfl⟩
  rw [← hg2]
  have HG2 := Lib.hid hg2
  have HQ1 := Lib.hid (show (w.alloc o28).heap[g2]? = some o28 by rw [hg2]; exact heap_alloc_new w _)
  have HB1 := Lib.hid ((Below.refl w.heap.size w).alloc (Nat.le_refl _) o28)
  clear hg2
  generalize w.alloc o28 = w1 at *
  have HFIN := Lib.hid (fun (x : World) (G : Array Value) (hs : G.size = 99) (hq : x.heap[g2]? = some o28) (hb : Below w.heap.size w x) => show (x.setCells g2 0 G.toList).heap[g2]? = some (.cells G 28 (0, 0)) ∧ Below w.heap.size w (x.setCells g2 0 G.toList) by
    refine ⟨?_, hb.grown (setCells_grown _ _ _ _) hb.size (fun q hq => by rw [← Option.some.inj hq, HG2.out]; exact Nat.le_refl _)⟩
    have := setCells_all (show x.heap[g2]? = some (.cells (ntA zHd nilS) 28 (0, 0)) from hq) G.toList (by rw [Array.length_toList, hs, ntA_size])
    simpa using this)
  have HTH := Lib.hid (fun (x : World) (hq : x.heap[g2]? = some o28) => show x.there g2 0 99 by
    have := there_block (show x.heap[g2]? = some (.cells (ntA zHd nilS) 28 (0, 0)) from hq); rwa [ntA_size] at this)
  have HRD := Lib.hid (read_g w1 a n c raw (HR.out.below HB1.out) HN.out)
  go_upto_region 2 with (go_at_call 98; (with_reducible refine HRD.out.mono ?_); rintro e w2 ⟨gr, rfl, hge, hrd, hb⟩; have HGE := Lib.hid hge; have HRG2 := Lib.hid hrd; have HX2 := Lib.hid hb; clear hge hrd hb)
  have HQ2 := Lib.hid ((HX2.out.block g2 (Array.getElem?_eq_some_iff.1 HQ1.out).1).trans HQ1.out)
  have HB2 := Lib.hid (HB1.out.trans (HX2.out.mono HB1.out.size))
  obtain ⟨B, hB⟩ : ∃ B, B = w2.heap.size := ⟨_, rfl⟩
  rw [← hB] at HRG2
  have HBB := Lib.hid (show B = w2.heap.size ∧ w.heap.size ≤ gr ∧ g2 ≠ gr ∧ w.heap.size ≤ B from ⟨hB, by have := HGE.out; have := HB1.out.size; omega, by have := (Array.getElem?_eq_some_iff.1 HQ1.out).1; have := HGE.out; omega, by rw [hB]; exact HB2.out.size⟩)
  clear hB
  obtain ⟨s1, hs1⟩ : ∃ s, s = rTake 1 (raw, 0) := ⟨_, rfl⟩
  obtain ⟨kv, hkv⟩ : ∃ k, k = s1.1 := ⟨_, rfl⟩
  have HT1 := Lib.hid (show Calls Tryz.prog 99 #[.pointer (some ⟨gr, 0, none⟩)] w2 (fun e w' => e = .returned (.int .u8 (kv : Int)) ∧ RdG w' B gr s1.2 ∧ w2.grownBy w' (some gr)) by rw [hkv, hs1]; exact take8_any w2 B gr (raw, 0) HRG2.out)
  have HS1 := Lib.hid (And.intro hs1 hkv)
  clear hs1 hkv
  go_upto_region 3 with (go_at_call 99; (with_reducible refine HT1.out.mono ?_); rintro e w3 ⟨rfl, hrd, hg⟩; have HRG3 := Lib.hid hrd; have HX3 := Lib.hid hg; clear hrd hg)
  have HQ3 := Lib.hid (blk_keep HX3.out HQ2.out HBB.out.2.2.1)
  have HB3 := Lib.hid (HB2.out.grown HX3.out HB2.out.size (fun q hq => by rw [← Option.some.inj hq]; exact HBB.out.2.1))
  obtain ⟨s2, hs2⟩ : ∃ s, s = rHead s1.2 := ⟨_, rfl⟩
  obtain ⟨hd, hhd⟩ : ∃ h, h = s2.1.getD zHd := ⟨_, rfl⟩
  obtain ⟨D, hD⟩ : ∃ D, D = hdA hd := ⟨_, rfl⟩
  obtain ⟨ok, hok⟩ : ∃ b, b = s2.1.isSome := ⟨_, rfl⟩
  have HDS := Lib.hid (show D.size = 98 ∧ D.all (·.oneCell') = true by rw [hD]; exact ⟨hdA_size _, hdA_one _⟩)
  have HTH3 := Lib.hid (show Calls Tryz.prog 168 #[.pointer (some ⟨gr, 0, none⟩)] w3 (fun e w' => e = .returned (.tuple #[.agg D, .bool ok]) ∧ RdG w' B gr s2.2 ∧ w3.grownBy w' (some gr)) by rw [hD, hhd, hok, hs2]; exact takeH_any w3 B gr s1.2 HRG3.out (by have := HX3.out.size; have := HBB.out.1; omega))
  have HS2 := Lib.hid (And.intro hs2 (And.intro hhd hok)); have HDD := Lib.hid hD
  clear hs2 hhd hok hD
  have HZ25 := Lib.hid (fun (x : World) => show (x.alloc o25).there x.heap.size 0 98 by
    have := there_block (show (x.alloc o25).heap[x.heap.size]? = some (.cells (HB zDg 0 zDg zDg 0).toArray 25 (0, 0)) from heap_alloc_new x _)
    rwa [o25_size] at this)
  go_upto_region 4 with (first
    | (go_at_call 168; (with_reducible refine HTH3.out.mono ?_); rintro e w4 ⟨rfl, hrd, hg⟩; have HRG4 := Lib.hid hrd; have HX4 := Lib.hid hg; clear hrd hg)
    | (refine wpList_store_mid rfl 25 (.tmp 6) (.tmp 18) (by rfl) w4.heap.size 0 D (by rfl) (by rfl) (by rw [HDS.out.1]; exact HZ25.out w4) (by rw [HDS.out.1]; exact info25) HDS.out.2 ?_))
  change Code.wp Tryz.prog _ _ _ ((w4.alloc o25).setCells w4.heap.size 0 D.toList)
  have HQ4 := Lib.hid (blk_keep HX4.out HQ3.out HBB.out.2.2.1)
  have HB4 := Lib.hid (HB3.out.grown HX4.out HB3.out.size (fun q hq => by rw [← Option.some.inj hq]; exact HBB.out.2.1))
  obtain ⟨g6, hg6⟩ : ∃ g, g = w4.heap.size := ⟨_, rfl⟩
  rw [← hg6]
  have HG6 := Lib.hid (show g6 = w4.heap.size ∧ B ≤ g6 ∧ gr < g6 ∧ g2 ≠ g6 from ⟨hg6, by have := HX4.out.size; have := HX3.out.size; have := HBB.out.1; omega, by rw [hg6]; exact HRG4.out.lt, by have := (Array.getElem?_eq_some_iff.1 HQ4.out).1; omega⟩)
  have HX5 := Lib.hid (show Below w4.heap.size w4 ((w4.alloc o25).setCells g6 0 D.toList) from ((Below.refl _ _).alloc (Nat.le_refl _) _).grown (setCells_grown _ _ _ _) (by rw [World.size_alloc]; omega) (fun k hk => by rw [← Option.some.inj hk, hg6]; exact Nat.le_refl _))
  have HD5 := Lib.hid (show ((w4.alloc o25).setCells g6 0 D.toList).heap[g6]? = some (.cells D 25 (0, 0)) by
    have := setCells_all (show (w4.alloc o25).heap[g6]? = some (.cells (HB zDg 0 zDg zDg 0).toArray 25 (0, 0)) by rw [hg6]; exact heap_alloc_new w4 _) D.toList (by rw [Array.length_toList, HDS.out.1, o25_size])
    simpa using this)
  clear hg6
  generalize (w4.alloc o25).setCells g6 0 D.toList = w5 at *
  have HQ5 := Lib.hid ((HX5.out.block g2 (Array.getElem?_eq_some_iff.1 HQ4.out).1).trans HQ4.out)
  have HB5 := Lib.hid (HB4.out.trans (HX5.out.mono HB4.out.size))
  have HRG5 := Lib.hid (HRG4.out.below HX5.out)
  obtain ⟨s3, hs3⟩ : ∃ s, s = rTake 1 s2.2 := ⟨_, rfl⟩
  obtain ⟨cv, hcv⟩ : ∃ k, k = s3.1 := ⟨_, rfl⟩
  have hcl : cv < 256 := by rw [hcv, hs3]; exact rTake_lt 1 _ 256 (by decide)
  have HT5 := Lib.hid (show Calls Tryz.prog 99 #[.pointer (some ⟨gr, 0, none⟩)] w5 (fun e w' => e = .returned (.int .u8 (cv : Int)) ∧ RdG w' B gr s3.2 ∧ w5.grownBy w' (some gr)) by rw [hcv, hs3]; exact take8_any w5 B gr s2.2 HRG5.out)
  have HS3 := Lib.hid (And.intro hs3 hcv)
  have hwc : IntKind.i64.wrap (cv : Int) = (cv : Int) := IntWalk.i64_in _ (by omega)
  clear hs3 hcv
  go_upto_region 5 with (go_at_call 99; (with_reducible refine HT5.out.mono ?_); rintro e w6 ⟨rfl, hrd, hg⟩; have HRG6 := Lib.hid hrd; have HX6 := Lib.hid hg; clear hrd hg)
  have HQ6 := Lib.hid (blk_keep HX6.out HQ5.out HBB.out.2.2.1)
  have HD6 := Lib.hid (blk_keep HX6.out HD5.out (by have := HG6.out; omega))
  have HB6 := Lib.hid (HB5.out.grown HX6.out HB5.out.size (fun q hq => by rw [← Option.some.inj hq]; exact HBB.out.2.1))
  clear HRG2 HRG3 HRG4 HRG5 HT1 HT5 HTH3 HRD HQ1 HQ2 HQ3 HQ4 HQ5 HZ25 HD5
  have HCL := Lib.hid hcl
  clear hcl hwc
  cases hok : ok with
  | false =>
    have HV := Lib.hid (show decN raw = none by
      refine decN_no ?_
      have := HS2.out.2.2
      rw [hok, HS2.out.1, HS1.out.1] at this
      simpa using this.symm)
    clear hok
    go_wp2_with (first
      | (refine L_value rfl (HBZ.out _ _ (by rfl) _) ?_)
      | (refine wpList_store_mid rfl 28 (.tmp 2) (.tmp 37) (by rfl) g2 0 Z (by rfl) (by rfl) (by rw [HZS.out.1]; exact HTH.out _ HQ6.out) (by rw [HZS.out.1]; exact info28) HZS.out.2 ?_))
    exact bodyPost_ret (v := .tuple #[.agg Z, .int .i64 8]) (results_row_tmp (p := 2) (u := 3) (ty := 28) rfl _ _ g2 28 Z (0, 0) _ rfl (HFIN.out _ Z HZS.out.1 HQ6.out HB6.out).1 Tryz.underlying28 rfl (by rw [HZS.out.1]; exact info28)) rfl ⟨⟨none, 0, 0⟩, by rw [HV.out, HZ.out]; rfl, by rw [HV.out]; exact World.ownsRow_nil _ _ _ _, (HFIN.out _ Z HZS.out.1 HQ6.out HB6.out).2⟩
  | true =>
    have HVS := Lib.hid (show decN raw = if kv ≠ 33 ∨ cv = 0 ∨ 16 < cv then none else if rDone (rSigns cv s3.2).2 = 0 ∧ riseP (rSigns cv s3.2).1 = true then some ⟨hd, (rSigns cv s3.2).1⟩ else none by
      have h1 := HS2.out.2.2
      rw [hok] at h1
      have h2 : s2.1 = some hd := by
        have := HS2.out.2.1
        cases hq : s2.1 with
        | none => rw [hq] at h1; cases h1
        | some x => rw [hq] at this; rw [this]; rfl
      have h3 := decN_some (raw := raw) (hd := hd) (by rw [← HS1.out.1, ← HS2.out.1]; exact h2)
      rw [← HS1.out.1, ← HS2.out.1, ← HS3.out.1, ← HS1.out.2, ← HS3.out.2] at h3
      exact h3)
    clear hok
    by_cases c1 : kv = 33
    · by_cases c2 : cv = 0
      · have HV := Lib.hid (show decN raw = none by rw [HVS.out, if_pos (Or.inr (Or.inl c2))])
        subst c1; subst c2
        go_wp2_with (first
          | (refine L_value rfl (HBZ.out _ _ (by rfl) _) ?_)
          | (refine wpList_store_mid rfl 28 (.tmp 2) (.tmp 37) (by rfl) g2 0 Z (by rfl) (by rfl) (by rw [HZS.out.1]; exact HTH.out _ HQ6.out) (by rw [HZS.out.1]; exact info28) HZS.out.2 ?_))
        exact bodyPost_ret (v := .tuple #[.agg Z, .int .i64 8]) (results_row_tmp (p := 2) (u := 3) (ty := 28) rfl _ _ g2 28 Z (0, 0) _ rfl (HFIN.out _ Z HZS.out.1 HQ6.out HB6.out).1 Tryz.underlying28 rfl (by rw [HZS.out.1]; exact info28)) rfl ⟨⟨none, 0, 0⟩, by rw [HV.out, HZ.out]; rfl, by rw [HV.out]; exact World.ownsRow_nil _ _ _ _, (HFIN.out _ Z HZS.out.1 HQ6.out HB6.out).2⟩
      · have d2 : ((cv : Int) == 0) = false := by simp; omega
        by_cases c3 : 16 < cv
        · have HV := Lib.hid (show decN raw = none by rw [HVS.out, if_pos (Or.inr (Or.inr c3))])
          subst c1
          have d3 : decide ((16 : Int) < (cv : Int)) = true := by rw [decide_eq_true_eq]; omega
          go_wp2_with (first
            | (refine L_value rfl (HBZ.out _ _ (by rfl) _) ?_)
            | (refine wpList_store_mid rfl 28 (.tmp 2) (.tmp 37) (by rfl) g2 0 Z (by rfl) (by rfl) (by rw [HZS.out.1]; exact HTH.out _ HQ6.out) (by rw [HZS.out.1]; exact info28) HZS.out.2 ?_))
          exact bodyPost_ret (v := .tuple #[.agg Z, .int .i64 8]) (results_row_tmp (p := 2) (u := 3) (ty := 28) rfl _ _ g2 28 Z (0, 0) _ rfl (HFIN.out _ Z HZS.out.1 HQ6.out HB6.out).1 Tryz.underlying28 rfl (by rw [HZS.out.1]; exact info28)) rfl ⟨⟨none, 0, 0⟩, by rw [HV.out, HZ.out]; rfl, by rw [HV.out]; exact World.ownsRow_nil _ _ _ _, (HFIN.out _ Z HZS.out.1 HQ6.out HB6.out).2⟩
        · have HV1 := Lib.hid (show decN raw = if rDone (rSigns cv s3.2).2 = 0 ∧ riseP (rSigns cv s3.2).1 = true then some ⟨hd, (rSigns cv s3.2).1⟩ else none by rw [HVS.out, if_neg (by omega)])
          have d3 : decide ((16 : Int) < (cv : Int)) = false := by rw [decide_eq_false_iff_not]; omega
          have HC := Lib.hid (show 1 ≤ cv ∧ cv ≤ 16 by omega)
          subst c1
          go_upto_region 7 with (fail)
          clear d2 d3 c2 c3 HVS
          have hc6 : cv ≤ 16 := HC.out.2
          go_upto_region 8 with (at_make; refine L_make rfl _ _ _ rfl sl26 w6.heap.size .i64 .i64 _ cv rfl rfl rfl (by omega) (by simp [maxLen]; omega) (Nat.le_refl _) (fun w7 ho hg => ?_); have HO7 := Lib.hid ho; have HX7 := Lib.hid hg; clear ho hg)
          obtain ⟨g9, hg9⟩ : ∃ g, g = w6.heap.size := ⟨_, rfl⟩
          rw [← hg9] at HO7
          rw [← hg9]
          have HG9 := Lib.hid (show g9 = w6.heap.size ∧ B ≤ g9 ∧ gr < g9 ∧ g2 ≠ g9 ∧ g6 ≠ g9 ∧ w.heap.size ≤ g9 from ⟨hg9, by have := HX6.out.size; have := HX5.out.size; have := HG6.out; omega, by rw [hg9]; exact HRG6.out.lt, by have := (Array.getElem?_eq_some_iff.1 HQ6.out).1; omega, by have := (Array.getElem?_eq_some_iff.1 HD6.out).1; omega, by rw [hg9]; exact HB6.out.size⟩)
          have HBX7 := Lib.hid (show Below w6.heap.size w6 w7 from (Below.refl _ _).grown HX7.out (Nat.le_refl _) (by intro k hk; cases hk))
          have HS7 := Lib.hid (show w7.heap[g9]? = some (.cells ((List.replicate cv zSg).flatMap sgE).toArray 63 (0, 0)) by
            have := made_block (enc := sgE) 64 (by decide) sgE_len HO7.out
            rw [this, made_sg _ rfl cv])
          have HQ7 := Lib.hid ((HBX7.out.block g2 (Array.getElem?_eq_some_iff.1 HQ6.out).1).trans HQ6.out)
          have HD7 := Lib.hid ((HBX7.out.block g6 (Array.getElem?_eq_some_iff.1 HD6.out).1).trans HD6.out)
          have HRG7 := Lib.hid (HRG6.out.below HBX7.out)
          have HB7 := Lib.hid (HB6.out.trans (HBX7.out.mono HB6.out.size))
          clear hg9 HO7 HX7
          go_wp2_with fail
          go_loopw [42, 10] (fun v _ wr => ∃ k : Nat, k ≤ cv ∧ v = .int .i64 (k : Int) ∧ wr.heap[g9]? = some (.cells (((rSigns k s3.2).1 ++ List.replicate (cv - k) zSg).flatMap sgE).toArray 63 (0, 0)) ∧ RdG wr B gr (rSigns k s3.2).2 ∧ wr.heap[g6]? = some (.cells D 25 (0, 0)) ∧ wr.heap[g2]? = some o28 ∧ Below w.heap.size w wr ∧ B ≤ wr.heap.size) (fun v _ _ => cv - (intOf v).toNat)
          case atStart => exact ⟨0, Nat.zero_le _, rfl, HS7.out, HRG7.out, HD7.out, HQ7.out, HB7.out, by have := HBX7.out.size; have := HG9.out; omega⟩
          case round =>
            obtain ⟨k, hk, rfl, hs, hrd, hd6, hq2, hb, hBw⟩ := hrel
            have HS := Lib.hid hs; have HRD := Lib.hid hrd; have HD := Lib.hid hd6; have HQ := Lib.hid hq2; have HB := Lib.hid hb; have HBW := Lib.hid hBw
            clear hs hrd hd6 hq2 hb hBw
            by_cases hlt : k < cv
            · have h9 : decide ((k : Int) < (cv : Int)) = true := by rw [decide_eq_true_eq]; omega
              have hki : (k : Int) < (cv : Int) := by omega
              have HKC := Lib.hid hlt
              obtain ⟨A, hA⟩ : ∃ A, A = (rSigns k s3.2).1 := ⟨_, rfl⟩
              have HA := Lib.hid (show A = (rSigns k s3.2).1 ∧ A.length = k from ⟨hA, by rw [hA]; exact rSigns_len k _⟩)
              have HS1' := Lib.hid (show wr.heap[g9]? = some (.cells ((A ++ zSg :: List.replicate (cv - (k + 1)) zSg).flatMap sgE).toArray 63 (0, 0)) by
                have := HS.out
                rw [← hA, show cv - k = (cv - (k + 1)) + 1 by omega, List.replicate_succ] at this
                exact this)
              obtain ⟨x1, hx1⟩ : ∃ x, x = rDg (rSigns k s3.2).2 := ⟨_, rfl⟩
              obtain ⟨x2, hx2⟩ : ∃ x, x = rDg x1.2 := ⟨_, rfl⟩
              obtain ⟨E1, hE1⟩ : ∃ E, E = dgA x1.1.1 := ⟨_, rfl⟩
              obtain ⟨E2, hE2⟩ : ∃ E, E = dgA x2.1.1 := ⟨_, rfl⟩
              obtain ⟨G, hG⟩ : ∃ G, G = sgA ⟨x1.1, x2.1⟩ := ⟨_, rfl⟩
              have HGS := Lib.hid (show G = sgA ⟨x1.1, x2.1⟩ ∧ G.size = 64 ∧ G.all (·.oneCell') = true by rw [hG]; exact ⟨rfl, sgA_size _, all_oneCell_toArray (sgE_one _)⟩)
              have HXX := Lib.hid (show rSigns (k + 1) s3.2 = (A ++ [⟨x1.1, x2.1⟩], x2.2) by rw [rSigns_snoc, ← hA, ← hx1, ← hx2])
              have HC1 := Lib.hid (show Calls Tryz.prog 104 #[.pointer (some ⟨gr, 0, none⟩)] wr (fun e w' => e = .returned (.agg E1) ∧ RdG w' B gr x1.2 ∧ wr.grownBy w' (some gr)) by rw [hE1, hx1]; exact digest_g wr B gr _ HRD.out HBW.out)
              have HC2 := Lib.hid (fun (x : World) (hx : RdG x B gr x1.2) (hbx : B ≤ x.heap.size) => show Calls Tryz.prog 104 #[.pointer (some ⟨gr, 0, none⟩)] x (fun e w' => e = .returned (.agg E2) ∧ RdG w' B gr x2.2 ∧ x.grownBy w' (some gr)) by rw [hE2, hx2]; exact digest_g x B gr _ hx hbx)
              have HBG := Lib.hid (fun (ρ : Operand → Value) (o : Oper) (ho : o.op = .build 63 #[(0, .tmp 48), (1, .tmp 50)]) (h1 : ρ (.tmp 48) = .agg E1) (h2 : ρ (.tmp 50) = .agg E2) (w : World) => show (execOp ρ o).run Tryz.prog w = .ok (.value (.agg G)) w by rw [hG]; exact exec_build63 ho h1 h2 hE1 hE2 w)
              clear hA hx1 hx2 hE1 hE2 hG hk
              go_upto_region 12 with (first
                | (go_at_call 104; (with_reducible refine HC1.out.mono ?_); rintro e w8 ⟨rfl, hrd, hg⟩; have HRG8 := Lib.hid hrd; have HX8 := Lib.hid hg; have HBW8 := Lib.hid (show B ≤ w8.heap.size from Nat.le_trans HBW.out hg.size); clear hrd hg HC1)
                | (go_at_call 104; (with_reducible refine (HC2.out _ HRG8.out HBW8.out).mono ?_); rintro e w9 ⟨rfl, hrd, hg⟩; have HRG9 := Lib.hid hrd; have HX9 := Lib.hid hg; have HS9 := Lib.hid (blk_keep hg (blk_keep HX8.out HS1'.out (by have := HG9.out; omega)) (by have := HG9.out; omega)); have HTH9 := Lib.hid (show w9.there g9 (k * 64) 64 from flat_there sgE A _ zSg 64 sgE_len HS9.out (k * 64) (by rw [HA.out.2])); clear hrd hg)
                | (refine L_value rfl (HBG.out _ _ (by rfl) (by rfl) (by rfl) _) ?_)
                | (refine wpList_store_mid rfl 63 (.tmp 52) (.tmp 51) (by rfl) g9 (k * 64) G (by first | rfl | (simp only [Nat.zero_add]; rfl)) (by rfl) (by rw [HGS.out.2.1]; exact HTH9.out) (by rw [HGS.out.2.1]; exact info63) HGS.out.2.2 ?_))
              have HSN := Lib.hid (show (w9.setCells g9 (k * 64) G.toList).heap[g9]? = some (.cells (((rSigns (k + 1) s3.2).1 ++ List.replicate (cv - (k + 1)) zSg).flatMap sgE).toArray 63 (0, 0)) by
                have := flat_put sgE A (List.replicate (cv - (k + 1)) zSg) zSg ⟨x1.1, x2.1⟩ 64 sgE_len HS9.out (k * 64) (by rw [HA.out.2])
                rw [HXX.out, HGS.out.1, sgA, List.append_assoc]
                exact this)
              have HGW := Lib.hid (setCells_grown g9 G.toList (k * 64) w9)
              have HBN := Lib.hid (show Below w.heap.size w (w9.setCells g9 (k * 64) G.toList) from
                ((HB.out.grown HX8.out HB.out.size (fun q hq => by rw [← Option.some.inj hq]; exact HBB.out.2.1)).grown HX9.out (by have := HX8.out.size; have := HB.out.size; omega) (fun q hq => by rw [← Option.some.inj hq]; exact HBB.out.2.1)).grown HGW.out (by have := HX9.out.size; have := HX8.out.size; have := HB.out.size; omega) (fun q hq => by rw [← Option.some.inj hq]; exact HG9.out.2.2.2.2.2))
              generalize w9.setCells g9 (k * 64) G.toList = w10 at *
              have HRN := Lib.hid (show RdG w10 B gr (rSigns (k + 1) s3.2).2 by rw [HXX.out]; exact HRG9.out.far HGW.out HG9.out.2.1 (by have := HG9.out; omega))
              have HDN := Lib.hid (blk_keep HGW.out (blk_keep HX9.out (blk_keep HX8.out HD.out (by have := HG6.out; omega)) (by have := HG6.out; omega)) HG9.out.2.2.2.2.1)
              have HQN := Lib.hid (blk_keep HGW.out (blk_keep HX9.out (blk_keep HX8.out HQ.out HBB.out.2.2.1) HBB.out.2.2.1) HG9.out.2.2.2.1)
              have HWN := Lib.hid (show B ≤ w10.heap.size by have := HGW.out.size; have := HX9.out.size; have := HBW8.out; omega)
              go_wp2_with fail
              go_roundw
              case rel => exact ⟨k + 1, by have := HKC.out; omega, by push_cast; rfl, HSN.out, HRN.out, HDN.out, HQN.out, HBN.out, HWN.out⟩
              case measure => have := HKC.out; simp [intOf]; omega
            · obtain rfl : k = cv := by omega
              have h9 : decide ((k : Int) < (k : Int)) = false := by rw [decide_eq_false_iff_not]; omega
              have HSF := Lib.hid (show wr.heap[g9]? = some (.cells ((rSigns k s3.2).1.flatMap sgE).toArray 63 (0, 0)) by
                have := HS.out; rwa [Nat.sub_self, List.replicate_zero, List.append_nil] at this)
              obtain ⟨l, hl⟩ : ∃ l, l = (rSigns k s3.2).1 := ⟨_, rfl⟩
              have HL := Lib.hid (show l = (rSigns k s3.2).1 ∧ l.length = k from ⟨hl, by rw [hl]; exact rSigns_len k _⟩)
              rw [← hl] at HSF HV1
              have HDO := Lib.hid (done_g wr B gr (rSigns k s3.2).2 HRD.out)
              obtain ⟨dn, hdn⟩ : ∃ d, d = rDone (rSigns k s3.2).2 := ⟨_, rfl⟩
              rw [← hdn] at HDO HV1
              have HRI := Lib.hid (fun q => rise_any (wr.drewN q) (some ⟨g9, 0, none⟩) k k l (rs_block sgE 64 (by decide) sgE_len (show (wr.drewN q).heap[g9]? = _ from HSF.out) k HL.out.2 (by have := HC.out; omega)) (by have := HC.out; omega))
              clear hl hdn hlt hk
              by_cases c4 : dn = 0
              · subst c4
                cases hri : riseP l with
                | false =>
                  have HV := Lib.hid (show decN raw = none by rw [HV1.out, if_neg (fun q => by rw [hri] at q; cases q.2)])
                  rw [hri] at HRI
                  clear hri
                  go_upto_region 14 with (first
                    | (go_at_call 107; (with_reducible refine HDO.out.mono ?_); rintro e w8 ⟨rfl, q8, rfl⟩)
                    | (go_at_call 169; (with_reducible refine (HRI.out _).mono ?_); rintro e w9 ⟨rfl, hb⟩; have HX9 := Lib.hid hb; clear hb))
                  have HQ9 := Lib.hid (show w9.heap[g2]? = some o28 from (HX9.out.block g2 (Array.getElem?_eq_some_iff.1 HQ.out).1).trans HQ.out)
                  have HB9 := Lib.hid ((below_drewN HB.out q8).trans (HX9.out.mono HB.out.size))
                  go_wp2_with (first
                    | (refine L_value rfl (HBZ.out _ _ (by rfl) _) ?_)
                    | (refine wpList_store_mid rfl 28 (.tmp 2) (.tmp 62) (by rfl) g2 0 Z (by rfl) (by rfl) (by rw [HZS.out.1]; exact HTH.out _ HQ9.out) (by rw [HZS.out.1]; exact info28) HZS.out.2 ?_))
                  exact bodyPost_ret (v := .tuple #[.agg Z, .int .i64 8]) (results_row_tmp (p := 2) (u := 3) (ty := 28) rfl _ _ g2 28 Z (0, 0) _ rfl (HFIN.out _ Z HZS.out.1 HQ9.out HB9.out).1 Tryz.underlying28 rfl (by rw [HZS.out.1]; exact info28)) rfl ⟨⟨none, 0, 0⟩, by rw [HV.out, HZ.out]; rfl, by rw [HV.out]; exact World.ownsRow_nil _ _ _ _, (HFIN.out _ Z HZS.out.1 HQ9.out HB9.out).2⟩
                | true =>
                  have HV := Lib.hid (show decN raw = some ⟨hd, l⟩ by rw [HV1.out, if_pos ⟨rfl, hri⟩])
                  rw [hri] at HRI
                  clear hri
                  go_upto_region 15 with (first
                    | (go_at_call 107; (with_reducible refine HDO.out.mono ?_); rintro e w8 ⟨rfl, q8, rfl⟩)
                    | (go_at_call 169; (with_reducible refine (HRI.out _).mono ?_); rintro e w9 ⟨rfl, hb⟩; have HX9 := Lib.hid hb; clear hb))
                  have HQ9 := Lib.hid (show w9.heap[g2]? = some o28 from (HX9.out.block g2 (Array.getElem?_eq_some_iff.1 HQ.out).1).trans HQ.out)
                  have HD9 := Lib.hid (show w9.heap[g6]? = some (.cells D 25 (0, 0)) from (HX9.out.block g6 (Array.getElem?_eq_some_iff.1 HD.out).1).trans HD.out)
                  have HS9 := Lib.hid (show w9.heap[g9]? = some (.cells (l.flatMap sgE).toArray 63 (0, 0)) from (HX9.out.block g9 (Array.getElem?_eq_some_iff.1 HSF.out).1).trans HSF.out)
                  have HB9 := Lib.hid ((below_drewN HB.out q8).trans (HX9.out.mono HB.out.size))
                  obtain ⟨G, hG⟩ : ∃ G, G = ntA hd (S3.v ⟨some ⟨g9, 0, none⟩, k, k⟩) := ⟨_, rfl⟩
                  have HGS := Lib.hid (show G = ntA hd (S3.v ⟨some ⟨g9, 0, none⟩, k, k⟩) ∧ G.size = 99 ∧ G.all (·.oneCell') = true by rw [hG]; exact ⟨rfl, ntA_size _ _, ntA_one _ _ rfl⟩)
                  have HBG := Lib.hid (fun (ρ : Operand → Value) (o : Oper) (ho : o.op = .build 28 #[(0, .tmp 63), (1, .tmp 64)]) (h1 : ρ (.tmp 63) = .agg D) (h2 : ρ (.tmp 64) = .slice (some ⟨g9, 0, none⟩) k k) (w : World) => show (execOp ρ o).run Tryz.prog w = .ok (.value (.agg G)) w by rw [hG]; exact exec_build28p (s := ⟨some ⟨g9, 0, none⟩, k, k⟩) ho h1 h2 HDD.out w)
                  clear hG
                  go_wp2_with (first
                    | (refine wpList_load_row rfl 25 (.tmp 6) (by rfl) g6 (by rfl) 25 D (0, 0) _ HD9.out Tryz.underlying25 rfl (by rw [HDS.out.1]; exact info25) ?_)
                    | (refine L_value rfl (HBG.out _ _ (by rfl) (by rfl) (by rfl) _) ?_)
                    | (refine wpList_store_mid rfl 28 (.tmp 2) (.tmp 65) (by rfl) g2 0 G (by rfl) (by rfl) (by rw [HGS.out.2.1]; exact HTH.out _ HQ9.out) (by rw [HGS.out.2.1]; exact info28) HGS.out.2.2 ?_))
                  refine bodyPost_ret (v := .tuple #[.agg G, .int .i64 0]) (results_row_tmp (p := 2) (u := 3) (ty := 28) rfl _ _ g2 28 G (0, 0) _ rfl (HFIN.out _ G HGS.out.2.1 HQ9.out HB9.out).1 Tryz.underlying28 rfl (by rw [HGS.out.2.1]; exact info28)) rfl ⟨⟨some ⟨g9, 0, none⟩, k, k⟩, by rw [HV.out, HGS.out.1]; rfl, ?_, (HFIN.out _ G HGS.out.2.1 HQ9.out HB9.out).2⟩
                  rw [HV.out]
                  exact own_block sgE 64 (by decide) sgE_len (blk_keep (setCells_grown _ _ _ _) HS9.out (by have := HG9.out; omega)) HL.out.2 HG9.out.2.2.2.2.2 (by have := HC.out; simp [maxLen]; omega)
              · have HV := Lib.hid (show decN raw = none by rw [HV1.out, if_neg (fun q => c4 q.1)])
                have d4 : ((dn : Int) == 0) = false := by simp; omega
                have d5 : ((dn : Int) != 0) = true := by simp; omega
                go_upto_region 14 with (go_at_call 107; (with_reducible refine HDO.out.mono ?_); rintro e w8 ⟨rfl, q8, rfl⟩)
                have HQ9 := Lib.hid (show (wr.drewN q8).heap[g2]? = some o28 from HQ.out)
                have HB9 := Lib.hid (below_drewN HB.out q8)
                go_wp2_with (first
                  | (refine L_value rfl (HBZ.out _ _ (by rfl) _) ?_)
                  | (refine wpList_store_mid rfl 28 (.tmp 2) (.tmp 62) (by rfl) g2 0 Z (by rfl) (by rfl) (by rw [HZS.out.1]; exact HTH.out _ HQ9.out) (by rw [HZS.out.1]; exact info28) HZS.out.2 ?_))
                exact bodyPost_ret (v := .tuple #[.agg Z, .int .i64 8]) (results_row_tmp (p := 2) (u := 3) (ty := 28) rfl _ _ g2 28 Z (0, 0) _ rfl (HFIN.out _ Z HZS.out.1 HQ9.out HB9.out).1 Tryz.underlying28 rfl (by rw [HZS.out.1]; exact info28)) rfl ⟨⟨none, 0, 0⟩, by rw [HV.out, HZ.out]; rfl, by rw [HV.out]; exact World.ownsRow_nil _ _ _ _, (HFIN.out _ Z HZS.out.1 HQ9.out HB9.out).2⟩
    · have HV := Lib.hid (show decN raw = none by rw [HVS.out, if_pos (Or.inl c1)])
      have d1 : ((kv : Int) == 33) = false := by simp; omega
      go_wp2_with (first
        | (refine L_value rfl (HBZ.out _ _ (by rfl) _) ?_)
        | (refine wpList_store_mid rfl 28 (.tmp 2) (.tmp 37) (by rfl) g2 0 Z (by rfl) (by rfl) (by rw [HZS.out.1]; exact HTH.out _ HQ6.out) (by rw [HZS.out.1]; exact info28) HZS.out.2 ?_))
      exact bodyPost_ret (v := .tuple #[.agg Z, .int .i64 8]) (results_row_tmp (p := 2) (u := 3) (ty := 28) rfl _ _ g2 28 Z (0, 0) _ rfl (HFIN.out _ Z HZS.out.1 HQ6.out HB6.out).1 Tryz.underlying28 rfl (by rw [HZS.out.1]; exact info28)) rfl ⟨⟨none, 0, 0⟩, by rw [HV.out, HZ.out]; rfl, by rw [HV.out]; exact World.ownsRow_nil _ _ _ _, (HFIN.out _ Z HZS.out.1 HQ6.out HB6.out).2⟩
end Go.Proofs.YtoboabkaojfbaaaGreatDoor
