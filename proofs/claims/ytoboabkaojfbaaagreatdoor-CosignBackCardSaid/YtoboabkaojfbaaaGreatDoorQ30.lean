import Derived.Test.YtoboabkaojfbaaaGreatDoorQ29
import Derived.Test.YtoboabkaojfbaaaGreatDoorQ26
namespace Go.Proofs.YtoboabkaojfbaaaGreatDoor
open Go Go.RowKit
set_option maxRecDepth 100000
set_option maxHeartbeats 8000000
set_option linter.unusedVariables false
set_option linter.unusedSimpArgs false
open Go.Maps Go.WideMaps Go.ChangeMaps
theorem askedZ (w : World) (wd : Int) (hwd : 1 ≤ wd ∧ wd ≤ 32) (l : List (Nat × Nat)) (av : Option Addr) (n c B : Nat) (hrs : RS 2 spE w av n c l) (hl : ∀ p ∈ l, p.1 < p.2 ∧ Al p.1 (p.2 - p.1) ∧ p.2 ≤ B) (hB : B ≤ 1099511627776) (hn : n ≤ 1000000) (h4 : 4 ≤ w.heap.size) (ht : RoundTab w) (htz : TabAt 3 Lib.deBruijn64tab w)
    (hat : ∀ (wx : World) (q i : Nat), Below w.heap.size w wx → Calls Tryz.prog 174 #[.agg #[.int .i64 (q : Int), .int .i64 (i : Int)]] wx fun e w' => e = .returned (.agg (dgA (zSp (q, i)).1)) ∧ Below wx.heap.size wx w') :
    Calls Tryz.prog 213 #[.int .i64 wd, .slice av n c, .func (.func 174) #[] #[]] w fun e w' => ∃ v, e = .returned v ∧ w'.ownsRow w.heap.size 23 32 v n ((l.map (zPart wd)).flatMap dgE) ∧ Below w.heap.size w w' := by
  obtain ⟨b3, hb3⟩ : ∃ b3, b3 = w.heap.size := ⟨_, rfl⟩
  obtain ⟨w0, hw0⟩ : ∃ w0, w0 = w.alloc (.cells #[.int .i64 wd] 3) := ⟨_, rfl⟩
  have hb0 : Below w.heap.size w w0 := by rw [hw0]; exact (Below.refl _ _).alloc (Nat.le_refl _) _
  have hz0 : w0.heap.size = b3 + 1 := by rw [hw0, World.size_alloc]; omega
  have hg0 : w0.heap[b3]? = some (.cells #[.int .i64 wd] 3 (0, 0)) := by rw [hw0, hb3]; exact heap_alloc_new _ _
  obtain ⟨b5, hb5⟩ : ∃ b5, b5 = b3 + 1 := ⟨_, rfl⟩
  obtain ⟨w1, hw1⟩ : ∃ w1, w1 = w0.alloc (.cells #[.func (.func 174) #[] #[]] 89) := ⟨_, rfl⟩
  have hb1 : Below w.heap.size w w1 := by rw [hw1]; exact hb0.alloc hb0.size _
  have hz1 : w1.heap.size = b5 + 1 := by rw [hw1, World.size_alloc]; omega
  have hg5 : w1.heap[b5]? = some (.cells #[.func (.func 174) #[] #[]] 89 (0, 0)) := by rw [hw1, hb5, ← hz0]; exact heap_alloc_new _ _
  have hg3 : w1.heap[b3]? = some (.cells #[.int .i64 wd] 3 (0, 0)) := by rw [hw1]; exact (alOld w0 _ b3 (by omega)).trans hg0
  have HDG := Lib.hid (fun (wx : World) (hb : Below w1.heap.size w1 wx) (p : Nat × Nat) (hp : p ∈ l) => digofZ wx b5 b3 wd hwd ((hb.block b5 (by omega)).trans hg5) ((hb.block b3 (by omega)).trans hg3) p.1 p.2 (hl p hp).1 (hl p hp).2.1 (by have := (hl p hp).2.2; omega) (by have := hb.size; omega)
    (rt_below ht (hb1.trans (hb.mono hb1.size)) (by omega)) (tab_below htz (hb1.trans (hb.mono hb1.size)) (by omega)) (fun wy q i hby => hat wy q i ((hb1.trans (hb.mono hb1.size)).trans (hby.mono (Nat.le_trans hb1.size hb.size)))))
  have HB1 := Lib.hid hb1; have HRS := Lib.hid (hrs.below hb1); have HN := Lib.hid hn; have HLN := Lib.hid hrs.1
  have hw0' : w.alloc (.cells #[.int .i64 wd] 3) = w0 := hw0.symm
  have hw1' : w0.alloc (.cells #[.func (.func 174) #[] #[]] 89) = w1 := hw1.symm
  have hb3' : w.heap.size = b3 := hb3.symm
  have hz0' : w0.heap.size = b5 := by omega
  clear hb3 hw0 hb0 hz0 hg0 hb5 hw1 hb1 hz1 hg5 hg3 hrs hl hB hn h4 ht htz hat hwd
  go_enter Tryz.func213, Tryz.ntmps213
  go_wp2_with fail
  have HW := Lib.hid hb3'
  clear hw0' hw1' hb3' hz0'
  go_loopw [8, 14] (fun v u wr => ∃ k : Nat, k ≤ n ∧ u = .int .i64 (k : Int) ∧ wr.ownsRow w1.heap.size 23 32 v k (((l.take k).map (zPart wd)).flatMap dgE) ∧ Below w1.heap.size w1 wr) (fun _ u _ => n - (intOf u).toNat)
  case atStart => exact ⟨0, Nat.zero_le _, rfl, World.ownsRow_nil _ _ _ _, Below.refl _ _⟩
  case round =>
    obtain ⟨k, hk, rfl, ho, hb⟩ := hrel
    have HO := Lib.hid ho; have HB := Lib.hid hb; have HK := Lib.hid hk
    by_cases hlt : k < n
    · obtain ⟨p, hp⟩ : ∃ p, l[k]? = some p := ⟨_, List.getElem?_eq_getElem (by have := HLN.out; omega)⟩
      obtain ⟨a, b⟩ := p
      have hmem : (a, b) ∈ l := List.mem_of_getElem? hp
      obtain ⟨gs, off, rfl, hcs⟩ := HRS.out.2.2.2 k (a, b) hp
      obtain ⟨E, hE⟩ : ∃ E, E = dgA (zPart wd (a, b)).1 := ⟨_, rfl⟩
      have hES : E.size = 32 := by rw [hE, dgA_size, (zPart wd (a, b)).2]
      have HE1 := Lib.hid (show ∀ u ∈ E.toList, u.oneCell' = true from fun u hu => by
        rw [hE] at hu
        exact Array.all_eq_true'.1 (dgA_all _) u (Array.mem_toList_iff.1 hu))
      obtain ⟨D, hD⟩ : ∃ D : Array Value, D = #[.int .i64 (a : Int), .int .i64 (b : Int)] := ⟨_, rfl⟩
      have hDS : D.size = 2 := by rw [hD]; rfl
      have HD1 := Lib.hid (show D.all (·.oneCell') = true by rw [hD]; exact all_oneCell_toArray (cs := [.int .i64 (a : Int), .int .i64 (b : Int)]) (by intro v hv; simp only [List.mem_cons, List.not_mem_nil, or_false] at hv; rcases hv with rfl | rfl <;> rfl))
      have hdg := fun (wx : World) (hb : Below w1.heap.size w1 wx) => HDG.out wx hb (a, b) hmem
      rw [← hD, ← hE] at hdg
      have HATK := Lib.hid hdg
      have hr : wr.rangeAt gs (off + k * 2) #[.int .i64 (a : Int), .int .i64 (b : Int)].toList := fun j v hv => (hb.cell (World.block_lt_of_cell? w1 _ (hcs j v hv))).trans (hcs j v hv)
      rw [← hD] at hr
      obtain ⟨r0, hr0⟩ : ∃ r0, r0 = wr.heap.size := ⟨_, rfl⟩
      obtain ⟨w4, hw4⟩ : ∃ w4, w4 = wr.alloc (.cells #[.int .i64 0, .int .i64 0] 302) := ⟨_, rfl⟩
      have hO4 : w4.heap[r0]? = some (.cells #[.int .i64 0, .int .i64 0] 302 (0, 0)) := by rw [hw4, hr0]; exact heap_alloc_new _ _
      have hth : w4.there r0 0 2 := there_block hO4
      have h1 := setCells_all hO4 D.toList (by rw [Array.length_toList, hDS]; rfl)
      have hb4 : Below wr.heap.size wr w4 := by rw [hw4]; exact (Below.refl _ _).alloc (Nat.le_refl _) _
      have hb5 : Below wr.heap.size wr (w4.setCells r0 0 D.toList) := hb4.grown (setCells_grown _ _ _ _) hb4.size (fun k hk => by rw [← Option.some.inj hk]; omega)
      have HB5 := Lib.hid hb5
      have HG5 := Lib.hid (show (w4.setCells r0 0 D.toList).heap[r0]? = some (.cells D 302 (0, 0)) by simpa using h1)
      have HDS := Lib.hid hDS
      have HTH := Lib.hid hth
      have HR := Lib.hid hr
      have HES := Lib.hid hES
      have HS := Lib.hid (show (((l.take (k + 1)).map (zPart wd)).flatMap dgE) = ((l.take k).map (zPart wd)).flatMap dgE ++ E.toList by
        rw [List.take_add_one, hp, hE]; simp [dgE, dgA])
      have hw4' : wr.alloc (.cells #[.int .i64 0, .int .i64 0] 302) = w4 := hw4.symm
      have hr0' : wr.heap.size = r0 := hr0.symm
      have h9 : decide ((k : Int) < (n : Int)) = true := by simp; omega
      have h8 : decide (k < n) = true := by simp; omega
      have HLT := Lib.hid hlt
      have hk6 : k ≤ 1000000 := by have := HN.out; omega
      have HK6 := Lib.hid hk6
      clear hk ho hb hlt hp hmem hE hES hr hr0 hw4 hO4 hth h1 hb4 hb5 hD hDS hdg hcs
      go_wp2_with (first
        | (refine L_load_arr rfl 302 (.tmp 16) (by rfl) gs (off + k * 2) (by rfl) D _ HR.out Tryz.underlying302 rfl (by rw [HDS.out]; exact info300) ?_)
        | (refine wpList_store_mid rfl 302 (.tmp 10) (.tmp 17) (by rfl) r0 0 D (by rfl) (by rfl) (by rw [HDS.out]; exact HTH.out) (by rw [HDS.out]; exact info300) HD1.out ?_)
        | (refine wpList_load_row rfl 302 (.tmp 10) (by rfl) r0 (by rfl) 302 D (0, 0) _ HG5.out Tryz.underlying302 rfl (by rw [HDS.out]; exact info300) ?_)
        | (go_at_call 233; refine (HATK.out _ (HB.out.trans (HB5.out.mono HB.out.size))).mono ?_; rintro e w6 ⟨rfl, hb6⟩; have HB6 := Lib.hid (HB5.out.trans (hb6.mono HB5.out.size)); clear hb6)
        | (refine L_build1 rfl (.tmp 21) (by rfl) E (by rfl) HES.out ?_; have ho6 := (own_below HO.out HB6.out).alloc (.cells E 23); have hc6 : ∀ j u, E.toList[j]? = some u → (w6.alloc (.cells E 23)).cell? ((⟨w6.heap.size, 0, none⟩ : Addr).add j) = some u := fun j u hu => cellA E 23 w6 j u hu; have hb6 := HB6.out.alloc HB6.out.size (.cells E 23); have hs6 : w1.heap.size ≤ (w6.alloc (.cells E 23)).heap.size := Nat.le_trans HB.out.size hb6.size; refine L_appendN rfl (.tmp 18) (.tmp 22) 29 (by rfl) sl23 w1.heap.size _ k _ (by rfl) ho6 ⟨w6.heap.size, 0, none⟩ 1 1 E.toList (by rfl) (by rw [Array.length_toList, HES.out]) hc6 HE1.out (by have := HK6.out; omega) (by have := HK6.out; simp [maxLen]; omega) hs6 (fun a8 c8 w8 ho8 hg8 hat8 => ?_); have HO8 := Lib.hid ho8; have HB8 := Lib.hid ((HB.out.trans (hb6.mono HB.out.size)).grown hg8 (Nat.le_trans HB.out.size hb6.size) (fun k hk => (ho6.lt k hk).1)); clear ho8 hg8 hat8 ho6 hc6 hb6 hs6))
      refine ⟨⟨k + 1, HLT.out, by push_cast; rfl, by rw [HS.out]; exact HO8.out, HB8.out⟩, ?_⟩
      have := HLT.out
      simp [intOf]; omega
    · obtain rfl : k = n := by omega
      have htk : l.take k = l := List.take_of_length_le (by rw [HLN.out]; exact Nat.le_refl _)
      rw [htk] at ho
      have HOZ := Lib.hid ho
      have h9 : decide ((k : Int) < (k : Int)) = false := by simp
      have h8 : decide (k < k) = false := by simp
      clear ho hb hlt hk htk
      go_wp2_with fail
      go_ret
      refine ⟨_, rfl, ⟨HOZ.out.1, HOZ.out.2.imp id fun ⟨g, cap, cur, hv, hg, r⟩ => ⟨g, cap, cur, hv, Nat.le_trans HB1.out.size hg, r⟩⟩, HB1.out.trans (HB.out.mono HB1.out.size)⟩
theorem tinclZ (w : World) (wd : Int) (hwd : 1 ≤ wd ∧ wd ≤ 32) (size i : Nat) (hi : i < size) (hs : size ≤ 1099511627776) (h4 : 4 ≤ w.heap.size) (ht : RoundTab w) (htz : TabAt 3 Lib.deBruijn64tab w)
    (hat : ∀ (wx : World) (q i : Nat), Below w.heap.size w wx → Calls Tryz.prog 174 #[.agg #[.int .i64 (q : Int), .int .i64 (i : Int)]] wx fun e w' => e = .returned (.agg (dgA (zSp (q, i)).1)) ∧ Below wx.heap.size wx w') :
    Calls Tryz.prog 173 #[.int .i64 wd, .int .i64 (size : Int), .int .i64 (i : Int), .func (.func 174) #[] #[]] w fun e w' => ∃ v, e = .returned (.tuple #[v, .int .i64 0]) ∧ w'.ownsRow w.heap.size 23 32 v (wayP size 0 size i).reverse.length (((wayP size 0 size i).reverse.map (zPart wd)).flatMap dgE) ∧ Below w.heap.size w w' := by
  have hnf : ∀ wx, (binOp .eql 89 (.func (.func 174) #[] #[]) .nilFunc).run Tryz.prog wx = .ok (.bool false) wx := fun wx => by kernel_rfl
  have HSZ := Lib.hid (fun wx => inside_any wx size i hi (by omega))
  have HPT := Lib.hid (fun wx => way_any wx size i hi (by omega))
  have hln := way_len40 (i := i) size 0 size (by omega)
  have hgood := way_good i size 0 size (by omega) (Al.zero _) (by omega)
  have HAS := Lib.hid (fun (wx : World) (hb : Below w.heap.size w wx) (v : Value) (hp : PO wx w.heap.size v (wayP size 0 size i).reverse) => show Calls Tryz.prog 213 #[.int .i64 wd, v, .func (.func 174) #[] #[]] wx (fun e w' => ∃ v', e = .returned v' ∧ w'.ownsRow wx.heap.size 23 32 v' (wayP size 0 size i).reverse.length (((wayP size 0 size i).reverse.map (zPart wd)).flatMap dgE) ∧ Below wx.heap.size wx w') from by
    obtain ⟨a, c, rfl⟩ := rowShape hp
    exact askedZ wx wd hwd (wayP size 0 size i).reverse a (wayP size 0 size i).reverse.length c size (RS.of_owns hp (by decide) (fun _ => rfl) (by rw [List.length_reverse]; omega)) (fun p hp => hgood p (List.mem_reverse.1 hp)) (by omega) (by rw [List.length_reverse]; omega) (by have := hb.size; omega) (rt_below ht hb (by omega)) (tab_below htz hb (by omega)) (fun wy q i hby => hat wy q i (hb.trans (hby.mono hb.size))))
  clear hi hs h4 ht htz hat hwd hln hgood
  go_enter Tryz.func173, Tryz.ntmps173
  go_wp2_with (first
    | (go_at_call 208; refine (HSZ.out _).mono ?_; rintro e wx ⟨rfl, hw⟩; have hw := hw.symm; subst hw)
    | (go_at_call 209; refine (HPT.out _).mono ?_; rintro e w1 ⟨v, rfl, hp, hb⟩; have HB1 := Lib.hid hb; have HP := Lib.hid hp; clear hb hp)
    | (go_at_call 213; refine (HAS.out _ HB1.out _ HP.out).mono ?_; rintro e w2 ⟨v', rfl, ho, hb⟩))
  go_ret2
  exact ⟨_, rfl, ⟨ho.1, ho.2.imp id fun ⟨g, cap, cur, hv, hg, r⟩ => ⟨g, cap, cur, hv, Nat.le_trans HB1.out.size hg, r⟩⟩, HB1.out.trans (hb.mono HB1.out.size)⟩
end Go.Proofs.YtoboabkaojfbaaaGreatDoor
namespace Go.Proofs.YtoboabkaojfbaaaGreatDoor
open Go Go.RowKit
set_option maxRecDepth 100000
set_option maxHeartbeats 4000000
set_option linter.unusedVariables false
set_option linter.unusedSimpArgs false
/-! cosign.steps: how many digests an inclusion has, of any size and number. -/
theorem at174 (w : World) (x y : Int) : Calls Tryz.prog 174 #[.agg #[.int .i64 x, .int .i64 y]] w fun e w' => e = .returned (.agg (dgA zDg.1)) ∧ Below w.heap.size w w' := by
  go_enter Tryz.func174, Tryz.ntmps174
  go_upto_region 1 with (fail)
  change Code.wp Tryz.prog _ _ _ ((w.alloc (.cells #[.int .i64 x, .int .i64 y] 88)).alloc (.cells (dgA zDg.1) 23))
  obtain ⟨g2, hg2⟩ : ∃ g, g = w.heap.size + 1 := ⟨_, rfl⟩
  have HQ2 := Lib.hid (show ((w.alloc (.cells #[.int .i64 x, .int .i64 y] 88)).alloc (.cells (dgA zDg.1) 23)).heap[g2]? = some (.cells (dgA zDg.1) 23 (0, 0)) by rw [hg2]; exact heap_alloc2_new w _ _)
  have HB1 := Lib.hid (show Below w.heap.size w ((w.alloc (.cells #[.int .i64 x, .int .i64 y] 88)).alloc (.cells (dgA zDg.1) 23)) from ((Below.refl _ _).alloc (Nat.le_refl _) _).alloc (by simp) _)
  rw [← hg2]
  have HG := Lib.hid hg2
  clear hg2
  generalize (w.alloc (.cells #[.int .i64 x, .int .i64 y] 88)).alloc (.cells (dgA zDg.1) 23) = w1 at *
  obtain ⟨Z, hZ⟩ : ∃ Z, Z = dgA zDg.1 := ⟨_, rfl⟩
  have HZS := Lib.hid (show Z.size = 32 ∧ Z.all (·.oneCell') = true by rw [hZ]; exact ⟨by rw [dgA_size, zDg.2], dgA_all _⟩)
  have HBD := Lib.hid (fun (ρ : Operand → Value) (o : Oper) (ho : o.op = .build 23 #[]) (w : World) => show (execOp ρ o).run Tryz.prog w = .ok (.value (.agg Z)) w by
    rw [hZ]
    have hb : (Instr.build 23 #[]).run Tryz.prog w = .ok (.agg (dgA zDg.1)) w := run_build w 23 #[] _ (by kernel_rfl)
    unfold execOp
    simp only [ho, List.map_toArray, List.map_nil, Sem.run_bind, hb, Result.andThen_ok, Sem.run_pure])
  have HTH := Lib.hid (show w1.there g2 0 32 by have := there_block HQ2.out; rwa [dgA_size, zDg.2] at this)
  have HGF := Lib.hid (show (w1.setCells g2 0 Z.toList).heap[g2]? = some (.cells Z 23 (0, 0)) by
    have := setCells_all HQ2.out Z.toList (by rw [Array.length_toList, HZS.out.1, dgA_size, zDg.2]); simpa using this)
  have HZ := Lib.hid hZ
  clear hZ
  go_wp2_with (first
    | (refine L_value rfl (HBD.out _ _ (by rfl) _) ?_)
    | (refine wpList_store_mid rfl 23 (.tmp 2) (.tmp 3) (by rfl) g2 0 Z (by rfl) (by rfl) (by rw [HZS.out.1]; exact HTH.out) (by rw [HZS.out.1]; exact info38) HZS.out.2 ?_))
  exact bodyPost_ret (v := .agg Z) (results_cell_row (p := 2) (ty := 23) rfl _ _ g2 23 Z (0, 0) _ rfl HGF.out Tryz.underlying23 rfl (by rw [HZS.out.1]; exact info38)) rfl ⟨by rw [HZ.out], HB1.out.grown (setCells_grown _ _ _ _) HB1.out.size (fun q hq => by rw [← Option.some.inj hq, HG.out]; omega)⟩
/-- tree.inside, of any size and number. -/
def insB (size i : Int) : Bool := decide (1 ≤ size) && (decide (size ≤ 1099511627776) && (decide (0 ≤ i) && decide (i < size)))
theorem ins_any (w : World) (size i : Int) : Calls Tryz.prog 208 #[.int .i64 size, .int .i64 i] w fun e w' => e = .returned (.bool (insB size i)) ∧ w = w' := by
  have HV := Lib.hid (show insB size i = (decide (1 ≤ size) && (decide (size ≤ 1099511627776) && (decide (0 ≤ i) && decide (i < size)))) from rfl)
  cases h1 : decide (1 ≤ size) with
  | false =>
    go_enter Tryz.func208, Tryz.ntmps208
    go_wp2_with fail
    go_ret
    exact ⟨by rw [HV.out, h1]; rfl, rfl⟩
  | true =>
    cases h2 : decide (size ≤ 1099511627776) with
    | false =>
      go_enter Tryz.func208, Tryz.ntmps208
      go_wp2_with fail
      go_ret
      exact ⟨by rw [HV.out, h1, h2]; rfl, rfl⟩
    | true =>
      cases h3 : decide (0 ≤ i) with
      | false =>
        go_enter Tryz.func208, Tryz.ntmps208
        go_wp2_with fail
        go_ret
        exact ⟨by rw [HV.out, h1, h2, h3]; rfl, rfl⟩
      | true =>
        cases h4 : decide (i < size) with
        | false =>
          go_enter Tryz.func208, Tryz.ntmps208
          go_wp2_with fail
          go_ret
          exact ⟨by rw [HV.out, h1, h2, h3, h4]; rfl, rfl⟩
        | true =>
          go_enter Tryz.func208, Tryz.ntmps208
          go_wp2_with fail
          go_ret
          exact ⟨by rw [HV.out, h1, h2, h3, h4]; rfl, rfl⟩
theorem stepsP_in {size number : Int} (h : insB size number = true) : ∃ s i : Nat, size = (s : Int) ∧ number = (i : Int) ∧ i < s ∧ s ≤ 1099511627776 ∧ stepsP size number = (wayP s 0 s i).length := by
  unfold insB at h
  simp only [Bool.and_eq_true, decide_eq_true_eq] at h
  refine ⟨size.toNat, number.toNat, by omega, by omega, by omega, by omega, ?_⟩
  unfold stepsP
  rw [if_pos (by omega)]
theorem stepsP_out {size number : Int} (h : insB size number = false) : stepsP size number = 0 := by
  unfold stepsP
  rw [if_neg]
  intro q
  have : insB size number = true := by
    unfold insB
    simp only [Bool.and_eq_true, decide_eq_true_eq]
    omega
  rw [this] at h; cases h
theorem steps_any (w : World) (size number : Int) (h4 : 4 ≤ w.heap.size) (ht : RoundTab w) (htz : TabAt 3 Lib.deBruijn64tab w) :
    Calls Tryz.prog 106 #[.int .i64 size, .int .i64 number] w fun e w' => e = .returned (.int .i64 ((stepsP size number : Nat) : Int)) ∧ Below w.heap.size w w' := by
  have HIN := Lib.hid (ins_any w size number)
  cases h : insB size number with
  | false =>
    have HV := Lib.hid (stepsP_out h)
    rw [h] at HIN
    have hnf : ∀ wx, (binOp .eql 89 (.func (.func 174) #[] #[]) .nilFunc).run Tryz.prog wx = .ok (.bool false) wx := fun wx => by kernel_rfl
    clear h
    have HTI := Lib.hid (show Calls Tryz.prog 173 #[.int .i64 32, .int .i64 size, .int .i64 number, .func (.func 174) #[] #[]] w (fun e w' => e = .returned (.tuple #[.slice none 0 0, .int .i64 60]) ∧ w = w') by
      go_enter Tryz.func173, Tryz.ntmps173
      go_wp2_with (go_at_call 208; (with_reducible refine HIN.out.mono ?_); rintro e wx ⟨rfl, rfl⟩)
      go_ret2
      exact ⟨rfl, rfl⟩)
    go_enter Tryz.func106, Tryz.ntmps106
    go_wp2_with (go_at_call 173; (with_reducible refine HTI.out.mono ?_); rintro e wx ⟨rfl, rfl⟩)
    go_ret
    exact ⟨by rw [HV.out]; rfl, Below.refl _ _⟩
  | true =>
    obtain ⟨s, i, rfl, rfl, hi, hs, hv⟩ := stepsP_in h
    have HV := Lib.hid hv
    have HW := Lib.hid (show (wayP s 0 s i).length ≤ 40 from way_len40 s 0 s (by omega))
    have HTI := Lib.hid (tinclZ w 32 (by decide) s i hi hs h4 ht htz (fun wx q i hb => at174 wx q i))
    clear h hi hs hv h4 ht htz
    go_enter Tryz.func106, Tryz.ntmps106
    go_wp2_with (go_at_call 173; (with_reducible refine HTI.out.mono ?_); rintro e w2 ⟨v, rfl, ho, hb⟩; obtain ⟨a, c, rfl⟩ := rowShape ho; have HB := Lib.hid hb; clear ho hb)
    go_ret
    exact ⟨by rw [HV.out]; simp, HB.out⟩
end Go.Proofs.YtoboabkaojfbaaaGreatDoor
