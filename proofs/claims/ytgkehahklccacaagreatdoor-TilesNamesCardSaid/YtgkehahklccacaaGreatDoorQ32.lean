import Derived.Test.YtgkehahklccacaaGreatDoorQ28
import Derived.Test.YtgkehahklccacaaGreatDoorQ10
import Derived.Shelf.Spec.TrailingZeros
import Derived.Ground.Names7Prog
import Derived.Test.YtgkehahklccacaaGreatDoorProg
namespace Go.Proofs.YtgkehahklccacaaGreatDoor
open Go Go.RowKit
set_option maxRecDepth 100000
set_option maxHeartbeats 1000000
set_option linter.unusedVariables false
set_option linter.unusedSimpArgs false

open Go.Maps Go.WideMaps Go.ChangeMaps
/-- Digests folded from the right. -/
def foldP (wd : Int) : List Dg → Dg
  | [] => nothingD wd
  | [d] => d
  | d :: e :: r => nodeD wd d (foldP wd (e :: r))
theorem foldP_step (wd : Int) (ds : List Dg) (q : Nat) (x : Dg) (hx : ds[q]? = some x) (hq : q + 1 < ds.length) : foldP wd (ds.drop q) = nodeD wd x (foldP wd (ds.drop (q + 1))) := by
  obtain ⟨hl, he⟩ := List.getElem?_eq_some_iff.1 hx
  rw [List.drop_eq_getElem_cons hl, he, List.drop_eq_getElem_cons hq]
  rfl
theorem foldP_last (wd : Int) (ds : List Dg) (q : Nat) (x : Dg) (hx : ds[q]? = some x) (hq : q + 1 = ds.length) : foldP wd (ds.drop q) = x := by
  obtain ⟨hl, he⟩ := List.getElem?_eq_some_iff.1 hx
  rw [List.drop_eq_getElem_cons hl, he, List.drop_eq_nil_of_le (by omega)]
  rfl
/-- A digest's array out of a row. -/
theorem load_dig {w : World} {b o : Nat} {D : Array Value} (hc : w.rangeAt b o D.toList) (hs : D.size = 32) : (Instr.loadAt 38 (.pointer (some ⟨b, o, none⟩))).run Tryz.prog w = .ok (.agg D) w := by
  have := run_loadAt_mid (P := Tryz.prog) w b o 38 D.toList _ hc Tryz.underlying38 rfl (by rw [Array.length_toList, hs]; exact info38)
  rwa [Array.toArray_toList] at this
set_option maxHeartbeats 8000000
theorem fold_any (w : World) (wd : Int) (h0 : -9223372036854775808 ≤ wd) (h1 : wd ≤ 9223372036854775807) (a : Option Addr) (n c : Nat) (ds : List Dg) (hds : DS w a n c ds) (hn : n ≤ 1000000) (h1n : 1 ≤ n) (ht : RoundTab w) (h3 : 3 < w.heap.size) :
    Calls Tryz.prog 63 #[.int .i64 wd, .slice a n c] w fun e w' => e = .returned (.agg (dgA (foldP wd ds).1)) ∧ Below w.heap.size w w' := by
  have hln := hds.1
  have hcap := hds.2.1
  obtain ⟨x, hx⟩ : ∃ x, ds[n - 1]? = some x := ⟨_, List.getElem?_eq_getElem (by omega)⟩
  obtain ⟨b', off', rfl, hbl, hr⟩ := hds.at hx
  obtain ⟨X, hX⟩ : ∃ X, X = dgA x.1 := ⟨_, rfl⟩
  have hXS : X.size = 32 := by rw [hX, dgA_size, x.2]
  have HX1 := Lib.hid (show X.all (·.oneCell') = true by rw [hX]; exact dgA_all _)
  obtain ⟨rb, hrb⟩ : ∃ rb, rb = w.heap.size := ⟨_, rfl⟩
  obtain ⟨d5, hd5⟩ : ∃ d5, d5 = rb + 1 := ⟨_, rfl⟩
  obtain ⟨w1, hw1⟩ : ∃ w1, w1 = w.alloc (.cells (dgA zDg.1) 38) := ⟨_, rfl⟩
  have hb1 : Below w.heap.size w w1 := by rw [hw1]; exact (Below.refl _ _).alloc (Nat.le_refl _) _
  have hz1 : w1.heap.size = d5 := by rw [hw1, World.size_alloc]; omega
  have hg1 : w1.heap[rb]? = some (.cells (dgA zDg.1) 38 (0, 0)) := by rw [hw1, hrb]; exact heap_alloc_new _ _
  obtain ⟨w2, hw2⟩ : ∃ w2, w2 = w1.alloc (.cells (dgA zDg.1) 38) := ⟨_, rfl⟩
  obtain ⟨hb3, hg3, hth⟩ := new_dig w1 X hXS
  rw [← hw2] at hb3 hg3 hth
  rw [hz1] at hb3 hg3 hth
  have hr1 : w1.rangeAt b' (off' + (n - 1) * 32) X.toList := by
    have h9 : w1.rangeAt b' (off' + (n - 1) * 32) (x.1.map b8) := fun q v hv => (World.cell?_of_block (hb1.block b' hbl)).trans (hr q v hv)
    rw [hX]; simpa [dgA] using h9
  have HR1 := Lib.hid hr1; have HXS := Lib.hid hXS; have HTH := Lib.hid hth
  have hB3 : Below w.heap.size w (w2.setCells d5 0 X.toList) := hb1.trans (hb3.mono (by omega))
  have HB3 := Lib.hid hB3
  have HG3 := Lib.hid hg3
  have HG0 := Lib.hid ((hb3.block rb (by omega)).trans hg1)
  have HZ3 := Lib.hid hb3.size
  have HDS := Lib.hid hds
  have HH := Lib.hid (And.intro h0 (And.intro h1 (And.intro hn (And.intro h1n (And.intro ht h3)))))
  have HXX := Lib.hid (show foldP wd (ds.drop (n - 1)) = x from foldP_last wd ds (n - 1) x hx (by omega))
  have HX := Lib.hid hX
  have HRB := Lib.hid hrb; have HD5 := Lib.hid hd5
  have hw1' : w.alloc (.cells #[.int .u8 0, .int .u8 0, .int .u8 0, .int .u8 0, .int .u8 0, .int .u8 0, .int .u8 0, .int .u8 0, .int .u8 0, .int .u8 0, .int .u8 0, .int .u8 0, .int .u8 0, .int .u8 0, .int .u8 0, .int .u8 0, .int .u8 0, .int .u8 0, .int .u8 0, .int .u8 0, .int .u8 0, .int .u8 0, .int .u8 0, .int .u8 0, .int .u8 0, .int .u8 0, .int .u8 0, .int .u8 0, .int .u8 0, .int .u8 0, .int .u8 0, .int .u8 0] 38) = w1 := hw1.symm
  have hw2' : w1.alloc (.cells #[.int .u8 0, .int .u8 0, .int .u8 0, .int .u8 0, .int .u8 0, .int .u8 0, .int .u8 0, .int .u8 0, .int .u8 0, .int .u8 0, .int .u8 0, .int .u8 0, .int .u8 0, .int .u8 0, .int .u8 0, .int .u8 0, .int .u8 0, .int .u8 0, .int .u8 0, .int .u8 0, .int .u8 0, .int .u8 0, .int .u8 0, .int .u8 0, .int .u8 0, .int .u8 0, .int .u8 0, .int .u8 0, .int .u8 0, .int .u8 0, .int .u8 0, .int .u8 0] 38) = w2 := hw2.symm
  have hz1' : w1.heap.size = d5 := hz1
  have hrb' : w.heap.size = rb := hrb.symm
  have b1 : ((n : Int) == 0) = false := by simp; omega
  have hn1 : (n : Int) - 1 = ((n - 1 : Nat) : Int) := by omega
  obtain ⟨m, hm⟩ : ∃ m, m = n - 1 := ⟨_, rfl⟩
  have HM := Lib.hid hm
  rw [← hm] at hn1 HR1 HXX
  have hmn : m < n := by omega
  have hn2 : (n : Int) - 2 = (m : Int) - 1 := by omega
  clear hds hln hx hbl hr hXS hX hb1 hz1 hg1 hb3 hg3 hth hr1 hB3 hw1 hw2 h0 h1 ht h3 hrb hd5 hm
  go_enter Tryz.func63, Tryz.ntmps63
  go_wp2_with (first
    | (refine L_load_arr rfl 38 (.tmp 16) (by rfl) b' (off' + m * 32) (by rfl) X _ HR1.out Tryz.underlying38 rfl (by rw [HXS.out]; exact info38) ?_)
    | (refine wpList_store_mid rfl 38 (.tmp 5) (.tmp 17) (by rfl) d5 0 X (by rfl) (by rfl) HTH.out (by rw [HXS.out]; exact info38) HX1.out ?_))
  generalize w2.setCells d5 0 X.toList = w3 at HB3 HG3 HG0 HZ3 ⊢
  clear b1 hn1 hn2 hz1' hw1' hw2'
  have HW := Lib.hid hrb'
  clear hrb'
  go_loopw [6] (fun v wr => ∃ j : Nat, j ≤ m ∧ v = .int .i64 ((j : Int) - 1) ∧ wr.heap[d5]? = some (.cells (dgA (foldP wd (ds.drop j)).1) 38 (0, 0)) ∧ wr.heap[rb]? = some (.cells (dgA zDg.1) 38 (0, 0)) ∧ Below w.heap.size w wr) (fun v _ => (intOf v + 1).toNat)
  case atStart => exact ⟨m, Nat.le_refl _, rfl, by rw [HXX.out, ← HX.out]; simpa using HG3.out, HG0.out, HB3.out⟩
  case round =>
    obtain ⟨j, hj, rfl, hg5, hg0, hb⟩ := hrel
    have HG5 := Lib.hid hg5; have HG00 := Lib.hid hg0; have HB := Lib.hid hb; have HJ := Lib.hid hj
    by_cases hlt : 1 ≤ j
    · obtain ⟨q, hq⟩ : ∃ q, q = j - 1 := ⟨_, rfl⟩
      rw [show (j : Int) - 1 = (q : Int) by omega]
      have hqn : q < n := by omega
      have hq6 : q ≤ 1000000 := by have := HH.out; omega
      obtain ⟨y, hy⟩ : ∃ y, ds[q]? = some y := ⟨_, List.getElem?_eq_getElem (by have := HDS.out.1; omega)⟩
      obtain ⟨b2, o2, e2, hbl, hr⟩ := (HDS.out.below hb).at hy
      cases e2
      obtain ⟨Yv, hYv⟩ : ∃ Yv, Yv = dgA y.1 := ⟨_, rfl⟩
      have hYS : Yv.size = 32 := by rw [hYv, dgA_size, y.2]
      have hr : wr.rangeAt b' (off' + q * 32) Yv.toList := by rw [hYv]; simpa [dgA] using hr
      obtain ⟨E, hE⟩ : ∃ E, E = dgA (foldP wd (ds.drop j)).1 := ⟨_, rfl⟩
      have hES : E.size = 32 := by rw [hE, dgA_size, (foldP wd (ds.drop j)).2]
      obtain ⟨F, hF⟩ : ∃ F, F = dgA (foldP wd (ds.drop q)).1 := ⟨_, rfl⟩
      have hFS : F.size = 32 := by rw [hF, dgA_size, (foldP wd (ds.drop q)).2]
      have hst : foldP wd (ds.drop q) = nodeD wd y (foldP wd (ds.drop j)) := by
        have := foldP_step wd ds q y hy (by have := HDS.out.1; omega)
        rwa [show q + 1 = j by omega] at this
      have hnd : Calls Tryz.prog 114 #[.int .i64 wd, .agg Yv, .agg E] wr.drew (fun e w' => e = .returned (.agg F) ∧ Below wr.drew.heap.size wr.drew w') := by
        rw [hYv, hE, hF, hst]
        exact node_any wr.drew wd HH.out.1 HH.out.2.1 y.1 (foldP wd (ds.drop j)).1 y.2 (foldP wd (ds.drop j)).2 (rt_below HH.out.2.2.2.2.1 (show Below w.heap.size w wr.drew from ⟨hb.os, hb.tape, hb.output, hb.size, hb.block⟩) HH.out.2.2.2.2.2) (Nat.lt_of_lt_of_le HH.out.2.2.2.2.2 hb.size)
      rw [← hE] at hg5
      have HND := Lib.hid hnd; have HYS := Lib.hid hYS; have HES := Lib.hid hES; have HFS := Lib.hid hFS
      have HF1 := Lib.hid (show F.all (·.oneCell') = true by rw [hF]; exact dgA_all _)
      have HLD := Lib.hid (load_dig hr hYS)
      have HL5 := Lib.hid (load_dg wr d5 E hg5 hES)
      have HE5 := Lib.hid hg5
      have HF := Lib.hid hF
      have HQ := Lib.hid (show q + 1 = j by omega)
      have HBL := Lib.hid hbl
      have HR := Lib.hid hr
      have h9 : decide ((0 : Int) ≤ (q : Int)) = true := by simp
      have hs0 : (Instr.loadAt 38 (.pointer (some ⟨b', off' + q * 32, none⟩))).run Tryz.prog wr.drew = .ok (.agg Yv) wr.drew := load_dig (w := wr.drew) HR.out HYS.out
      clear hj hg5 hg0 hb hlt hq hy hr hYv hYS hE hES hF hFS hst hnd hbl
      go_upto_region 7 with (fail)
      refine wp_region_held_drew (S := fun x => (Instr.loadAt 38 (.pointer (some ⟨b', off' + q * 32, none⟩))).run Tryz.prog x = .ok (.agg Yv) x) (by kernel_rfl) hs0 (fun hHeld => ?_)
      refine wpAnyH_take (i := 0) (oi := _) (v := ?_) rfl (by kernel_rfl) (by kernel_rfl) (by kernel_rfl) (fun _ _ _ h => h) (Or.inl ⟨by rfl, ?_⟩) (by assumption) ?_
      rotate_left
      · intro w hSw
        (try dsimp only at hSw)
        go_simp
        all_goals (first | done | with_reducible rfl)
      (try simp only [Act.put, List.setIfInBounds_toArray, List.set_cons_zero, List.set_cons_succ, List.getElem_toArray, List.getElem_cons_succ, List.getElem_cons_zero])
      refine wpAnyH_take (i := 1) (oi := _) (v := ?_) rfl (by kernel_rfl) (by kernel_rfl) (by kernel_rfl) (fun _ _ _ h => h) (Or.inl ⟨by rfl, ?_⟩) (by assumption) ?_
      rotate_left
      · intro w hSw
        (try dsimp only at hSw)
        go_simp
        all_goals (first | done | with_reducible rfl)
      (try simp only [Act.put, List.setIfInBounds_toArray, List.set_cons_zero, List.set_cons_succ, List.getElem_toArray, List.getElem_cons_succ, List.getElem_cons_zero])
      refine wpAnyH_take (i := 2) (oi := _) (v := ?_) rfl (by kernel_rfl) (by kernel_rfl) (by kernel_rfl) (fun _ _ _ h => h) (Or.inl ⟨by rfl, ?_⟩) (by assumption) ?_
      rotate_left
      · intro w hSw
        (try dsimp only at hSw)
        go_simp
        all_goals (first | done | with_reducible rfl)
      (try simp only [Act.put, List.setIfInBounds_toArray, List.set_cons_zero, List.set_cons_succ, List.getElem_toArray, List.getElem_cons_succ, List.getElem_cons_zero])
      refine wpAnyH_take (i := 3) (oi := _) (v := ?_) rfl (by kernel_rfl) (by kernel_rfl) (by kernel_rfl) (fun _ _ _ h => h) (Or.inl ⟨by rfl, ?_⟩) (by assumption) ?_
      rotate_left
      · intro w hSw
        (try dsimp only at hSw)
        go_simp
        all_goals (first | done | with_reducible rfl)
      (try simp only [Act.put, List.setIfInBounds_toArray, List.set_cons_zero, List.set_cons_succ, List.getElem_toArray, List.getElem_cons_succ, List.getElem_cons_zero])
      refine wpAnyH_take (i := 4) (oi := _) (v := .agg Yv) rfl (by kernel_rfl) (by kernel_rfl) (by kernel_rfl) (fun _ _ _ h => h) (Or.inl ⟨by rfl, fun w hSw => exec_load rfl (hSw)⟩) (by assumption) ?_
      (try simp only [Act.put, List.setIfInBounds_toArray, List.set_cons_zero, List.set_cons_succ, List.getElem_toArray, List.getElem_cons_succ, List.getElem_cons_zero])
      refine wpAnyH_ready (rs := [5]) (by kernel_rfl) (by simp) ?_
      refine AllReadyH.cons (o := _) rfl (fun K hK => ?_) AllReadyH.nil
      refine S_value rfl (exec_load rfl (load_dg wr.drew d5 E HE5.out HES.out)) ?_
      refine hK.out _ _ hs0 (fun hHeld => ?_)
      clear hK K
      (try simp only [Act.put, List.setIfInBounds_toArray, List.set_cons_zero, List.set_cons_succ, List.getElem_toArray, List.getElem_cons_succ, List.getElem_cons_zero])
      refine wpAnyH_ready (rs := [6]) (by kernel_rfl) (by simp) ?_
      refine AllReadyH.cons (o := _) rfl (fun K hK => ?_) AllReadyH.nil
      go_simp
      refine HND.out.mono ?_
      rintro e w6 ⟨rfl, hb6⟩
      have hb6' : Below wr.heap.size wr w6 := ⟨hb6.os, hb6.tape, hb6.output, hb6.size, hb6.block⟩
      have hg6 := (hb6'.block d5 (Array.getElem?_eq_some_iff.1 HE5.out).1).trans HE5.out
      have HG06 := Lib.hid ((hb6'.block rb (Array.getElem?_eq_some_iff.1 HG00.out).1).trans HG00.out)
      have hr6 : w6.rangeAt b' (off' + q * 32) Yv.toList := fun i v hv => (World.cell?_of_block (hb6'.block b' HBL.out)).trans (HR.out i v hv)
      have hs6 := load_dig hr6 HYS.out
      have hth6 := there_block hg6
      rw [HES.out] at hth6
      have HTH6 := Lib.hid hth6
      have HGF6 := Lib.hid (setCells_all hg6 F.toList (by rw [Array.length_toList, HFS.out, HES.out]))
      have hgr6 := setCells_grown d5 F.toList 0 w6
      have HGR6 := Lib.hid hgr6
      have HB6 := Lib.hid (HB.out.trans (hb6'.mono HB.out.size))
      have hd5b : d5 ≠ b' := by
        have h1 := HDS.out.at (List.getElem?_eq_getElem (show q < ds.length by have := HDS.out.1; omega))
        obtain ⟨b3, o3, e3, h3, -⟩ := h1
        cases e3
        have := HRB.out; have := HD5.out; omega
      have hs7 : (Instr.loadAt 38 (.pointer (some ⟨b', off' + q * 32, none⟩))).run Tryz.prog (w6.setCells d5 0 F.toList) = .ok (.agg Yv) (w6.setCells d5 0 F.toList) := load_dig (fun i v hv => (World.cell?_of_block (hgr6.block b' (Nat.lt_of_lt_of_le HBL.out hb6'.size) (fun e => hd5b (Option.some.inj e).symm))).trans (hr6 i v hv)) HYS.out
      have hd5rb : d5 ≠ rb := by have := HD5.out; omega
      have HG07 := Lib.hid ((hgr6.block rb (Array.getElem?_eq_some_iff.1 HG06.out).1 (fun e => hd5rb (Option.some.inj e).symm)).trans HG06.out)
      clear hb6 hb6' hg6 hth6 hgr6 hd5b hr6
      refine hK.out _ _ hs6 (fun hHeld => ?_)
      clear hK K
      (try simp only [Act.put, List.setIfInBounds_toArray, List.set_cons_zero, List.set_cons_succ, List.getElem_toArray, List.getElem_cons_succ, List.getElem_cons_zero])
      refine wpAnyH_ready (rs := [7]) (by kernel_rfl) (by simp) ?_
      refine AllReadyH.cons (o := _) rfl (fun K hK => ?_) AllReadyH.nil
      refine S_store_mid rfl 38 (.tmp 5) (.tmp 31) (by rfl) d5 0 F (by rfl) (by rfl) (by rw [HFS.out]; exact HTH6.out) (by rw [HFS.out]; exact info38) HF1.out ?_
      refine hK.out _ _ hs7 (fun hHeld => ?_)
      clear hK K
      (try simp only [Act.put, List.setIfInBounds_toArray, List.set_cons_zero, List.set_cons_succ, List.getElem_toArray, List.getElem_cons_succ, List.getElem_cons_zero])
      refine wpAnyH_done (by kernel_rfl) ?_ _
      clear hs0 hs6 hs7
      have HB7 := Lib.hid (HB6.out.grown HGR6.out HB6.out.size (fun k hk => by rw [← Option.some.inj hk]; have := HRB.out; have := HD5.out; omega))
      have HG57 := Lib.hid (show (w6.setCells d5 0 F.toList).heap[d5]? = some (.cells (dgA (foldP wd (ds.drop q)).1) 38 (0, 0)) by rw [← HF.out]; simpa using HGF6.out)
      clear h9
      go_wp2_with fail
      refine ⟨⟨q, by have := HQ.out; have := HJ.out; omega, rfl, HG57.out, HG07.out, HB7.out⟩, ?_⟩
      simp [intOf]
    · obtain rfl : j = 0 := by omega
      rw [List.drop_zero] at hg5
      have hth := there_block hg0
      rw [show (dgA zDg.1).size = 32 from rfl] at hth
      have HTH0 := Lib.hid hth
      obtain ⟨E, hE⟩ : ∃ E, E = dgA (foldP wd ds).1 := ⟨_, rfl⟩
      have HE := Lib.hid hE
      have HES := Lib.hid (show E.size = 32 by rw [hE, dgA_size, (foldP wd ds).2])
      have HE1 := Lib.hid (show E.all (·.oneCell') = true by rw [hE]; exact dgA_all _)
      rw [← hE] at hg5
      have HL9 := Lib.hid hg5
      have HGF := Lib.hid (setCells_all hg0 E.toList (by rw [Array.length_toList, HES.out]; rfl))
      rw [show ((0 : Nat) : Int) - 1 = -1 from rfl]
      clear hlt hj hg5 hg0 hb hth hE
      go_wp2_with (first
        | (refine wpList_load_row rfl 38 (.tmp 5) (by rfl) d5 (by rfl) 38 E (0, 0) _ HL9.out Tryz.underlying38 rfl (by rw [HES.out]; exact info38) ?_)
        | (refine wpList_store_mid rfl 38 (.tmp 4) (.tmp 32) (by rfl) rb 0 E (by rfl) (by rfl) (by rw [HES.out]; exact HTH0.out) (by rw [HES.out]; exact info38) HE1.out ?_))
      have HB9 := Lib.hid (HB.out.grown (setCells_grown rb E.toList 0 wr) HB.out.size (fun k hk => by rw [← Option.some.inj hk]; have := HRB.out; omega))
      generalize wr.setCells rb 0 E.toList = w9 at *
      have hGF : w9.heap[rb]? = some (.cells E 38 (0, 0)) := by have := HGF.out; simpa using this
      have HGF9 := Lib.hid hGF
      refine bodyPost_ret (v := .agg E) (results_cell_row (p := 4) (ty := 38) rfl _ _ rb 38 E (0, 0) _ rfl HGF9.out Tryz.underlying38 rfl (by rw [HES.out]; exact info38)) rfl ⟨by rw [HE.out], HB9.out⟩
end Go.Proofs.YtgkehahklccacaaGreatDoor
namespace Go.Proofs.YtgkehahklccacaaGreatDoor
open Go Go.RowKit
set_option maxRecDepth 100000
set_option maxHeartbeats 1000000
set_option linter.unusedVariables false
set_option linter.unusedSimpArgs false

/-! The tree's roots, plain. -/
theorem leftP_mid {n q : Nat} (h1 : 2 ^ q < n) (h2 : n ≤ 2 ^ (q + 1)) (hn : n ≤ 1000000000000) : leftP n = 2 ^ q := by
  have h0 : 0 < 2 ^ q := Nat.pow_pos (by decide)
  have h64 : n - 1 < 2 ^ 64 := by omega
  have a := bitAux_lt 64 (n - 1) h64
  obtain ⟨b, c⟩ := bitAux_le 64 (n - 1) h64 (by omega)
  unfold leftP Lib.bitLen
  congr 1
  have e1 : q < Lib.bitLenAux 64 (n - 1) := (Nat.pow_lt_pow_iff_right (show 1 < 2 by decide)).1 (Nat.lt_of_le_of_lt (show 2 ^ q ≤ n - 1 by omega) a)
  have e2 : Lib.bitLenAux 64 (n - 1) - 1 < q + 1 := (Nat.pow_lt_pow_iff_right (show 1 < 2 by decide)).1 (Nat.lt_of_le_of_lt c (by omega))
  omega
theorem leftP_pow (u : Nat) (hu : u ≤ 38) : leftP (2 ^ (u + 1)) = 2 ^ u := by
  refine leftP_mid ?_ (Nat.le_refl _) ?_
  · rw [Nat.pow_succ]; have : 0 < 2 ^ u := Nat.pow_pos (by decide); omega
  · calc 2 ^ (u + 1) ≤ 2 ^ 39 := Nat.pow_le_pow_right (by decide) (by omega)
      _ ≤ 1000000000000 := by decide
theorem rootF_succ (f : Nat) (wd : Int) (ds : List Dg) (h : 2 ≤ ds.length) : rootF (f + 1) wd ds = nodeD wd (rootF f wd (ds.take (leftP ds.length))) (rootF f wd (ds.drop (leftP ds.length))) := by
  match ds, h with
  | d :: e :: r, _ => rfl
theorem rootF_fuel (wd : Int) : ∀ (n : Nat) (ds : List Dg), ds.length ≤ n → n ≤ 1000000 → ∀ f g, ds.length ≤ f → ds.length ≤ g → 1 ≤ f → 1 ≤ g → rootF f wd ds = rootF g wd ds := by
  intro n
  induction n with
  | zero =>
    intro ds h _ f g _ _ hf hg
    obtain rfl : ds = [] := List.eq_nil_of_length_eq_zero (by omega)
    obtain ⟨f, rfl⟩ : ∃ k, f = k + 1 := ⟨f - 1, by omega⟩
    obtain ⟨g, rfl⟩ : ∃ k, g = k + 1 := ⟨g - 1, by omega⟩
    rfl
  | succ n ih =>
    intro ds h hn f g hf hg hf1 hg1
    obtain ⟨f, rfl⟩ : ∃ k, f = k + 1 := ⟨f - 1, by omega⟩
    obtain ⟨g, rfl⟩ : ∃ k, g = k + 1 := ⟨g - 1, by omega⟩
    by_cases h2 : 2 ≤ ds.length
    · obtain ⟨k1, k2⟩ := leftP_lt ds.length h2 (by omega)
      rw [rootF_succ f wd ds h2, rootF_succ g wd ds h2]
      rw [ih (ds.take _) (by rw [List.length_take]; omega) (by omega) f g (by rw [List.length_take]; omega) (by rw [List.length_take]; omega) (by omega) (by omega)]
      rw [ih (ds.drop _) (by rw [List.length_drop]; omega) (by omega) f g (by rw [List.length_drop]; omega) (by rw [List.length_drop]; omega) (by omega) (by omega)]
    · match ds, h2 with
      | [], _ => rfl
      | [d], _ => rfl
      | d :: e :: r, h2 => simp at h2
theorem rootP_one (wd : Int) (d : Dg) : rootP wd [d] = d := rfl
theorem rootP_nil (wd : Int) : rootP wd [] = nothingD wd := rfl
theorem rootP_two (wd : Int) (ds : List Dg) (h : 2 ≤ ds.length) (hn : ds.length ≤ 1000000) : rootP wd ds = nodeD wd (rootP wd (ds.take (leftP ds.length))) (rootP wd (ds.drop (leftP ds.length))) := by
  obtain ⟨k1, k2⟩ := leftP_lt ds.length h (by omega)
  unfold rootP
  obtain ⟨f, hf⟩ : ∃ f, ds.length = f + 1 := ⟨ds.length - 1, by omega⟩
  have e := rootF_succ f wd ds h
  rw [← hf] at e
  rw [e]
  rw [rootF_fuel wd f (ds.take _) (by rw [List.length_take]; omega) (by omega) f (ds.take (leftP ds.length)).length (by rw [List.length_take]; omega) (Nat.le_refl _) (by omega) (by rw [List.length_take]; omega)]
  rw [rootF_fuel wd f (ds.drop _) (by rw [List.length_drop]; omega) (by omega) f (ds.drop (leftP ds.length)).length (by rw [List.length_drop]; omega) (Nat.le_refl _) (by omega) (by rw [List.length_drop]; omega)]
/-- Roots of rows of 256 leaves, many of them: the root of all. -/
theorem rootP_comp (wd : Int) : ∀ (u : Nat) (L : List Dg), u ≤ 10 → L.length = 256 * 2 ^ u → rootP wd ((List.range (2 ^ u)).map fun j => rootP wd ((L.drop (256 * j)).take 256)) = rootP wd L := by
  intro u
  induction u with
  | zero =>
    intro L _ h
    have : L.take 256 = L := List.take_of_length_le (by omega)
    show rootP wd [rootP wd ((L.drop (256 * 0)).take 256)] = _
    rw [Nat.mul_zero, List.drop_zero, this, rootP_one]
  | succ u ih =>
    intro L hu h
    have h2 : (2 : Nat) ^ (u + 1) = 2 ^ u + 2 ^ u := by rw [Nat.pow_succ]; omega
    have hp : 0 < 2 ^ u := Nat.pow_pos (by decide)
    have hb : 2 ^ u ≤ 1024 := by
      calc 2 ^ u ≤ 2 ^ 10 := Nat.pow_le_pow_right (by decide) (by omega)
        _ = 1024 := by decide
    have hm : ((List.range (2 ^ (u + 1))).map fun j => rootP wd ((L.drop (256 * j)).take 256)).length = 2 ^ (u + 1) := by simp
    rw [rootP_two wd _ (by rw [hm]; omega) (by rw [hm]; omega), hm, leftP_pow u (by omega)]
    have e9 : 2 ^ (u + 8 + 1) = 512 * 2 ^ u := by rw [show u + 8 + 1 = u + 9 by omega, Nat.pow_add]; omega
    have hL : L.length = 2 ^ (u + 8 + 1) := by omega
    have e8 : 2 ^ (u + 8) = 256 * 2 ^ u := by rw [Nat.pow_add]; omega
    rw [rootP_two wd L (by omega) (by omega), hL, leftP_pow (u + 8) (by omega), e8]
    congr 1
    · rw [← ih (L.take (256 * 2 ^ u)) (by omega) (by rw [List.length_take]; omega)]
      congr 1
      rw [h2, List.range_add, List.map_append, List.take_left' (by simp)]
      apply List.map_congr_left
      intro j hj
      have hj := List.mem_range.1 hj
      have hx : 256 * (j + 1) ≤ 256 * 2 ^ u := Nat.mul_le_mul_left _ hj
      rw [List.drop_take, List.take_take, Nat.min_eq_left (by omega)]
    · rw [← ih (L.drop (256 * 2 ^ u)) (by omega) (by rw [List.length_drop]; omega)]
      congr 1
      rw [h2, List.range_add, List.map_append, List.drop_left' (by simp), List.map_map]
      apply List.map_congr_left
      intro j hj
      show rootP wd ((L.drop (256 * (2 ^ u + j))).take 256) = _
      rw [List.drop_drop, Nat.mul_add]
end Go.Proofs.YtgkehahklccacaaGreatDoor
namespace Go.Proofs.YtgkehahklccacaaGreatDoor
open Go Go.RowKit
set_option maxRecDepth 100000
set_option maxHeartbeats 1000000
set_option linter.unusedVariables false
set_option linter.unusedSimpArgs false

open Go.Maps Go.WideMaps Go.ChangeMaps
theorem pow8 {l : Nat} (h : l < 8) (i : Nat) : (i * 2 ^ l) % 256 + 2 ^ l ≤ 256 := by
  have : l = 0 ∨ l = 1 ∨ l = 2 ∨ l = 3 ∨ l = 4 ∨ l = 5 ∨ l = 6 ∨ l = 7 := by omega
  rcases this with rfl | rfl | rfl | rfl | rfl | rfl | rfl | rfl <;> omega
theorem pow8_le {l : Nat} (h : l < 8) : 1 ≤ 2 ^ l ∧ 2 ^ l ≤ 128 := by
  have : l = 0 ∨ l = 1 ∨ l = 2 ∨ l = 3 ∨ l = 4 ∨ l = 5 ∨ l = 6 ∨ l = 7 := by omega
  rcases this with rfl | rfl | rfl | rfl | rfl | rfl | rfl | rfl <;> omega
theorem DS.of_owns {w : World} {base : Nat} {a : Option Addr} {n c : Nat} {ds : List Dg} (h : w.ownsRow base 38 32 (.slice a n c) n (ds.flatMap dgE)) (hn : n ≤ 1000000) : DS w a n c ds := RS.of_owns h (by decide) dgE_len (by omega)
/-- Where the digest of a full subtree lies. -/
structure Spt (w : World) (T : TT) (Y : TY) (l i : Nat) (ds : List Dg) (av : Option Addr) (n c : Nat) : Prop where
  dd : DS w av n c ds
  le : (i * 2 ^ (l % 8)) % 256 + 2 ^ (l % 8) ≤ n
  n6 : n ≤ 1000000
  eq : rootP T.wd ((ds.drop ((i * 2 ^ (l % 8)) % 256)).take (2 ^ (l % 8))) = rootP T.wd ((T.L.drop (i * 2 ^ l)).take (2 ^ l))
  at_ : (encS (Y.Mf (l / 8) (i * 2 ^ (l % 8) / 256)) = .slice av n c ∧ (Y.Mf (l / 8) (i * 2 ^ (l % 8) / 256)).isSome = true) ∨ (Y.Mf (l / 8) (i * 2 ^ (l % 8) / 256) = none ∧ encS (Y.Mo (l / 8) (i * 2 ^ (l % 8) / 256)) = .slice av n c)
theorem at_find {w : World} {τ : Nat → Nat} {gt gd : Nat} {T : TT} {Y : TY} (h : TS w τ gt gd T Y) (l i : Nat) (hl : l < 16) (hi : (i + 1) * 2 ^ l ≤ T.L.length) : ∃ ds av n c, Spt w T Y l i ds av n c := by
  have hfew := h.few
  rw [Nat.add_mul, Nat.one_mul] at hi
  rcases Nat.lt_or_ge l 8 with h8 | h8
  · have e1 : l / 8 = 0 := by omega
    have e2 : l % 8 = l := by omega
    obtain ⟨a, ha⟩ : ∃ a, a = (i * 2 ^ l) % 256 := ⟨_, rfl⟩
    obtain ⟨j, hj⟩ : ∃ j, j = (i * 2 ^ l) / 256 := ⟨_, rfl⟩
    have hp := pow8 h8 i
    have hq := pow8_le h8
    rw [← ha] at hp
    have hf : i * 2 ^ l = 256 * j + a := by omega
    by_cases hjF : j < T.L.length / 256
    · obtain ⟨g, c, m1, m2, -⟩ := h.full j hjF
      refine ⟨chunk T.L j, some ⟨g, 0, none⟩, 256, c, ?_, ?_, ?_, ?_, ?_⟩
      · exact m2
      · rw [e2, ← ha]; exact hp
      · decide
      · rw [e2, ← ha]
        unfold chunk
        rw [List.drop_take, List.take_take, List.drop_drop, Nat.min_eq_left (by omega), hf]
      · rw [e1, e2, ← hj, m1]; exact .inl ⟨rfl, rfl⟩
    · have hjE : j = T.L.length / 256 := by omega
      have ho := h.o0.1
      rw [← hjE] at ho
      obtain ⟨av, c, hv, -⟩ := owns_shape ho
      rw [hv] at ho
      refine ⟨T.L.drop (256 * j), av, T.L.length % 256, c, ?_, ?_, ?_, ?_, ?_⟩
      · exact DS.of_owns ho (by omega)
      · rw [e2, ← ha]; omega
      · omega
      · rw [e2, ← ha, List.drop_drop, hf]
      · rw [e1, e2, ← hj]
        exact .inr ⟨h.fno j (by omega), hv⟩
  · obtain ⟨u, hu⟩ : ∃ u, l = u + 8 := ⟨l - 8, by omega⟩
    subst hu
    have hu8 : u < 8 := by omega
    have e1 : (u + 8) / 8 = 1 := by omega
    have e2 : (u + 8) % 8 = u := by omega
    have e8 : 2 ^ (u + 8) = 256 * 2 ^ u := by rw [Nat.pow_add]; omega
    have hq := pow8_le hu8
    obtain ⟨q, hqq⟩ : ∃ q, q = i * 2 ^ u := ⟨_, rfl⟩
    have hi2 : i * 2 ^ (u + 8) = 256 * q := by rw [e8, hqq, Nat.mul_left_comm]
    rw [hi2, e8] at hi
    have ho := h.o1.1
    obtain ⟨av, c, hv, -⟩ := owns_shape ho
    rw [hv] at ho
    have hqF : q + 2 ^ u ≤ T.L.length / 256 := by omega
    have hq0 : q / 256 = 0 := by omega
    have hqm : q % 256 = q := by omega
    refine ⟨rootsP T.wd T.L, av, T.L.length / 256, c, ?_, ?_, ?_, ?_, ?_⟩
    · exact DS.of_owns ho (by omega)
    · rw [e2, ← hqq, hqm]; exact hqF
    · omega
    · rw [e2, ← hqq, hqm, hi2, e8]
      rw [← rootP_comp T.wd u ((T.L.drop (256 * q)).take (256 * 2 ^ u)) (by omega) (by rw [List.length_take, List.length_drop]; omega)]
      congr 1
      apply List.ext_getElem?
      intro k
      by_cases hk : k < 2 ^ u
      · unfold rootsP
        rw [List.getElem?_take, if_pos hk, List.getElem?_drop, List.getElem?_map, List.getElem?_range (by omega), List.getElem?_map, List.getElem?_range hk]
        simp only [Option.map_some]
        congr 2
        unfold chunk
        rw [List.drop_take, List.take_take, List.drop_drop, Nat.min_eq_left (by omega), Nat.mul_add]
      · rw [List.getElem?_eq_none (by rw [List.length_take]; omega), List.getElem?_eq_none (by simp; omega)]
    · rw [e1, e2, ← hqq, hq0]
      exact .inr ⟨h.f1, hv⟩
theorem slice_midD (wx : World) (a : Option Addr) (n c k m : Nat) (hk : k ≤ m) (hm : m ≤ c) : (Instr.slice 23 (.slice a n c) (some (.int .i64 (k : Int))) (some (.int .i64 (m : Int))) none).run Tryz.prog wx = .ok (.slice (dropD a k c) (m - k) (c - k)) wx := by
  obtain ⟨i, hi, hz0, hz1, hz2⟩ := info_parts sl23.inf
  have he : Tryz.prog.elem 23 = 38 := by simp [Program.elem, sl23.und]
  have h1 : Tryz.prog.underlying 23 = some (.slice (Tryz.prog.elem 23)) := by rw [he]; exact sl23.und
  have h2 : (sizeOf (Tryz.prog.elem 23)).run Tryz.prog wx = .ok 32 wx := by rw [he]; simp [sizeOf, typeInfo, hi, hz1]
  rw [run_slice_lh wx 23 a n c h1 .i64 .i64 k m (by omega) (by omega) (by omega), h2]
  simp [Result.andThen, sliced, dropD]
set_option maxHeartbeats 8000000
theorem at_any (w : World) (τ : Nat → Nat) (gt gd : Nat) (T : TT) (Y : TY) (h : TS w τ gt gd T Y) (l i : Nat) (hl : l < 16) (hi : (i + 1) * 2 ^ l ≤ T.L.length) (ht : RoundTab w) :
    Calls Tryz.prog 62 #[.pointer (some ⟨gt, 0, none⟩), .agg #[.int .i64 (l : Int), .int .i64 (i : Int)]] w fun e w' => e = .returned (.agg (dgA (rootP T.wd ((T.L.drop (i * 2 ^ l)).take (2 ^ l))).1)) ∧ Below w.heap.size w w' := by
  obtain ⟨ds, av, n, c, hsp⟩ := at_find h l i hl hi
  have hfew := h.few
  have h4 := h.sz
  have hwd := h.wdb
  obtain ⟨E, hE⟩ : ∃ E, E = dgA (rootP T.wd ((T.L.drop (i * 2 ^ l)).take (2 ^ l))).1 := ⟨_, rfl⟩
  have HES := Lib.hid (show E.size = 32 by rw [hE, dgA_size, (rootP T.wd ((T.L.drop (i * 2 ^ l)).take (2 ^ l))).2])
  have HE1 := Lib.hid (show E.all (·.oneCell') = true by rw [hE]; exact dgA_all _)
  obtain ⟨p, hp⟩ : ∃ p, p = 2 ^ (l % 8) := ⟨_, rfl⟩
  have hp8 := pow8_le (show l % 8 < 8 by omega)
  rw [← hp] at hp8
  obtain ⟨lv, hlv⟩ : ∃ lv, lv = l / 8 := ⟨_, rfl⟩
  obtain ⟨up, hup⟩ : ∃ up, up = l % 8 := ⟨_, rfl⟩
  have h2l : p ≤ 2 ^ l := by rw [hp]; exact Nat.pow_le_pow_right (by decide) (by omega)
  have hip : i * p + p ≤ 60000 := by
    have h1 : (i + 1) * p ≤ (i + 1) * 2 ^ l := Nat.mul_le_mul_left _ h2l
    rw [Nat.add_mul, Nat.one_mul] at h1
    omega
  obtain ⟨fr, hfr⟩ : ∃ fr, fr = i * p := ⟨_, rfl⟩
  obtain ⟨j, hj⟩ : ∃ j, j = fr / 256 := ⟨_, rfl⟩
  obtain ⟨a, ha⟩ : ∃ a, a = fr % 256 := ⟨_, rfl⟩
  have hs1 : a + p ≤ n := by have := hsp.le; rw [← hp, ← hfr, ← ha] at this; exact this
  have hs2 := hsp.eq
  rw [← hp, ← hfr, ← ha] at hs2
  have hs3 := hsp.at_
  rw [← hp, ← hfr, ← hj, ← hlv] at hs3
  have hdd := hsp.dd
  have hn6 := hsp.n6
  have hcn := hdd.2.1
  have hE2 : E = dgA (rootP T.wd ((ds.drop a).take p)).1 := by rw [hE, hs2]
  rw [← hE]
  obtain ⟨b3, hb3⟩ : ∃ b3, b3 = w.heap.size := ⟨_, rfl⟩
  obtain ⟨rb, hrb⟩ : ∃ rb, rb = b3 + 1 := ⟨_, rfl⟩
  obtain ⟨w1, hw1⟩ : ∃ w1, w1 = w.alloc (.cells #[.int .i64 (l : Int), .int .i64 (i : Int)] 133) := ⟨_, rfl⟩
  obtain ⟨w2, hw2⟩ : ∃ w2, w2 = w1.alloc (.cells (dgA zDg.1) 38) := ⟨_, rfl⟩
  have hb1 : Below w.heap.size w w1 := by rw [hw1]; exact (Below.refl _ _).alloc (Nat.le_refl _) _
  have hz1 : w1.heap.size = rb := by rw [hw1, World.size_alloc]; omega
  have hz2 : w2.heap.size = rb + 1 := by rw [hw2, World.size_alloc]; omega
  have hb2 : Below w.heap.size w w2 := by rw [hw2]; exact hb1.alloc (by omega) _
  have hx3 : w2.heap[b3]? = some (.cells #[.int .i64 (l : Int), .int .i64 (i : Int)] 133 (0, 0)) := by rw [hw2, alOld _ _ _ (by omega), hw1, hb3]; exact heap_alloc_new _ _
  have hx0 : w2.heap[rb]? = some (.cells (dgA zDg.1) 38 (0, 0)) := by rw [hw2, ← hz1]; exact heap_alloc_new _ _
  have hts := h.below hb2
  have c3 := hts.cells.2.2.2.1
  have c5 := hts.cells.2.2.2.2.2.1
  have c6 : w2.cell? ⟨gt, 6, none⟩ = some (.map (some Y.ob)) := by rw [cell_of_row _ _ _ _ _ _ hts.box]; rfl
  have k0 := cell_of_row w2 b3 0 _ _ _ hx3
  have k1 := cell_of_row w2 b3 1 _ _ _ hx3
  simp only [List.getElem?_toArray, List.getElem?_cons_zero, List.getElem?_cons_succ] at k0 k1
  have d1 : (l : Int).tdiv 8 = (lv : Int) := by rw [hlv]; rfl
  have d2 : (l : Int) / 8 = (lv : Int) := by omega
  have d3 : (l : Int).tmod 8 = (up : Int) := by rw [hup]; rfl
  have d4 : (l : Int) % 8 = (up : Int) := by omega
  have d5 : IntKind.i64.wrap (lv : Int) = (lv : Int) := IntWalk.i64_in _ (by omega)
  have d6 : IntKind.i64.wrap (up : Int) = (up : Int) := IntWalk.i64_in _ (by omega)
  have d7 : lv ≤ 1 := by omega
  have d8 : up ≤ 7 := by omega
  have HT := Lib.hid (And.intro h ht); have HTS := Lib.hid hts; have HB2 := Lib.hid hb2; have HX0 := Lib.hid hx0; have HX3 := Lib.hid hx3; have HZ2 := Lib.hid hz2
  have HAR := Lib.hid (And.intro hlv (And.intro hup (And.intro hfr (And.intro hj (And.intro ha (And.intro hs1 (And.intro hp8 (And.intro hip (And.intro hfew (And.intro h4 (And.intro hn6 (And.intro hcn hwd))))))))))))
  have HS3 := Lib.hid hs3; have HDD := Lib.hid hdd; have HE2 := Lib.hid hE2; have HP := Lib.hid (show p = 2 ^ up by rw [hp, hup])
  have HB3 := Lib.hid hb3; have HRB := Lib.hid hrb
  have hw1' : w.alloc (.cells #[.int .i64 (l : Int), .int .i64 (i : Int)] 133) = w1 := hw1.symm
  have hw2' : w1.alloc (.cells #[.int .u8 0, .int .u8 0, .int .u8 0, .int .u8 0, .int .u8 0, .int .u8 0, .int .u8 0, .int .u8 0, .int .u8 0, .int .u8 0, .int .u8 0, .int .u8 0, .int .u8 0, .int .u8 0, .int .u8 0, .int .u8 0, .int .u8 0, .int .u8 0, .int .u8 0, .int .u8 0, .int .u8 0, .int .u8 0, .int .u8 0, .int .u8 0, .int .u8 0, .int .u8 0, .int .u8 0, .int .u8 0, .int .u8 0, .int .u8 0, .int .u8 0, .int .u8 0] 38) = w2 := hw2.symm
  have hb3' : w.heap.size = b3 := hb3.symm
  have hz1' : w1.heap.size = rb := hz1
  clear hsp hE hE2 hs1 hs2 hs3 hdd hn6 hcn hfr hj ha hip h2l hlv hup hp8 hp hfew h4 hwd h hl hi ht hb1 hb2 hz1 hz2 hx3 hx0 hts hw1 hw2 hb3 hrb
  go_enter Tryz.func62, Tryz.ntmps62
  go_wp2_with fail
  clear hw1' hw2' hb3' hz1'
  go_quiet (fail)
  obtain ⟨w3, hw3⟩ : ∃ w3, w3 = w2.drewN nq := ⟨_, rfl⟩
  have e1 : w3.cell? ⟨b3, 1, none⟩ = some (.int .i64 (i : Int)) := by rw [hw3]; exact k1
  have HB3W := Lib.hid (show Below w.heap.size w w3 by rw [hw3]; exact below_drewN HB2.out nq)
  have HX03 := Lib.hid (show w3.heap[rb]? = some (.cells (dgA zDg.1) 38 (0, 0)) by rw [hw3]; exact HX0.out)
  have HZ3 := Lib.hid (show w3.heap.size = rb + 1 by rw [hw3]; exact HZ2.out)
  rw [← hw3]
  clear hw3 c3 c5 c6 k0 k1 d1 d2 d3 d4 d5 d6 HTS HB2 HX0 HX3 HZ2
  go_upto_region 3 with (fail)
  have hsh : wrap64 ((i : Int) * 2 ^ up) = (fr : Int) := by
    have h1 : (i : Int) * 2 ^ up = (fr : Int) := by rw [HAR.out.2.2.1, HP.out]; push_cast; rfl
    rw [h1]
    exact wrap64_small (by omega) (by have := HAR.out.2.2.1; have := HAR.out.2.2.2.2.2.2.2.1; omega)
  rw [hsh]
  clear hsh e1
  have hf6 : fr ≤ 60000 := by have := HAR.out.2.2.1; have := HAR.out.2.2.2.2.2.2.2.1; omega
  have f1 : (fr : Int) / 256 = (j : Int) := by have := HAR.out.2.2.2.1; omega
  have hj6 : j ≤ 300 := by have := HAR.out.2.2.2.1; omega
  obtain ⟨w4, hw4⟩ : ∃ w4, w4 = w3.alloc (.cells #[.int .i64 (lv : Int), .int .i64 (j : Int)] 121) := ⟨_, rfl⟩
  obtain ⟨kb, hkb⟩ : ∃ kb, kb = w3.heap.size := ⟨_, rfl⟩
  have hb4 : Below w.heap.size w w4 := by rw [hw4]; exact HB3W.out.alloc (by have := HZ3.out; have := HRB.out; have := HB3.out; omega) _
  have hx4 : w4.heap[kb]? = some (.cells #[.int .i64 (lv : Int), .int .i64 (j : Int)] 121 (0, 0)) := by rw [hw4, hkb]; exact heap_alloc_new _ _
  have HX04 := Lib.hid (show w4.heap[rb]? = some (.cells (dgA zDg.1) 38 (0, 0)) by rw [hw4, alOld _ _ _ (by have := HZ3.out; omega)]; exact HX03.out)
  have HTS4 := Lib.hid (HT.out.1.below hb4)
  have HB4 := Lib.hid hb4; have HX4 := Lib.hid hx4; have HKB := Lib.hid hkb; have HZ4 := Lib.hid (show w4.heap.size = rb + 2 by rw [hw4, World.size_alloc, HZ3.out])
  have hw4' : w3.alloc (.cells #[.int .i64 (lv : Int), .int .i64 (j : Int)] 121) = w4 := hw4.symm
  have hkb' : w3.heap.size = kb := hkb.symm
  clear hb4 hx4 hw4 hkb
  go_wp2_with fail
  clear hw4' hkb' f1
  have c5 := HTS4.out.cells.2.2.2.2.2.1
  have c6 : w4.cell? ⟨gt, 6, none⟩ = some (.map (some Y.ob)) := by rw [cell_of_row _ _ _ _ _ _ HTS4.out.box]; rfl
  have k0 := cell_of_row w4 kb 0 _ _ _ HX4.out
  have k1 := cell_of_row w4 kb 1 _ _ _ HX4.out
  simp only [List.getElem?_toArray, List.getElem?_cons_zero, List.getElem?_cons_succ] at k0 k1
  have hd7 := HAR.out.2.2.2.2.2.2.1
  have hmod : (fr : Int) % 256 = (a : Int) := by have := HAR.out.2.2.2.2.1; omega
  have ha255 : a ≤ 255 := by have := HAR.out.2.2.2.2.1; omega
  have hsc : encS (Y.Mf lv j) = .slice av n c ∧ (Y.Mf lv j).isSome = true ∨ Y.Mf lv j = none ∧ encS (Y.Mo lv j) = .slice av n c := HS3.out
  rcases hsc with ⟨hs, hso⟩ | ⟨hs, hso⟩
  · have hlk := fun q => (show MAt (w4.drewN q) Y.fb Y.nf Y.Mf from HTS4.out.mf.keep rfl).look_ok (l := lv) (j := j) (by omega) (by omega)
    rw [hs, hso] at hlk
    clear c6 hs hso
    go_quiet (fail)
    clear hlk c5 k0 k1
    go_wp2_with fail
    rw [hmod]
    obtain ⟨W5, hW5⟩ : ∃ W5, W5 = w4.drewN nq := ⟨_, rfl⟩
    have g3 : W5.cell? ⟨gt, 3, none⟩ = some (.int .i64 T.wd) := by rw [hW5]; exact HTS4.out.cells.2.2.2.1
    have HB5 := Lib.hid (show Below w.heap.size w W5 by rw [hW5]; exact below_drewN HB4.out nq)
    have HX05 := Lib.hid (show W5.heap[rb]? = some (.cells (dgA zDg.1) 38 (0, 0)) by rw [hW5]; exact HX04.out)
    rw [← hW5]
    clear hW5 hmod
    obtain ⟨e, he⟩ : ∃ e, e = a + p := ⟨_, rfl⟩
    have s1 : IntKind.i64.wrap (2 ^ up) = (p : Int) := by
      have : (2 : Int) ^ up = (p : Int) := by rw [HP.out]; push_cast; rfl
      rw [this]; exact IntWalk.i64_in _ (by omega)
    have s2 : IntKind.i64.wrap ((a : Int) + (p : Int)) = (e : Int) := by
      rw [he]; push_cast; exact IntWalk.i64_in _ (by omega)
    have hsl := fun wx => slice_midD wx av n c a e (by omega) (by have := HAR.out; omega)
    have hep : e - a = p := by omega
    rw [hep] at hsl
    have HRT := Lib.hid (show Calls Tryz.prog 77 #[.int .i64 T.wd, .slice (dropD av a c) p (c - a)] W5.drew (fun e w' => e = .returned (.agg E) ∧ Below W5.drew.heap.size W5.drew w') from HE2.out ▸ root_any W5.drew T.wd (by have := HAR.out; omega) (by have := HAR.out; omega) (dropD av a c) p (c - a) ((ds.drop a).take p)
      (by have h1 := ((show DS W5.drew av n c ds from HDD.out.below (show Below w.heap.size w W5.drew from ⟨HB5.out.os, HB5.out.tape, HB5.out.output, HB5.out.size, HB5.out.block⟩)).drop a (by have := HAR.out; omega)).take p (by have := HAR.out; omega); exact h1) (by omega) (rt_below HT.out.2 (show Below w.heap.size w W5.drew from ⟨HB5.out.os, HB5.out.tape, HB5.out.output, HB5.out.size, HB5.out.block⟩) (by have := HAR.out; omega)) (by have := HB5.out.size; have := HAR.out; show 3 < W5.heap.size; omega))
    have HEP := Lib.hid (And.intro he hep)
    clear he hep ha255 hf6 hj6 hd7 d7
    go_still_tail 11, (by kernel_rfl)
    change wpList _ _ _ _ _ W5.drew
    clear s1 s2 hsl g3
    have hx0d : W5.drew.heap[rb]? = some (.cells (dgA zDg.1) 38 (0, 0)) := HX05.out
    have HX0D := Lib.hid hx0d
    have HBD := Lib.hid (show Below w.heap.size w W5.drew from ⟨HB5.out.os, HB5.out.tape, HB5.out.output, HB5.out.size, HB5.out.block⟩)
    clear hx0d
    go_wp2_with (first | (go_at_call 77; refine HRT.out.mono ?_; rintro e w6 ⟨rfl, hb6⟩; have hg6 := (hb6.block rb (Array.getElem?_eq_some_iff.1 HX0D.out).1).trans HX0D.out; have HG6 := Lib.hid hg6; have HTH := Lib.hid (there_block hg6); have HGF := Lib.hid (setCells_all hg6 E.toList (by rw [Array.length_toList, HES.out]; rfl)); have HB6 := Lib.hid (HBD.out.trans (hb6.mono HBD.out.size)); clear hg6 hb6) | (refine wpList_store_mid rfl 38 (.tmp 4) (.tmp 55) (by rfl) rb 0 E (by rfl) (by rfl) (by rw [HES.out]; exact HTH.out) (by rw [HES.out]; exact info38) HE1.out ?_))
    have HB9 := Lib.hid (HB6.out.grown (setCells_grown rb E.toList 0 w6) HB6.out.size (fun k hk => by rw [← Option.some.inj hk]; have := HRB.out; have := HB3.out; omega))
    generalize w6.setCells rb 0 E.toList = w9 at *
    have hGF : w9.heap[rb]? = some (.cells E 38 (0, 0)) := by have := HGF.out; simpa using this
    have HGF9 := Lib.hid hGF
    refine bodyPost_ret (v := .agg E) (results_cell_row (p := 4) (ty := 38) rfl _ _ rb 38 E (0, 0) _ rfl HGF9.out Tryz.underlying38 rfl (by rw [HES.out]; exact info38)) rfl ⟨rfl, HB9.out⟩
  · have hlk := fun q => (show MAt (w4.drewN q) Y.fb Y.nf Y.Mf from HTS4.out.mf.keep rfl).look_ok (l := lv) (j := j) (by omega) (by omega)
    rw [hs] at hlk
    have hlk : ∀ q, (Instr.lookup 95 (.map (some Y.fb)) (.agg #[.int .i64 (lv : Int), .int .i64 (j : Int)]) true).run Tryz.prog (w4.drewN q) = .ok (.tuple #[.slice none 0 0, .bool false]) (w4.drewN q) := hlk
    clear hs
    go_quiet (fail)
    clear hlk c5
    obtain ⟨W4, hW4⟩ : ∃ W4, W4 = w4.drewN nq := ⟨_, rfl⟩
    have HTS5 := Lib.hid (show TS W4 τ gt gd T Y by rw [hW4]; exact HTS4.out.below (below_drewN (Below.refl _ _) nq))
    have HB4' := Lib.hid (show Below w.heap.size w W4 by rw [hW4]; exact below_drewN HB4.out nq)
    have HX04' := Lib.hid (show W4.heap[rb]? = some (.cells (dgA zDg.1) 38 (0, 0)) by rw [hW4]; exact HX04.out)
    have c6' : W4.cell? ⟨gt, 6, none⟩ = some (.map (some Y.ob)) := by rw [hW4]; exact c6
    have k0' : W4.cell? ⟨kb, 0, none⟩ = some (.int .i64 (lv : Int)) := by rw [hW4]; exact k0
    have k1' : W4.cell? ⟨kb, 1, none⟩ = some (.int .i64 (j : Int)) := by rw [hW4]; exact k1
    rw [← hW4]
    clear hW4 c6 k0 k1 HTS4 HB4 HX04
    have HTS4 := HTS5; have HB4 := HB4'; have HX04 := HX04'
    clear HTS5 HB4' HX04'
    have hlk := fun q => (show MAt (W4.drewN q) Y.ob Y.no Y.Mo from HTS4.out.mo.keep rfl).look (l := lv) (j := j) (by omega) (by omega)
    rw [hso] at hlk
    clear hso
    go_wp2_with fail
    go_quiet (fail)
    clear hlk c6' k0' k1'
    go_wp2_with fail
    rw [hmod]
    obtain ⟨W5, hW5⟩ : ∃ W5, W5 = W4.drewN nq := ⟨_, rfl⟩
    have g3 : W5.cell? ⟨gt, 3, none⟩ = some (.int .i64 T.wd) := by rw [hW5]; exact HTS4.out.cells.2.2.2.1
    have HB5 := Lib.hid (show Below w.heap.size w W5 by rw [hW5]; exact below_drewN HB4.out nq)
    have HX05 := Lib.hid (show W5.heap[rb]? = some (.cells (dgA zDg.1) 38 (0, 0)) by rw [hW5]; exact HX04.out)
    rw [← hW5]
    clear hW5 hmod
    obtain ⟨e, he⟩ : ∃ e, e = a + p := ⟨_, rfl⟩
    have s1 : IntKind.i64.wrap (2 ^ up) = (p : Int) := by
      have : (2 : Int) ^ up = (p : Int) := by rw [HP.out]; push_cast; rfl
      rw [this]; exact IntWalk.i64_in _ (by omega)
    have s2 : IntKind.i64.wrap ((a : Int) + (p : Int)) = (e : Int) := by
      rw [he]; push_cast; exact IntWalk.i64_in _ (by omega)
    have hsl := fun wx => slice_midD wx av n c a e (by omega) (by have := HAR.out; omega)
    have hep : e - a = p := by omega
    rw [hep] at hsl
    have HRT := Lib.hid (show Calls Tryz.prog 77 #[.int .i64 T.wd, .slice (dropD av a c) p (c - a)] W5.drew (fun e w' => e = .returned (.agg E) ∧ Below W5.drew.heap.size W5.drew w') from HE2.out ▸ root_any W5.drew T.wd (by have := HAR.out; omega) (by have := HAR.out; omega) (dropD av a c) p (c - a) ((ds.drop a).take p)
      (by have h1 := ((show DS W5.drew av n c ds from HDD.out.below (show Below w.heap.size w W5.drew from ⟨HB5.out.os, HB5.out.tape, HB5.out.output, HB5.out.size, HB5.out.block⟩)).drop a (by have := HAR.out; omega)).take p (by have := HAR.out; omega); exact h1) (by omega) (rt_below HT.out.2 (show Below w.heap.size w W5.drew from ⟨HB5.out.os, HB5.out.tape, HB5.out.output, HB5.out.size, HB5.out.block⟩) (by have := HAR.out; omega)) (by have := HB5.out.size; have := HAR.out; show 3 < W5.heap.size; omega))
    have HEP := Lib.hid (And.intro he hep)
    clear he hep ha255 hf6 hj6 hd7 d7
    go_still_tail 11, (by kernel_rfl)
    change wpList _ _ _ _ _ W5.drew
    clear s1 s2 hsl g3
    have hx0d : W5.drew.heap[rb]? = some (.cells (dgA zDg.1) 38 (0, 0)) := HX05.out
    have HX0D := Lib.hid hx0d
    have HBD := Lib.hid (show Below w.heap.size w W5.drew from ⟨HB5.out.os, HB5.out.tape, HB5.out.output, HB5.out.size, HB5.out.block⟩)
    clear hx0d
    go_wp2_with (first | (go_at_call 77; refine HRT.out.mono ?_; rintro e w6 ⟨rfl, hb6⟩; have hg6 := (hb6.block rb (Array.getElem?_eq_some_iff.1 HX0D.out).1).trans HX0D.out; have HG6 := Lib.hid hg6; have HTH := Lib.hid (there_block hg6); have HGF := Lib.hid (setCells_all hg6 E.toList (by rw [Array.length_toList, HES.out]; rfl)); have HB6 := Lib.hid (HBD.out.trans (hb6.mono HBD.out.size)); clear hg6 hb6) | (refine wpList_store_mid rfl 38 (.tmp 4) (.tmp 55) (by rfl) rb 0 E (by rfl) (by rfl) (by rw [HES.out]; exact HTH.out) (by rw [HES.out]; exact info38) HE1.out ?_))
    have HB9 := Lib.hid (HB6.out.grown (setCells_grown rb E.toList 0 w6) HB6.out.size (fun k hk => by rw [← Option.some.inj hk]; have := HRB.out; have := HB3.out; omega))
    generalize w6.setCells rb 0 E.toList = w9 at *
    have hGF : w9.heap[rb]? = some (.cells E 38 (0, 0)) := by have := HGF.out; simpa using this
    have HGF9 := Lib.hid hGF
    refine bodyPost_ret (v := .agg E) (results_cell_row (p := 4) (ty := 38) rfl _ _ rb 38 E (0, 0) _ rfl HGF9.out Tryz.underlying38 rfl (by rw [HES.out]; exact info38)) rfl ⟨rfl, HB9.out⟩
end Go.Proofs.YtgkehahklccacaaGreatDoor
namespace Go.Proofs
open Go.Shelf
def Tryz.lays7n27_ren : Go.Shelf.Ren := ⟨fun | 27 => 113 | 28 => 183 | 29 => 184 | n => n, fun | 25 => 86 | 3 => 3 | 27 => 255 | 22 => 173 | 4 => 4 | 53 => 37 | 0 => 0 | 5 => 5 | 54 => 330 | n => n, fun | 0 => 0 | 1 => 1 | n => n⟩
theorem Tryz.lays7n27 : Go.Proofs.Lays7.n27 Tryz.prog Tryz.lays7n27_ren := {
  mixed := by kernel_rfl
  f27 := Tryz.func113.trans (congrArg some (by kernel_rfl))
  f28 := Tryz.func183.trans (congrArg some (by kernel_rfl))
  f29 := Tryz.func184.trans (congrArg some (by kernel_rfl))
  t0 := Tryz.underlying0
  a0 := Tryz.isAgg0
  z0 := Tryz.sizeOf0
  v0 := Tryz.zeroValue0
  i0 := by kernel_rfl
  t3 := Tryz.underlying3
  a3 := Tryz.isAgg3
  z3 := Tryz.sizeOf3
  v3 := Tryz.zeroValue3
  i3 := by kernel_rfl
  t4 := Tryz.underlying4
  a4 := Tryz.isAgg4
  z4 := Tryz.sizeOf4
  v4 := Tryz.zeroValue4
  i4 := by kernel_rfl
  t5 := Tryz.underlying5
  a5 := Tryz.isAgg5
  z5 := Tryz.sizeOf5
  v5 := Tryz.zeroValue5
  i5 := by kernel_rfl
  t22 := Tryz.underlying173
  a22 := Tryz.isAgg173
  z22 := Tryz.sizeOf173
  v22 := Tryz.zeroValue173
  i22 := by kernel_rfl
  t25 := Tryz.underlying86
  a25 := Tryz.isAgg86
  z25 := Tryz.sizeOf86
  v25 := Tryz.zeroValue86
  i25 := by kernel_rfl
  t27 := Tryz.underlying255
  a27 := Tryz.isAgg255
  z27 := Tryz.sizeOf255
  v27 := Tryz.zeroValue255
  i27 := by kernel_rfl
  t53 := Tryz.underlying37
  a53 := Tryz.isAgg37
  z53 := Tryz.sizeOf37
  v53 := Tryz.zeroValue37
  i53 := by kernel_rfl
  t54 := Tryz.underlying330
  a54 := Tryz.isAgg330
  z54 := Tryz.sizeOf330
  g0 := by kernel_rfl
  g1 := by kernel_rfl }
end Go.Proofs
namespace Go.Proofs.YtgkehahklccacaaGreatDoor
open Go Go.RowKit
set_option maxRecDepth 100000
set_option maxHeartbeats 1000000
set_option linter.unusedVariables false
set_option linter.unusedSimpArgs false

open Go.Maps Go.WideMaps Go.ChangeMaps
/-! The spots of a row of leaves, and what they fold to. -/
def logP (n : Nat) : Nat := Lib.bitLen n - 1
theorem logP_le {n : Nat} (h : 0 < n) (hn : n ≤ 1000000000000) : 2 ^ logP n ≤ n ∧ n < 2 ^ (logP n + 1) ∧ 0 < Lib.bitLen n := by
  have a := bitAux_lt 64 n (by omega)
  obtain ⟨b, c⟩ := bitAux_le 64 n (by omega) h
  unfold logP Lib.bitLen
  exact ⟨c, by rw [Nat.sub_add_cancel b]; exact a, b⟩
def spL (fr len : Nat) : List (Nat × Nat) := if h : len = 0 then [] else (logP len, fr / 2 ^ logP len) :: spL (fr + 2 ^ logP len) (len - 2 ^ logP len)
termination_by len
decreasing_by
  have : 0 < 2 ^ logP len := Nat.pow_pos (by decide)
  omega
theorem spL_zero (fr : Nat) : spL fr 0 = [] := by rw [spL]; rfl
theorem spL_pos (fr len : Nat) (h : 0 < len) : spL fr len = (logP len, fr / 2 ^ logP len) :: spL (fr + 2 ^ logP len) (len - 2 ^ logP len) := by
  rw [spL, dif_neg (by omega)]
/-- Where the spots of so many leaves may begin. -/
def Al (fr len : Nat) : Prop := ∀ q, 2 ^ q ≤ len → 2 ^ q ∣ fr
theorem Al.zero (len : Nat) : Al 0 len := fun q _ => Nat.dvd_zero _
theorem Al.next {fr len : Nat} (h : Al fr len) (h0 : 0 < len) (hn : len ≤ 1000000000000) : Al (fr + 2 ^ logP len) (len - 2 ^ logP len) := by
  obtain ⟨h1, h2, -⟩ := logP_le h0 hn
  intro q hq
  have h3 : 2 ^ q ≤ 2 ^ logP len := by
    rcases Nat.lt_or_ge (logP len) q with e | e
    · have : 2 ^ (logP len + 1) ≤ 2 ^ q := Nat.pow_le_pow_right (by decide) e
      rw [Nat.pow_succ] at h2 this; omega
    · exact Nat.pow_le_pow_right (by decide) e
  have h4 : q ≤ logP len := (Nat.pow_le_pow_iff_right (show 1 < 2 by decide)).1 h3
  exact Nat.dvd_add (h q (by omega)) (Nat.pow_dvd_pow 2 h4)
/-- A spot's digest. -/
def spotD (wd : Int) (L : List Dg) (s : Nat × Nat) : Dg := rootP wd ((L.drop (s.2 * 2 ^ s.1)).take (2 ^ s.1))
theorem fold_spots (wd : Int) (L : List Dg) : ∀ (n len fr : Nat), len ≤ n → Al fr len → 0 < len → fr + len ≤ L.length → len ≤ 1000000 → foldP wd ((spL fr len).map (spotD wd L)) = rootP wd ((L.drop fr).take len) := by
  intro n
  induction n with
  | zero => intro len fr h _ h0; omega
  | succ n ih =>
    intro len fr h hal h0 hle hn
    obtain ⟨h1, h2, -⟩ := logP_le h0 (by omega)
    have hp : 0 < 2 ^ logP len := Nat.pow_pos (by decide)
    have hd : fr / 2 ^ logP len * 2 ^ logP len = fr := Nat.div_mul_cancel (hal _ h1)
    have hs : spotD wd L (logP len, fr / 2 ^ logP len) = rootP wd ((L.drop fr).take (2 ^ logP len)) := by
      show rootP wd ((L.drop (fr / 2 ^ logP len * 2 ^ logP len)).take (2 ^ logP len)) = _
      rw [hd]
    rw [spL_pos fr len h0, List.map_cons, hs]
    by_cases he : len = 2 ^ logP len
    · have hz : len - 2 ^ logP len = 0 := by omega
      rw [hz, spL_zero, List.map_nil]
      show rootP wd ((L.drop fr).take (2 ^ logP len)) = _
      rw [← he]
    · have h5 : 0 < len - 2 ^ logP len := by omega
      have ih' := ih (len - 2 ^ logP len) (fr + 2 ^ logP len) (by omega) (hal.next h0 (by omega)) h5 (by omega) (by omega)
      have hne : (spL (fr + 2 ^ logP len) (len - 2 ^ logP len)).map (spotD wd L) ≠ [] := by rw [spL_pos _ _ h5]; simp
      have hf : ∀ (d : Dg) (r : List Dg), r ≠ [] → foldP wd (d :: r) = nodeD wd d (foldP wd r) := fun d r hr => by
        cases r with
        | nil => exact absurd rfl hr
        | cons e r => rfl
      rw [hf _ _ hne, ih']
      have hl : ((L.drop fr).take len).length = len := by rw [List.length_take, List.length_drop]; omega
      rw [rootP_two wd ((L.drop fr).take len) (by omega) (by omega), hl, leftP_mid (q := logP len) (by omega) (by omega) (by omega)]
      congr 1
      · rw [List.take_take, Nat.min_eq_left (by omega)]
      · rw [List.drop_take, List.drop_drop]
theorem spL_level : ∀ (n len fr : Nat), len ≤ n → Al fr len → len ≤ 1000000000000 → ∀ s ∈ spL fr len, s.2 * 2 ^ s.1 + 2 ^ s.1 ≤ fr + len ∧ 2 ^ s.1 ≤ len := by
  intro n
  induction n with
  | zero => intro len fr h _ _ s hs; obtain rfl : len = 0 := by omega
            rw [spL_zero] at hs; cases hs
  | succ n ih =>
    intro len fr h hal hn s hs
    by_cases h0 : len = 0
    · subst h0; rw [spL_zero] at hs; cases hs
    · obtain ⟨h1, h2, -⟩ := logP_le (show 0 < len by omega) hn
      have hp : 0 < 2 ^ logP len := Nat.pow_pos (by decide)
      rw [spL_pos fr len (by omega)] at hs
      rcases List.mem_cons.1 hs with rfl | hs
      · dsimp only
        rw [Nat.div_mul_cancel (hal _ h1)]
        omega
      · have := ih (len - 2 ^ logP len) (fr + 2 ^ logP len) (by omega) (hal.next (by omega) hn) (by omega) s hs
        omega
theorem spL_len : ∀ (n len fr : Nat), len ≤ n → (spL fr len).length ≤ len := by
  intro n
  induction n with
  | zero => intro len fr h; obtain rfl : len = 0 := by omega
            rw [spL_zero]; exact Nat.le_refl _
  | succ n ih =>
    intro len fr h
    by_cases h0 : len = 0
    · subst h0; rw [spL_zero]; exact Nat.le_refl _
    · have hp : 0 < 2 ^ logP len := Nat.pow_pos (by decide)
      rw [spL_pos fr len (by omega), List.length_cons]
      have := ih (len - 2 ^ logP len) (fr + 2 ^ logP len) (by omega)
      omega
end Go.Proofs.YtgkehahklccacaaGreatDoor
