import Derived.Test.YtoboabkaojfbaaaGreatDoorQ16
import Derived.Test.YtoboabkaojfbaaaGreatDoorQ15
import Derived.Test.YtoboabkaojfbaaaGreatDoorQ10
import Derived.Test.YtoboabkaojfbaaaGreatDoorQ28
import Derived.Test.YtoboabkaojfbaaaGreatDoorQ22
namespace Go.Proofs.YtoboabkaojfbaaaGreatDoor
open Go Go.RowKit
set_option maxRecDepth 100000
set_option maxHeartbeats 8000000
set_option linter.unusedVariables false
set_option linter.unusedSimpArgs false
open Go.Maps Go.WideMaps Go.ChangeMaps
/-- A digest in a block of its own. -/
theorem new_dig (w : World) (E : Array Value) (hE : E.size = 32) :
    Below w.heap.size w ((w.alloc (.cells (dgA zDg.1) 23)).setCells w.heap.size 0 E.toList) ∧ ((w.alloc (.cells (dgA zDg.1) 23)).setCells w.heap.size 0 E.toList).heap[w.heap.size]? = some (.cells E 23 (0, 0)) ∧ (w.alloc (.cells (dgA zDg.1) 23)).there w.heap.size 0 E.size := by
  have hO := heap_alloc_new w (.cells (dgA zDg.1) 23)
  have hb : Below w.heap.size w (w.alloc (.cells (dgA zDg.1) 23)) := (Below.refl _ _).alloc (Nat.le_refl _) _
  have h1 := setCells_all hO E.toList (by rw [Array.length_toList, hE]; rfl)
  refine ⟨hb.grown (setCells_grown _ _ _ _) hb.size (fun k hk => by rw [← Option.some.inj hk]; exact Nat.le_refl _), by simpa using h1, ?_⟩
  have := there_block hO
  rw [hE]
  rwa [show (dgA zDg.1).size = 32 from rfl] at this
theorem DS.of_owns {w : World} {base : Nat} {a : Option Addr} {n c : Nat} {ds : List Dg} (h : w.ownsRow base 23 32 (.slice a n c) n (ds.flatMap dgE)) (hn : n ≤ 1000000) : DS w a n c ds := RS.of_owns h (by decide) dgE_len (by omega)
/-- Digests folded from the right. -/
def foldP (wd : Int) : List Dg → Dg
  | [] => nothingD wd
  | [d] => d
  | d :: e :: r => nodeD wd d (foldP wd (e :: r))
theorem foldP_step (wd : Int) (ds : List Dg) (q : Nat) (x : Dg) (hx : ds[q]? = some x) (hq : q + 1 < ds.length) : foldP wd (ds.drop q) = nodeD wd x (foldP wd (ds.drop (q + 1))) := by
  obtain ⟨hl, he⟩ := List.getElem?_eq_some_iff.1 hx
  rw [List.drop_eq_getElem_cons hl, he, List.drop_eq_getElem_cons hq]
  rfl
theorem foldP_last (wd : Int) (ds : List Dg) (q : Nat) (x : Dg) (hx : ds[q]? = some x) (hq : q + 1 = ds.length) : foldP wd (ds.drop q) = x := by
  obtain ⟨hl, he⟩ := List.getElem?_eq_some_iff.1 hx
  rw [List.drop_eq_getElem_cons hl, he, List.drop_eq_nil_of_le (by omega)]
  rfl
theorem fold_any (w : World) (wd : Int) (h0 : -9223372036854775808 ≤ wd) (h1 : wd ≤ 9223372036854775807) (a : Option Addr) (n c : Nat) (ds : List Dg) (hds : DS w a n c ds) (hn : n ≤ 1000000) (h1n : 1 ≤ n) (ht : RoundTab w) (h3 : 1 < w.heap.size) :
    Calls Tryz.prog 235 #[.int .i64 wd, .slice a n c] w fun e w' => e = .returned (.agg (dgA (foldP wd ds).1)) ∧ Below w.heap.size w w' := by
  have hln := hds.1
  have hcap := hds.2.1
  obtain ⟨x, hx⟩ : ∃ x, ds[n - 1]? = some x := ⟨_, List.getElem?_eq_getElem (by omega)⟩
  obtain ⟨b', off', rfl, hbl, hr⟩ := hds.at hx
  obtain ⟨X, hX⟩ : ∃ X, X = dgA x.1 := ⟨_, rfl⟩
  have hXS : X.size = 32 := by rw [hX, dgA_size, x.2]
  have HX1 := Lib.hid (show X.all (·.oneCell') = true by rw [hX]; exact dgA_all _)
  obtain ⟨rb, hrb⟩ : ∃ rb, rb = w.heap.size := ⟨_, rfl⟩
  obtain ⟨d5, hd5⟩ : ∃ d5, d5 = rb + 1 := ⟨_, rfl⟩
  obtain ⟨w1, hw1⟩ : ∃ w1, w1 = w.alloc (.cells (dgA zDg.1) 23) := ⟨_, rfl⟩
  have hb1 : Below w.heap.size w w1 := by rw [hw1]; exact (Below.refl _ _).alloc (Nat.le_refl _) _
  have hz1 : w1.heap.size = d5 := by rw [hw1, World.size_alloc]; omega
  have hg1 : w1.heap[rb]? = some (.cells (dgA zDg.1) 23 (0, 0)) := by rw [hw1, hrb]; exact heap_alloc_new _ _
  obtain ⟨w2, hw2⟩ : ∃ w2, w2 = w1.alloc (.cells (dgA zDg.1) 23) := ⟨_, rfl⟩
  obtain ⟨hb3, hg3, hth⟩ := new_dig w1 X hXS
  rw [← hw2] at hb3 hg3 hth
  rw [hz1] at hb3 hg3 hth
  have hr1 : w1.rangeAt b' (off' + (n - 1) * 32) X.toList := by
    have h9 : w1.rangeAt b' (off' + (n - 1) * 32) (x.1.map b8) := fun q v hv => (World.cell?_of_block (hb1.block b' hbl)).trans (hr q v hv)
    rw [hX]; simpa [dgA] using h9
  have HR1 := Lib.hid hr1; have HXS := Lib.hid hXS; have HTH := Lib.hid hth
  have hB3 : Below w.heap.size w (w2.setCells d5 0 X.toList) := hb1.trans (hb3.mono (by omega))
  have HB3 := Lib.hid hB3
  have HG3 := Lib.hid hg3
  have HG0 := Lib.hid ((hb3.block rb (by omega)).trans hg1)
  have HZ3 := Lib.hid hb3.size
  have HDS := Lib.hid hds
  have HH := Lib.hid (And.intro h0 (And.intro h1 (And.intro hn (And.intro h1n (And.intro ht h3)))))
  have HXX := Lib.hid (show foldP wd (ds.drop (n - 1)) = x from foldP_last wd ds (n - 1) x hx (by omega))
  have HX := Lib.hid hX
  have HRB := Lib.hid hrb; have HD5 := Lib.hid hd5
  have hw1' : w.alloc (.cells #[.int .u8 0, .int .u8 0, .int .u8 0, .int .u8 0, .int .u8 0, .int .u8 0, .int .u8 0, .int .u8 0, .int .u8 0, .int .u8 0, .int .u8 0, .int .u8 0, .int .u8 0, .int .u8 0, .int .u8 0, .int .u8 0, .int .u8 0, .int .u8 0, .int .u8 0, .int .u8 0, .int .u8 0, .int .u8 0, .int .u8 0, .int .u8 0, .int .u8 0, .int .u8 0, .int .u8 0, .int .u8 0, .int .u8 0, .int .u8 0, .int .u8 0, .int .u8 0] 23) = w1 := hw1.symm
  have hw2' : w1.alloc (.cells #[.int .u8 0, .int .u8 0, .int .u8 0, .int .u8 0, .int .u8 0, .int .u8 0, .int .u8 0, .int .u8 0, .int .u8 0, .int .u8 0, .int .u8 0, .int .u8 0, .int .u8 0, .int .u8 0, .int .u8 0, .int .u8 0, .int .u8 0, .int .u8 0, .int .u8 0, .int .u8 0, .int .u8 0, .int .u8 0, .int .u8 0, .int .u8 0, .int .u8 0, .int .u8 0, .int .u8 0, .int .u8 0, .int .u8 0, .int .u8 0, .int .u8 0, .int .u8 0] 23) = w2 := hw2.symm
  have hz1' : w1.heap.size = d5 := hz1
  have hrb' : w.heap.size = rb := hrb.symm
  have b1 : ((n : Int) == 0) = false := by simp; omega
  have hn1 : (n : Int) - 1 = ((n - 1 : Nat) : Int) := by omega
  obtain ⟨m, hm⟩ : ∃ m, m = n - 1 := ⟨_, rfl⟩
  have HM := Lib.hid hm
  rw [← hm] at hn1 HR1 HXX
  have hmn : m < n := by omega
  have hn2 : (n : Int) - 2 = (m : Int) - 1 := by omega
  clear hds hln hx hbl hr hXS hX hb1 hz1 hg1 hb3 hg3 hth hr1 hB3 hw1 hw2 h0 h1 ht h3 hrb hd5 hm
  go_enter Tryz.func235, Tryz.ntmps235
  go_wp2_with (first
    | (refine L_load_arr rfl 23 (.tmp 16) (by rfl) b' (off' + m * 32) (by rfl) X _ HR1.out Tryz.underlying23 rfl (by rw [HXS.out]; exact info38) ?_)
    | (refine wpList_store_mid rfl 23 (.tmp 5) (.tmp 17) (by rfl) d5 0 X (by rfl) (by rfl) HTH.out (by rw [HXS.out]; exact info38) HX1.out ?_))
  generalize w2.setCells d5 0 X.toList = w3 at HB3 HG3 HG0 HZ3 ⊢
  clear b1 hn1 hn2 hz1' hw1' hw2'
  have HW := Lib.hid hrb'
  clear hrb'
  go_loopw [6] (fun v wr => ∃ j : Nat, j ≤ m ∧ v = .int .i64 ((j : Int) - 1) ∧ wr.heap[d5]? = some (.cells (dgA (foldP wd (ds.drop j)).1) 23 (0, 0)) ∧ wr.heap[rb]? = some (.cells (dgA zDg.1) 23 (0, 0)) ∧ Below w.heap.size w wr) (fun v _ => (intOf v + 1).toNat)
  case atStart => exact ⟨m, Nat.le_refl _, rfl, by rw [HXX.out, ← HX.out]; simpa using HG3.out, HG0.out, HB3.out⟩
  case round =>
    obtain ⟨j, hj, rfl, hg5, hg0, hb⟩ := hrel
    have HG5 := Lib.hid hg5; have HG00 := Lib.hid hg0; have HB := Lib.hid hb; have HJ := Lib.hid hj
    by_cases hlt : 1 ≤ j
    · obtain ⟨q, hq⟩ : ∃ q, q = j - 1 := ⟨_, rfl⟩
      rw [show (j : Int) - 1 = (q : Int) by omega]
      have hqn : q < n := by omega
      have hq6 : q ≤ 1000000 := by have := HH.out; omega
      obtain ⟨y, hy⟩ : ∃ y, ds[q]? = some y := ⟨_, List.getElem?_eq_getElem (by have := HDS.out.1; omega)⟩
      obtain ⟨b2, o2, e2, hbl, hr⟩ := (HDS.out.below hb).at hy
      cases e2
      obtain ⟨Yv, hYv⟩ : ∃ Yv, Yv = dgA y.1 := ⟨_, rfl⟩
      have hYS : Yv.size = 32 := by rw [hYv, dgA_size, y.2]
      have hr : wr.rangeAt b' (off' + q * 32) Yv.toList := by rw [hYv]; simpa [dgA] using hr
      obtain ⟨E, hE⟩ : ∃ E, E = dgA (foldP wd (ds.drop j)).1 := ⟨_, rfl⟩
      have hES : E.size = 32 := by rw [hE, dgA_size, (foldP wd (ds.drop j)).2]
      obtain ⟨F, hF⟩ : ∃ F, F = dgA (foldP wd (ds.drop q)).1 := ⟨_, rfl⟩
      have hFS : F.size = 32 := by rw [hF, dgA_size, (foldP wd (ds.drop q)).2]
      have hst : foldP wd (ds.drop q) = nodeD wd y (foldP wd (ds.drop j)) := by
        have := foldP_step wd ds q y hy (by have := HDS.out.1; omega)
        rwa [show q + 1 = j by omega] at this
      have hnd : Calls Tryz.prog 253 #[.int .i64 wd, .agg Yv, .agg E] wr.drew (fun e w' => e = .returned (.agg F) ∧ Below wr.drew.heap.size wr.drew w') := by
        rw [hYv, hE, hF, hst]
        exact node_any wr.drew wd HH.out.1 HH.out.2.1 y.1 (foldP wd (ds.drop j)).1 y.2 (foldP wd (ds.drop j)).2 (rt_below HH.out.2.2.2.2.1 (show Below w.heap.size w wr.drew from ⟨hb.os, hb.tape, hb.output, hb.size, hb.block⟩) HH.out.2.2.2.2.2) (Nat.lt_of_lt_of_le HH.out.2.2.2.2.2 hb.size)
      rw [← hE] at hg5
      have HND := Lib.hid hnd; have HYS := Lib.hid hYS; have HES := Lib.hid hES; have HFS := Lib.hid hFS
      have HF1 := Lib.hid (show F.all (·.oneCell') = true by rw [hF]; exact dgA_all _)
      have HLD := Lib.hid (load_dig hr hYS)
      have HL5 := Lib.hid (load_dg wr d5 E hg5 hES)
      have HE5 := Lib.hid hg5
      have HF := Lib.hid hF
      have HQ := Lib.hid (show q + 1 = j by omega)
      have HBL := Lib.hid hbl
      have HR := Lib.hid hr
      have h9 : decide ((0 : Int) ≤ (q : Int)) = true := by simp
      have hs0 : (Instr.loadAt 23 (.pointer (some ⟨b', off' + q * 32, none⟩))).run Tryz.prog wr.drew = .ok (.agg Yv) wr.drew := load_dig (w := wr.drew) HR.out HYS.out
      clear hj hg5 hg0 hb hlt hq hy hr hYv hYS hE hES hF hFS hst hnd hbl
      go_upto_region 7 with (fail)
      refine wp_region_held_drew (S := fun x => (Instr.loadAt 23 (.pointer (some ⟨b', off' + q * 32, none⟩))).run Tryz.prog x = .ok (.agg Yv) x) (by kernel_rfl) hs0 (fun hHeld => ?_)
      refine wpAnyH_take (i := 0) (oi := _) (v := ?_) rfl (by kernel_rfl) (by kernel_rfl) (by kernel_rfl) (fun _ _ _ h => h) (Or.inl ⟨by rfl, ?_⟩) (by assumption) ?_
      rotate_left
      · intro w hSw
        (try dsimp only at hSw)
        go_simp
        all_goals (first | done | with_reducible rfl)
      (try simp only [Act.put, List.setIfInBounds_toArray, List.set_cons_zero, List.set_cons_succ, List.getElem_toArray, List.getElem_cons_succ, List.getElem_cons_zero])
      refine wpAnyH_take (i := 1) (oi := _) (v := ?_) rfl (by kernel_rfl) (by kernel_rfl) (by kernel_rfl) (fun _ _ _ h => h) (Or.inl ⟨by rfl, ?_⟩) (by assumption) ?_
      rotate_left
      · intro w hSw
        (try dsimp only at hSw)
        go_simp
        all_goals (first | done | with_reducible rfl)
      (try simp only [Act.put, List.setIfInBounds_toArray, List.set_cons_zero, List.set_cons_succ, List.getElem_toArray, List.getElem_cons_succ, List.getElem_cons_zero])
      refine wpAnyH_take (i := 2) (oi := _) (v := ?_) rfl (by kernel_rfl) (by kernel_rfl) (by kernel_rfl) (fun _ _ _ h => h) (Or.inl ⟨by rfl, ?_⟩) (by assumption) ?_
      rotate_left
      · intro w hSw
        (try dsimp only at hSw)
        go_simp
        all_goals (first | done | with_reducible rfl)
      (try simp only [Act.put, List.setIfInBounds_toArray, List.set_cons_zero, List.set_cons_succ, List.getElem_toArray, List.getElem_cons_succ, List.getElem_cons_zero])
      refine wpAnyH_take (i := 3) (oi := _) (v := ?_) rfl (by kernel_rfl) (by kernel_rfl) (by kernel_rfl) (fun _ _ _ h => h) (Or.inl ⟨by rfl, ?_⟩) (by assumption) ?_
      rotate_left
      · intro w hSw
        (try dsimp only at hSw)
        go_simp
        all_goals (first | done | with_reducible rfl)
      (try simp only [Act.put, List.setIfInBounds_toArray, List.set_cons_zero, List.set_cons_succ, List.getElem_toArray, List.getElem_cons_succ, List.getElem_cons_zero])
      refine wpAnyH_take (i := 4) (oi := _) (v := .agg Yv) rfl (by kernel_rfl) (by kernel_rfl) (by kernel_rfl) (fun _ _ _ h => h) (Or.inl ⟨by rfl, fun w hSw => exec_load rfl (hSw)⟩) (by assumption) ?_
      (try simp only [Act.put, List.setIfInBounds_toArray, List.set_cons_zero, List.set_cons_succ, List.getElem_toArray, List.getElem_cons_succ, List.getElem_cons_zero])
      refine wpAnyH_ready (rs := [5]) (by kernel_rfl) (by simp) ?_
      refine AllReadyH.cons (o := _) rfl (fun K hK => ?_) AllReadyH.nil
      refine S_value rfl (exec_load rfl (load_dg wr.drew d5 E HE5.out HES.out)) ?_
      refine hK.out _ _ hs0 (fun hHeld => ?_)
      clear hK K
      (try simp only [Act.put, List.setIfInBounds_toArray, List.set_cons_zero, List.set_cons_succ, List.getElem_toArray, List.getElem_cons_succ, List.getElem_cons_zero])
      refine wpAnyH_ready (rs := [6]) (by kernel_rfl) (by simp) ?_
      refine AllReadyH.cons (o := _) rfl (fun K hK => ?_) AllReadyH.nil
      go_simp
      refine HND.out.mono ?_
      rintro e w6 ⟨rfl, hb6⟩
      have hb6' : Below wr.heap.size wr w6 := ⟨hb6.os, hb6.tape, hb6.output, hb6.size, hb6.block⟩
      have hg6 := (hb6'.block d5 (Array.getElem?_eq_some_iff.1 HE5.out).1).trans HE5.out
      have HG06 := Lib.hid ((hb6'.block rb (Array.getElem?_eq_some_iff.1 HG00.out).1).trans HG00.out)
      have hr6 : w6.rangeAt b' (off' + q * 32) Yv.toList := fun i v hv => (World.cell?_of_block (hb6'.block b' HBL.out)).trans (HR.out i v hv)
      have hs6 := load_dig hr6 HYS.out
      have hth6 := there_block hg6
      rw [HES.out] at hth6
      have HTH6 := Lib.hid hth6
      have HGF6 := Lib.hid (setCells_all hg6 F.toList (by rw [Array.length_toList, HFS.out, HES.out]))
      have hgr6 := setCells_grown d5 F.toList 0 w6
      have HGR6 := Lib.hid hgr6
      have HB6 := Lib.hid (HB.out.trans (hb6'.mono HB.out.size))
      have hd5b : d5 ≠ b' := by
        have h1 := HDS.out.at (List.getElem?_eq_getElem (show q < ds.length by have := HDS.out.1; omega))
        obtain ⟨b3, o3, e3, h3, -⟩ := h1
        cases e3
        have := HRB.out; have := HD5.out; omega
      have hs7 : (Instr.loadAt 23 (.pointer (some ⟨b', off' + q * 32, none⟩))).run Tryz.prog (w6.setCells d5 0 F.toList) = .ok (.agg Yv) (w6.setCells d5 0 F.toList) := load_dig (fun i v hv => (World.cell?_of_block (hgr6.block b' (Nat.lt_of_lt_of_le HBL.out hb6'.size) (fun e => hd5b (Option.some.inj e).symm))).trans (hr6 i v hv)) HYS.out
      have hd5rb : d5 ≠ rb := by have := HD5.out; omega
      have HG07 := Lib.hid ((hgr6.block rb (Array.getElem?_eq_some_iff.1 HG06.out).1 (fun e => hd5rb (Option.some.inj e).symm)).trans HG06.out)
      clear hb6 hb6' hg6 hth6 hgr6 hd5b hr6
      refine hK.out _ _ hs6 (fun hHeld => ?_)
      clear hK K
      (try simp only [Act.put, List.setIfInBounds_toArray, List.set_cons_zero, List.set_cons_succ, List.getElem_toArray, List.getElem_cons_succ, List.getElem_cons_zero])
      refine wpAnyH_ready (rs := [7]) (by kernel_rfl) (by simp) ?_
      refine AllReadyH.cons (o := _) rfl (fun K hK => ?_) AllReadyH.nil
      refine S_store_mid rfl 23 (.tmp 5) (.tmp 31) (by rfl) d5 0 F (by rfl) (by rfl) (by rw [HFS.out]; exact HTH6.out) (by rw [HFS.out]; exact info38) HF1.out ?_
      refine hK.out _ _ hs7 (fun hHeld => ?_)
      clear hK K
      (try simp only [Act.put, List.setIfInBounds_toArray, List.set_cons_zero, List.set_cons_succ, List.getElem_toArray, List.getElem_cons_succ, List.getElem_cons_zero])
      refine wpAnyH_done (by kernel_rfl) ?_ _
      clear hs0 hs6 hs7
      have HB7 := Lib.hid (HB6.out.grown HGR6.out HB6.out.size (fun k hk => by rw [← Option.some.inj hk]; have := HRB.out; have := HD5.out; omega))
      have HG57 := Lib.hid (show (w6.setCells d5 0 F.toList).heap[d5]? = some (.cells (dgA (foldP wd (ds.drop q)).1) 23 (0, 0)) by rw [← HF.out]; simpa using HGF6.out)
      clear h9
      go_wp2_with fail
      refine ⟨⟨q, by have := HQ.out; have := HJ.out; omega, rfl, HG57.out, HG07.out, HB7.out⟩, ?_⟩
      simp [intOf]
    · obtain rfl : j = 0 := by omega
      rw [List.drop_zero] at hg5
      have hth := there_block hg0
      rw [show (dgA zDg.1).size = 32 from rfl] at hth
      have HTH0 := Lib.hid hth
      obtain ⟨E, hE⟩ : ∃ E, E = dgA (foldP wd ds).1 := ⟨_, rfl⟩
      have HE := Lib.hid hE
      have HES := Lib.hid (show E.size = 32 by rw [hE, dgA_size, (foldP wd ds).2])
      have HE1 := Lib.hid (show E.all (·.oneCell') = true by rw [hE]; exact dgA_all _)
      rw [← hE] at hg5
      have HL9 := Lib.hid hg5
      have HGF := Lib.hid (setCells_all hg0 E.toList (by rw [Array.length_toList, HES.out]; rfl))
      rw [show ((0 : Nat) : Int) - 1 = -1 from rfl]
      clear hlt hj hg5 hg0 hb hth hE
      go_wp2_with (first
        | (refine wpList_load_row rfl 23 (.tmp 5) (by rfl) d5 (by rfl) 23 E (0, 0) _ HL9.out Tryz.underlying23 rfl (by rw [HES.out]; exact info38) ?_)
        | (refine wpList_store_mid rfl 23 (.tmp 4) (.tmp 32) (by rfl) rb 0 E (by rfl) (by rfl) (by rw [HES.out]; exact HTH0.out) (by rw [HES.out]; exact info38) HE1.out ?_))
      have HB9 := Lib.hid (HB.out.grown (setCells_grown rb E.toList 0 wr) HB.out.size (fun k hk => by rw [← Option.some.inj hk]; have := HRB.out; omega))
      generalize wr.setCells rb 0 E.toList = w9 at *
      have hGF : w9.heap[rb]? = some (.cells E 23 (0, 0)) := by have := HGF.out; simpa using this
      have HGF9 := Lib.hid hGF
      refine bodyPost_ret (v := .agg E) (results_cell_row (p := 4) (ty := 23) rfl _ _ rb 23 E (0, 0) _ rfl HGF9.out Tryz.underlying23 rfl (by rw [HES.out]; exact info38)) rfl ⟨by rw [HE.out], HB9.out⟩
end Go.Proofs.YtoboabkaojfbaaaGreatDoor
namespace Go.Proofs.YtoboabkaojfbaaaGreatDoor
open Go Go.RowKit
set_option maxRecDepth 100000
set_option maxHeartbeats 8000000
set_option linter.unusedVariables false
set_option linter.unusedSimpArgs false
open Go.Maps Go.WideMaps Go.ChangeMaps
theorem info133 : (Tryz.prog.info? 88).map (·.size) = some 2 := by kernel_rfl
def zSp : Nat × Nat → Dg := fun _ => zDg
def zPart (wd : Int) (p : Nat × Nat) : Dg := foldP wd ((spL p.1 (p.2 - p.1)).map zSp)
theorem digofZ (w : World) (gA gW : Nat) (wd : Int) (hwd : 1 ≤ wd ∧ wd ≤ 32) (hA : w.heap[gA]? = some (.cells #[.func (.func 174) #[] #[]] 89 (0, 0))) (hW : w.heap[gW]? = some (.cells #[.int .i64 wd] 3 (0, 0))) (a b : Nat) (hab : a < b) (hal : Al a (b - a)) (hb6 : b ≤ 1099511627776) (h4 : 4 ≤ w.heap.size) (ht : RoundTab w) (htz : TabAt 3 Lib.deBruijn64tab w)
    (hat : ∀ (wx : World) (q i : Nat), Below w.heap.size w wx → Calls Tryz.prog 174 #[.agg #[.int .i64 (q : Int), .int .i64 (i : Int)]] wx fun e w' => e = .returned (.agg (dgA (zSp (q, i)).1)) ∧ Below wx.heap.size wx w') :
    Calls Tryz.prog 233 #[.agg #[.int .i64 (a : Int), .int .i64 (b : Int)], .pointer (some ⟨gA, 0, none⟩), .pointer (some ⟨gW, 0, none⟩)] w fun e w' => e = .returned (.agg (dgA (zPart wd (a, b)).1)) ∧ Below w.heap.size w w' := by
  obtain ⟨b3, hb3⟩ : ∃ b3, b3 = w.heap.size := ⟨_, rfl⟩
  obtain ⟨w0, hw0⟩ : ∃ w0, w0 = w.alloc (.cells #[.int .i64 (a : Int), .int .i64 (b : Int)] 302) := ⟨_, rfl⟩
  have hb0 : Below w.heap.size w w0 := by rw [hw0]; exact (Below.refl _ _).alloc (Nat.le_refl _) _
  have hz0 : w0.heap.size = b3 + 1 := by rw [hw0, World.size_alloc]; omega
  have hg0 : w0.heap[b3]? = some (.cells #[.int .i64 (a : Int), .int .i64 (b : Int)] 302 (0, 0)) := by rw [hw0, hb3]; exact heap_alloc_new _ _
  obtain ⟨rb, hrb⟩ : ∃ rb, rb = b3 + 1 := ⟨_, rfl⟩
  obtain ⟨w1, hw1⟩ : ∃ w1, w1 = w0.alloc (.cells (dgA zDg.1) 23) := ⟨_, rfl⟩
  have hb1 : Below w.heap.size w w1 := by rw [hw1]; exact hb0.alloc hb0.size _
  have hz1 : w1.heap.size = rb + 1 := by rw [hw1, World.size_alloc]; omega
  have hg1 : w1.heap[rb]? = some (.cells (dgA zDg.1) 23 (0, 0)) := by rw [hw1, hrb, ← hz0]; exact heap_alloc_new _ _
  have hg3 : w1.heap[b3]? = some (.cells #[.int .i64 (a : Int), .int .i64 (b : Int)] 302 (0, 0)) := by rw [hw1]; exact (alOld w0 _ b3 (by omega)).trans hg0
  have p0 := (keepS hg3).1
  have p1 := (keepS hg3).2
  obtain ⟨sp, hsp⟩ : ∃ sp, sp = spL a (b - a) := ⟨_, rfl⟩
  have hlv := spL_level (b - a) (b - a) a (Nat.le_refl _) hal (by omega)
  rw [← hsp] at hlv
  have hle := spL_few (b - a) a (by omega)
  rw [← hsp] at hle
  have hpos : 0 < sp.length := by rw [hsp, spL_pos _ _ (by omega)]; simp
  have hgAl := (Array.getElem?_eq_some_iff.1 hA).1
  have hgWl := (Array.getElem?_eq_some_iff.1 hW).1
  have HSP := Lib.hid (show Calls Tryz.prog 234 #[.int .i64 (a : Int), .int .i64 (b : Int)] w1 (fun e w' => ∃ a' m c, e = .returned (.slice a' m c) ∧ m = sp.length ∧ w'.ownsRow w1.heap.size 88 2 (.slice a' m c) m (sp.flatMap spE) ∧ Below w1.heap.size w1 w') by
    have := spots_any w1 a b (by omega) (by omega) hal (tab_below htz hb1 (by omega)) (by omega)
    rw [← hsp] at this
    exact this)
  have HAT := Lib.hid (fun (wx : World) (hb : Below w.heap.size w wx) (q i : Nat) (hq : (q, i) ∈ sp) => hat wx q i hb)
  have hfo : foldP wd (sp.map (zSp)) = zPart wd (a, b) := by rw [hsp]; rfl
  have HFOLD := Lib.hid (fun (wx : World) (hb : Below w.heap.size w wx) (a' : Option Addr) (m c : Nat) (hds : DS wx a' m c (sp.map (zSp))) (hm : m = sp.length) => hfo ▸ fold_any wx wd (by omega) (by omega) a' m c _ hds (by omega) (by omega) (rt_below ht hb (by omega)) (by have := hb.size; omega))
  have HCA := Lib.hid (show ∀ wx, Below w.heap.size w wx → wx.cell? ⟨gA, 0, none⟩ = some (.func (.func 174) #[] #[]) from fun wx hb => by rw [hb.cell hgAl, cell_of_row _ _ _ _ _ _ hA]; rfl)
  have HCW := Lib.hid (show ∀ wx, Below w.heap.size w wx → wx.cell? ⟨gW, 0, none⟩ = some (.int .i64 wd) from fun wx hb => by rw [hb.cell hgWl, cell_of_row _ _ _ _ _ _ hW]; rfl)
  have HB1 := Lib.hid hb1; have HG1 := Lib.hid hg1; have HRB := Lib.hid (show w.heap.size ≤ rb by omega)
  have HN := Lib.hid (And.intro hab (And.intro hb6 (And.intro hle hpos)))
  have hw0' : w.alloc (.cells #[.int .i64 (a : Int), .int .i64 (b : Int)] 302) = w0 := hw0.symm
  have hw1' : w0.alloc (.cells #[.int .u8 0, .int .u8 0, .int .u8 0, .int .u8 0, .int .u8 0, .int .u8 0, .int .u8 0, .int .u8 0, .int .u8 0, .int .u8 0, .int .u8 0, .int .u8 0, .int .u8 0, .int .u8 0, .int .u8 0, .int .u8 0, .int .u8 0, .int .u8 0, .int .u8 0, .int .u8 0, .int .u8 0, .int .u8 0, .int .u8 0, .int .u8 0, .int .u8 0, .int .u8 0, .int .u8 0, .int .u8 0, .int .u8 0, .int .u8 0, .int .u8 0, .int .u8 0] 23) = w1 := hw1.symm
  have hb3' : w.heap.size = b3 := hb3.symm
  have hz0' : w0.heap.size = rb := by omega
  clear hb3 hw0 hb0 hz0 hg0 hrb hw1 hb1 hz1 hg1 hg3 hlv hle hpos hA hW hgAl hgWl hfo h4 ht htz hat hab hal hb6 hsp
  go_enter Tryz.func233, Tryz.ntmps233
  go_wp2_with (go_at_call 234; refine HSP.out.mono ?_; rintro e w3 ⟨a', m, c, rfl, hm, ho, hb3⟩; have HM := Lib.hid hm; have HO := Lib.hid ho; have HB3 := Lib.hid (HB1.out.trans (hb3.mono HB1.out.size)); have HG3 := Lib.hid ((hb3.block rb (Array.getElem?_eq_some_iff.1 HG1.out).1).trans HG1.out); clear hm ho hb3)
  obtain ⟨gs, cs, hsl, hgs, -⟩ := HO.out.form (by rw [HM.out]; exact HN.out.2.2.2)
  obtain ⟨rfl, -, rfl⟩ := Value.slice.inj hsl
  have hrs : RS 2 spE w3 (some ⟨gs, 0, none⟩) m c sp := RS.of_owns HO.out (by decide) (fun _ => rfl) (by have := HM.out; have := HN.out; omega)
  have HRS := Lib.hid hrs
  clear hrs hsl hgs hw1' hz0' p0 p1 hw0'
  have HW := Lib.hid hb3'
  clear hb3'
  go_loopw [5, 14] (fun v u wr => ∃ k : Nat, k ≤ m ∧ u = .int .i64 (k : Int) ∧ wr.ownsRow w3.heap.size 23 32 v k (((sp.take k).map (zSp)).flatMap dgE) ∧ Below w3.heap.size w3 wr) (fun _ u _ => m - (intOf u).toNat)
  case atStart => exact ⟨0, Nat.zero_le _, rfl, World.ownsRow_nil _ _ _ _, Below.refl _ _⟩
  case round =>
    obtain ⟨k, hk, rfl, ho, hb⟩ := hrel
    have HO := Lib.hid ho; have HB := Lib.hid hb; have HK := Lib.hid hk
    by_cases hlt : k < m
    · obtain ⟨s, hs⟩ : ∃ s, sp[k]? = some s := ⟨_, List.getElem?_eq_getElem (by have := HM.out; omega)⟩
      obtain ⟨q, i⟩ := s
      have hmem : (q, i) ∈ sp := List.mem_of_getElem? hs
      obtain ⟨E, hE⟩ : ∃ E, E = dgA (zSp (q, i)).1 := ⟨_, rfl⟩
      have hES : E.size = 32 := by rw [hE, dgA_size, (zSp (q, i)).2]
      have HE1 := Lib.hid (show ∀ u ∈ E.toList, u.oneCell' = true from fun u hu => by
        rw [hE] at hu
        exact Array.all_eq_true'.1 (dgA_all _) u (Array.mem_toList_iff.1 hu))
      obtain ⟨D, hD⟩ : ∃ D : Array Value, D = #[.int .i64 (q : Int), .int .i64 (i : Int)] := ⟨_, rfl⟩
      have hDS : D.size = 2 := by rw [hD]; rfl
      have HD1 := Lib.hid (show D.all (·.oneCell') = true by rw [hD]; exact all_oneCell_toArray (cs := [.int .i64 (q : Int), .int .i64 (i : Int)]) (by intro v hv; simp only [List.mem_cons, List.not_mem_nil, or_false] at hv; rcases hv with rfl | rfl <;> rfl))
      have hat := fun (wx : World) (hb : Below w.heap.size w wx) => HAT.out wx hb q i hmem
      rw [← hD, ← hE] at hat
      have HATK := Lib.hid hat
      have hr : wr.rangeAt gs (0 + k * 2) #[.int .i64 (q : Int), .int .i64 (i : Int)].toList := fun j v hv => (hb.cell (World.block_lt_of_cell? w3 _ (HRS.out.cell k (q, i) hs j v hv))).trans (HRS.out.cell k (q, i) hs j v hv)
      rw [← hD] at hr
      obtain ⟨r0, hr0⟩ : ∃ r0, r0 = wr.heap.size := ⟨_, rfl⟩
      obtain ⟨w4, hw4⟩ : ∃ w4, w4 = wr.alloc (.cells #[.int .i64 0, .int .i64 0] 88) := ⟨_, rfl⟩
      have hO4 : w4.heap[r0]? = some (.cells #[.int .i64 0, .int .i64 0] 88 (0, 0)) := by rw [hw4, hr0]; exact heap_alloc_new _ _
      have hth : w4.there r0 0 2 := there_block hO4
      have h1 := setCells_all hO4 D.toList (by rw [Array.length_toList, hDS]; rfl)
      have hb4 : Below wr.heap.size wr w4 := by rw [hw4]; exact (Below.refl _ _).alloc (Nat.le_refl _) _
      have hb5 : Below wr.heap.size wr (w4.setCells r0 0 D.toList) := hb4.grown (setCells_grown _ _ _ _) hb4.size (fun k hk => by rw [← Option.some.inj hk]; omega)
      have HB5 := Lib.hid hb5
      have HG5 := Lib.hid (show (w4.setCells r0 0 D.toList).heap[r0]? = some (.cells D 88 (0, 0)) by simpa using h1)
      have HDS := Lib.hid hDS
      have HTH := Lib.hid hth
      have HR := Lib.hid hr
      have HES := Lib.hid hES
      have HMEM := Lib.hid hmem
      have HHE := Lib.hid hE
      have HS := Lib.hid (show (((sp.take (k + 1)).map (zSp)).flatMap dgE) = ((sp.take k).map (zSp)).flatMap dgE ++ E.toList by
        rw [List.take_add_one, hs, hE]; simp [dgE, dgA])
      have hw4' : wr.alloc (.cells #[.int .i64 0, .int .i64 0] 88) = w4 := hw4.symm
      have hr0' : wr.heap.size = r0 := hr0.symm
      have h9 : decide ((k : Int) < (m : Int)) = true := by simp; omega
      have h8 : decide (k < m) = true := by simp; omega
      have HLT := Lib.hid hlt
      have hk6 : k ≤ 1000000 := by have := HM.out; have := HN.out; omega
      have HK6 := Lib.hid hk6
      have q1 := HCA.out _ (HB3.out.trans ((hb.trans (hb5.mono hb.size)).mono HB3.out.size))
      clear hk ho hb hlt hs hmem hE hES hr hr0 hw4 hO4 hth h1 hb4 hb5 hD hDS hat
      go_wp2_with (first
        | (refine L_load_arr rfl 88 (.tmp 16) (by rfl) gs (0 + k * 2) (by simp only [Nat.zero_add]; rfl) D _ HR.out Tryz.underlying88 rfl (by rw [HDS.out]; exact info133) ?_)
        | (refine wpList_store_mid rfl 88 (.tmp 7) (.tmp 17) (by rfl) r0 0 D (by rfl) (by rfl) (by rw [HDS.out]; exact HTH.out) (by rw [HDS.out]; exact info133) HD1.out ?_)
        | (refine wpList_load_row rfl 88 (.tmp 7) (by rfl) r0 (by rfl) 88 D (0, 0) _ HG5.out Tryz.underlying88 rfl (by rw [HDS.out]; exact info133) ?_)
        | (go_at_call 174; refine (HATK.out _ (HB3.out.trans ((HB.out.trans (HB5.out.mono HB.out.size)).mono HB3.out.size))).mono ?_; rintro e w6 ⟨rfl, hb6⟩; have HB6 := Lib.hid (HB5.out.trans (hb6.mono HB5.out.size)); clear hb6)
        | (refine L_build1 rfl (.tmp 21) (by rfl) E (by rfl) HES.out ?_; have ho6 := (own_below HO.out HB6.out).alloc (.cells E 23); have hc6 : ∀ j u, E.toList[j]? = some u → (w6.alloc (.cells E 23)).cell? ((⟨w6.heap.size, 0, none⟩ : Addr).add j) = some u := fun j u hu => cellA E 23 w6 j u hu; have hb6 := HB6.out.alloc HB6.out.size (.cells E 23); have hs6 : w3.heap.size ≤ (w6.alloc (.cells E 23)).heap.size := Nat.le_trans HB.out.size hb6.size; refine L_appendN rfl (.tmp 18) (.tmp 22) 29 (by rfl) sl23 w3.heap.size _ k _ (by rfl) ho6 ⟨w6.heap.size, 0, none⟩ 1 1 E.toList (by rfl) (by rw [Array.length_toList, HES.out]) hc6 HE1.out (by have := HK6.out; omega) (by have := HK6.out; simp [maxLen]; omega) hs6 (fun a8 c8 w8 ho8 hg8 hat8 => ?_); have HO8 := Lib.hid ho8; have HB8 := Lib.hid ((HB.out.trans (hb6.mono HB.out.size)).grown hg8 (Nat.le_trans HB.out.size hb6.size) (fun k hk => (ho6.lt k hk).1)); clear ho8 hg8 hat8 ho6 hc6 hb6 hs6))
      refine ⟨⟨k + 1, HLT.out, by push_cast; rfl, by rw [HS.out]; exact HO8.out, HB8.out⟩, ?_⟩
      have := HLT.out
      simp [intOf]; omega
    · obtain rfl : k = m := by omega
      have htk : sp.take k = sp := List.take_of_length_le (by rw [HM.out]; exact Nat.le_refl _)
      rw [htk] at ho
      obtain ⟨g7, c7, rfl, hg7, -⟩ := ho.form (by rw [HM.out]; exact HN.out.2.2.2)
      have hds := DS.of_owns ho (by have := HM.out; have := HN.out; omega)
      have hbw := HB3.out.trans (hb.mono HB3.out.size)
      obtain ⟨E, hE⟩ : ∃ E, E = dgA (zPart wd (a, b)).1 := ⟨_, rfl⟩
      have hfo := HFOLD.out wr hbw _ _ _ hds HM.out
      rw [← hE] at hfo
      have HFO := Lib.hid hfo
      have HE := Lib.hid hE
      have HES := Lib.hid (show E.size = 32 by rw [hE, dgA_size, (zPart wd (a, b)).2])
      have HE1 := Lib.hid (show E.all (·.oneCell') = true by rw [hE]; exact dgA_all _)
      have c3 := HCW.out wr hbw
      have HBW := Lib.hid hbw
      have HGR := Lib.hid ((hb.block rb (Array.getElem?_eq_some_iff.1 HG3.out).1).trans HG3.out)
      have h9 : decide ((k : Int) < (k : Int)) = false := by simp
      have h8 : decide (k < k) = false := by simp
      clear ho hb hbw hds hfo hE hlt hk htk hg7
      go_wp2_with (first
        | (go_at_call 235; refine HFO.out.mono ?_; rintro e w6 ⟨rfl, hb6⟩; have HB6 := Lib.hid (HBW.out.trans (hb6.mono HBW.out.size)); have HG6 := Lib.hid ((hb6.block rb (Array.getElem?_eq_some_iff.1 HGR.out).1).trans HGR.out); have HTH6 := Lib.hid (there_block HG6.out); clear hb6)
        | (refine wpList_store_mid rfl 23 (.tmp 4) (.tmp 27) (by rfl) rb 0 E (by rfl) (by rfl) (by rw [HES.out]; exact HTH6.out) (by rw [HES.out]; exact info38) HE1.out ?_))
      have HGF := Lib.hid (setCells_all HG6.out E.toList (by rw [Array.length_toList, HES.out]; rfl))
      have HB9 := Lib.hid (HB6.out.grown (setCells_grown rb E.toList 0 w6) HB6.out.size (fun k hk => by rw [← Option.some.inj hk]; exact HRB.out))
      have HGF9 := Lib.hid (show (w6.setCells rb 0 E.toList).heap[rb]? = some (.cells E 23 (0, 0)) by have := HGF.out; simpa using this)
      generalize w6.setCells rb 0 E.toList = w9 at *
      clear HTH6 HGF
      refine bodyPost_ret (v := .agg E) (results_cell_row (p := 4) (ty := 23) rfl _ _ rb 23 E (0, 0) _ rfl HGF9.out Tryz.underlying23 rfl (by rw [HES.out]; exact info38)) rfl ⟨by rw [HE.out], HB9.out⟩
end Go.Proofs.YtoboabkaojfbaaaGreatDoor
