import Derived.Test.YtoboabkaojfbaaaGreatDoorQ17
import Derived.Test.YtoboabkaojfbaaaGreatDoorQ22
namespace Go.Proofs.YtoboabkaojfbaaaGreatDoor
open Go Go.RowKit
set_option maxRecDepth 100000
set_option maxHeartbeats 1000000
set_option linter.unusedVariables false
set_option linter.unusedSimpArgs false

open Go.Maps Go.WideMaps Go.ChangeMaps
/-- All stays but a climber and a box. -/
structure FrL (w w' : World) (gc lb : Nat) : Prop where
  b : Below 0 w w'
  blk : ∀ k, k < w.heap.size → k ≠ gc → k ≠ lb → w'.heap[k]? = w.heap[k]?
theorem FrL.refl (w : World) (gc lb : Nat) : FrL w w gc lb := ⟨Below.refl _ _, fun _ _ _ _ => rfl⟩
theorem climb_take (wd : Int) (i : Nat) (Z : List ((Nat × Nat) × Dg)) (leaf : Dg) (k : Nat) (x : (Nat × Nat) × Dg) (h : Z[k]? = some x) : climbW wd i (Z.take (k + 1)) leaf = climbS wd i (climbW wd i (Z.take k) leaf) x := by
  unfold climbW
  rw [List.take_add_one, h, List.foldl_append]
  rfl
set_option maxHeartbeats 16000000
theorem include_any (w : World) (gc : Nat) (wd : Int) (h0 : -9223372036854775808 ≤ wd) (h1 : wd ≤ 9223372036854775807) (hg : w.heap[gc]? = some (.cells #[.int .i64 wd, .slice none 0 0] 228 (0, 0))) (size i : Nat) (hi : i < size) (hs : size ≤ 1099511627776) (leaf : Dg) (a : Option Addr) (n c : Nat) (ds : List Dg) (hds : DS w a n c ds) (hn : n = (wayP size 0 size i).length) (hap : ∀ x, a = some x → 0 < n → x.block ≠ gc) (ht : RoundTab w) (hgc : 1 < gc) :
    Calls Tryz.prog 156 #[.pointer (some ⟨gc, 0, none⟩), .int .i64 (size : Int), .int .i64 (i : Int), .agg (dgA leaf.1), .slice a n c] w fun e w' => e = .returned (.tuple #[.agg (dgA (climbW wd i ((wayP size 0 size i).reverse.zip ds) leaf).1), .int .i64 0]) ∧ FrC w w' gc none := by
  have hlt : gc < w.heap.size := (Array.getElem?_eq_some_iff.1 hg).1
  have hnl : n ≤ 60000 := by
    have := way_len40 (i := i) size 0 size (by omega)
    omega
  obtain ⟨X0, hX0⟩ : ∃ X0, X0 = leaf := ⟨_, rfl⟩
  obtain ⟨A0, hA0⟩ : ∃ A0, A0 = dgA leaf.1 := ⟨_, rfl⟩
  obtain ⟨l, hl⟩ : ∃ l, l = (wayP size 0 size i).reverse := ⟨_, rfl⟩
  have hln : l.length = n := by rw [hl, List.length_reverse, hn]
  rw [← hl]
  obtain ⟨lb, hlb⟩ : ∃ lb, lb = w.heap.size := ⟨_, rfl⟩
  obtain ⟨ra, hra⟩ : ∃ ra, ra = lb + 1 := ⟨_, rfl⟩
  obtain ⟨w0, hw0⟩ : ∃ w0, w0 = w.alloc (.cells A0 23) := ⟨_, rfl⟩
  obtain ⟨w1, hw1⟩ : ∃ w1, w1 = w0.alloc (.cells (dgA zDg.1) 23) := ⟨_, rfl⟩
  have hb0 : Below w.heap.size w w0 := by rw [hw0]; exact bel1 _ _
  have hz0 : w0.heap.size = ra := by rw [hw0, World.size_alloc]; omega
  have hb1 : Below w.heap.size w w1 := by rw [hw1]; exact hb0.alloc hb0.size _
  have hz1 : w1.heap.size = ra + 1 := by rw [hw1, World.size_alloc]; omega
  have hgl : w1.heap[lb]? = some (.cells A0 23 (0, 0)) := by rw [hw1]; exact (alOld w0 _ lb (by omega)).trans (by rw [hw0, hlb]; exact heap_alloc_new _ _)
  have hgr : w1.heap[ra]? = some (.cells (dgA zDg.1) 23 (0, 0)) := by rw [hw1, ← hz0]; exact heap_alloc_new _ _
  have HIN := Lib.hid (fun wx => inside_any wx size i hi (by omega))
  have HWY := Lib.hid (fun wx => show Calls Tryz.prog 209 #[.int .i64 (size : Int), .int .i64 (i : Int)] wx (fun e w' => ∃ av c3, e = .returned (.slice av n c3) ∧ RS 2 spE w' av n c3 l ∧ (∀ x, av = some x → 0 < n → wx.heap.size ≤ x.block) ∧ Below wx.heap.size wx w') by
    refine (way_any wx size i hi (by omega)).mono ?_
    rintro e w' ⟨v, rfl, hp, hb⟩
    rw [← hl] at hp
    unfold PO at hp
    rw [hln] at hp
    obtain ⟨av, c3, rfl, -⟩ := owns_shape hp
    refine ⟨av, c3, rfl, RS.of_owns hp (by decide) (fun _ => rfl) (by omega), fun x hx h0 => ?_, hb⟩
    obtain ⟨gs, cs, hsl, hgs, -⟩ := hp.form h0
    obtain ⟨rfl, -, -⟩ := Value.slice.inj hsl
    cases hx; exact hgs)
  have HH := Lib.hid (And.intro h0 (And.intro h1 (And.intro hgc (And.intro hnl ht))))
  have HDS := Lib.hid hds; have HAP := Lib.hid hap; have HLN := Lib.hid hln; have HG := Lib.hid hg; have HLT := Lib.hid hlt
  have HB1 := Lib.hid hb1; have HGL := Lib.hid hgl; have HGR := Lib.hid hgr; have HZ1 := Lib.hid hz1
  have HNE := Lib.hid (show lb ≠ gc ∧ ra ≠ gc ∧ ra = lb + 1 ∧ w.heap.size = lb by omega)
  have HA0 := Lib.hid hA0
  have hw0' : w.alloc (.cells A0 23) = w0 := hw0.symm
  have hw1' : w0.alloc (.cells #[.int .u8 0, .int .u8 0, .int .u8 0, .int .u8 0, .int .u8 0, .int .u8 0, .int .u8 0, .int .u8 0, .int .u8 0, .int .u8 0, .int .u8 0, .int .u8 0, .int .u8 0, .int .u8 0, .int .u8 0, .int .u8 0, .int .u8 0, .int .u8 0, .int .u8 0, .int .u8 0, .int .u8 0, .int .u8 0, .int .u8 0, .int .u8 0, .int .u8 0, .int .u8 0, .int .u8 0, .int .u8 0, .int .u8 0, .int .u8 0, .int .u8 0, .int .u8 0] 23) = w1 := hw1.symm
  have hz0' : w0.heap.size = ra := hz0
  have hlb' : w.heap.size = lb := hlb.symm
  rw [← hA0]
  obtain ⟨Z, hZ⟩ : ∃ Z, Z = l.zip ds := ⟨_, rfl⟩
  rw [← hZ]
  have HZZ := Lib.hid hZ
  clear hZ
  clear h0 h1 hg hi hs hds hn hap ht hgc hlt hnl hl hln hlb hra hw0 hw1 hb0 hz0 hb1 hz1 hgl hgr hA0 hX0
  go_enter Tryz.func156, Tryz.ntmps156
  go_wp2_with (first
    | (go_at_call 208; refine (HIN.out _).mono ?_; rintro e wx ⟨rfl, hw⟩; have hw := hw.symm; subst hw)
    | (go_at_call 209; refine (HWY.out _).mono ?_; rintro e w3 ⟨av, c3, rfl, hrs, hbl, hb3⟩; have HRS := Lib.hid hrs; have HBL3 := Lib.hid hbl; have HB3 := Lib.hid (HB1.out.trans (hb3.mono HB1.out.size)); have HB13 := Lib.hid hb3; clear hrs hbl hb3))
  have HW := Lib.hid hlb'
  clear hw0' hw1' hz0' hlb'
  have HSZ3 := Lib.hid (show ra + 1 ≤ w3.heap.size ∧ gc < w3.heap.size ∧ 4 ≤ w3.heap.size by have := HZ1.out; have := HB13.out.size; have := HLT.out; have := HNE.out; have := HH.out; omega)
  have HG3 := Lib.hid ((HB3.out.block gc HLT.out).trans HG.out)
  have HGL3 := Lib.hid ((HB13.out.block lb (by have := HZ1.out; have := HNE.out; omega)).trans HGL.out)
  have HGR3 := Lib.hid ((HB13.out.block ra (by have := HZ1.out; omega)).trans HGR.out)
  go_loopw [31] (fun v wr => ∃ k : Nat, k ≤ n ∧ v = .int .i64 (k : Int) ∧ wr.heap[lb]? = some (.cells (dgA (climbW wd i (Z.take k) leaf).1) 23 (0, 0)) ∧ wr.heap[ra]? = some (.cells (dgA zDg.1) 23 (0, 0)) ∧ (∃ tv, ClimbAt wr w3.heap.size gc wd k tv) ∧ FrL w3 wr gc lb) (fun v _ => n - (intOf v).toNat)
  case atStart => exact ⟨0, Nat.zero_le _, rfl, by rw [List.take_zero]; show w3.heap[lb]? = some (.cells (dgA leaf.1) 23 (0, 0)); rw [← HA0.out]; exact HGL3.out, HGR3.out, ⟨_, HG3.out, [], World.ownsRow_nil _ _ _ _, fun u hu => by cases hu⟩, FrL.refl _ _ _⟩
  case round =>
    obtain ⟨k, hk, rfl, hlbr, hrar, ⟨tv, hcl⟩, hfl⟩ := hrel
    by_cases hlt : k < n
    · obtain ⟨p, hp⟩ : ∃ p, l[k]? = some p := ⟨_, List.getElem?_eq_getElem (by have := HLN.out; omega)⟩
      obtain ⟨y, hy⟩ : ∃ y, ds[k]? = some y := ⟨_, List.getElem?_eq_getElem (by have := HDS.out.1; omega)⟩
      obtain ⟨pa, pb⟩ := p
      have hzk : Z[k]? = some ((pa, pb), y) := by rw [HZZ.out, List.getElem?_zip_eq_some]; exact ⟨hp, hy⟩
      obtain ⟨gs, off, rfl, hcs⟩ := HRS.out.2.2.2 k (pa, pb) hp
      obtain ⟨b', off', rfl, hbl, hr⟩ := HDS.out.at hy
      have hgs : w1.heap.size ≤ gs := HBL3.out _ rfl (by omega)
      have hbn : b' ≠ gc := HAP.out _ rfl (by omega)
      have hgs3 : gs < w3.heap.size := World.block_lt_of_cell? w3 _ (hcs 0 (.int .i64 (pa : Int)) rfl)
      have hb'3 : b' < w3.heap.size := Nat.lt_of_lt_of_le hbl HB3.out.size
      have hrp : wr.rangeAt gs (off + k * 2) #[.int .i64 (pa : Int), .int .i64 (pb : Int)].toList := fun j v hv => (World.cell?_of_block (hfl.blk gs hgs3 (by have := HZ1.out; have := HLT.out; have := HNE.out; omega) (by have := HZ1.out; have := HNE.out; omega))).trans (hcs j v hv)
      have hrd : wr.rangeAt b' (off' + k * 32) (y.1.map b8) := fun j v hv => (World.cell?_of_block ((hfl.blk b' hb'3 hbn (by have := HNE.out; omega)).trans (HB3.out.block b' hbl))).trans (hr j v hv)
      obtain ⟨Yv, hYv⟩ : ∃ Yv, Yv = dgA y.1 := ⟨_, rfl⟩
      have hYS : Yv.size = 32 := by rw [hYv, dgA_size, y.2]
      have hrd : wr.rangeAt b' (off' + k * 32) Yv.toList := by rw [hYv]; simpa [dgA] using hrd
      obtain ⟨X0, hX0⟩ : ∃ X0, X0 = climbW wd i (Z.take k) leaf := ⟨_, rfl⟩
      obtain ⟨X, hX⟩ : ∃ X, X = dgA X0.1 := ⟨_, rfl⟩
      rw [← hX0, ← hX] at hlbr
      have hXS : X.size = 32 := by rw [hX, dgA_size, X0.2]
      obtain ⟨F, hF⟩ : ∃ F, F = dgA (climbW wd i (Z.take (k + 1)) leaf).1 := ⟨_, rfl⟩
      have HFS := Lib.hid (show F.size = 32 by rw [hF, dgA_size, (climbW wd i (Z.take (k + 1)) leaf).2])
      have HF1 := Lib.hid (show F.all (·.oneCell') = true by rw [hF]; exact dgA_all _)
      have HF := Lib.hid hF
      have HST := Lib.hid (show climbW wd i (Z.take (k + 1)) leaf = climbS wd i X0 ((pa, pb), y) by rw [climb_take wd i Z leaf k _ hzk, hX0])
      have HX := Lib.hid hX; have HXS := Lib.hid hXS; have HY := Lib.hid hYv; have HYS := Lib.hid hYS
      obtain ⟨D, hD⟩ : ∃ D : Array Value, D = #[.int .i64 (pa : Int), .int .i64 (pb : Int)] := ⟨_, rfl⟩
      have hDS : D.size = 2 := by rw [hD]; rfl
      have HD1 := Lib.hid (show D.all (·.oneCell') = true by rw [hD]; exact all_oneCell_toArray (cs := [.int .i64 (pa : Int), .int .i64 (pb : Int)]) (by intro v hv; simp only [List.mem_cons, List.not_mem_nil, or_false] at hv; rcases hv with rfl | rfl <;> rfl))
      rw [← hD] at hrp
      have HRP := Lib.hid hrp; have HDS2 := Lib.hid hDS
      obtain ⟨r0, hr0⟩ : ∃ r0, r0 = wr.heap.size := ⟨_, rfl⟩
      obtain ⟨w4, hw4⟩ : ∃ w4, w4 = wr.alloc (.cells #[.int .i64 0, .int .i64 0] 302) := ⟨_, rfl⟩
      have hO4 : w4.heap[r0]? = some (.cells #[.int .i64 0, .int .i64 0] 302 (0, 0)) := by rw [hw4, hr0]; exact heap_alloc_new _ _
      have HTH := Lib.hid (show w4.there r0 0 2 from there_block hO4)
      have h1 := setCells_all hO4 D.toList (by rw [Array.length_toList, hDS]; rfl)
      have hb4 : Below wr.heap.size wr w4 := by rw [hw4]; exact bel1 _ _
      have hb5 : Below wr.heap.size wr (w4.setCells r0 0 D.toList) := hb4.grown (setCells_grown _ _ _ _) hb4.size (fun k hk => by rw [← Option.some.inj hk]; omega)
      have hg5 : (w4.setCells r0 0 D.toList).heap[r0]? = some (.cells D 302 (0, 0)) := by simpa using h1
      have hw4' : wr.alloc (.cells #[.int .i64 0, .int .i64 0] 302) = w4 := hw4.symm
      have hr0' : wr.heap.size = r0 := hr0.symm
      have HB5 := Lib.hid hb5; have HG5 := Lib.hid hg5
      have h9 : decide ((k : Int) < (n : Int)) = true := by simp; omega
      have h8 : decide (k < n) = true := by simp; omega
      have hk6 : k ≤ 1000000 := by have := HH.out; omega
      have HKN := Lib.hid hlt; have HFL := Lib.hid hfl; have HLBR := Lib.hid hlbr; have HRAR := Lib.hid hrar; have HCL := Lib.hid hcl; have HRD := Lib.hid hrd
      have HBL := Lib.hid (show b' < w3.heap.size ∧ b' ≠ gc ∧ b' ≠ lb from ⟨hb'3, hbn, by have := HNE.out; omega⟩)
      have hcap := HDS.out.2.1
      have HD := Lib.hid hD
      clear hk hp hy hzk hcs hbl hr hgs hbn hgs3 hb'3 hrp hrd hYv hYS hX0 hX hXS hF hD hDS hr0 hw4 hO4 h1 hb4 hb5 hg5 hlbr hrar hcl hfl
      go_upto_region 9 with (first
        | (refine L_load_arr rfl 302 (.tmp 34) (by rfl) gs (off + k * 2) (by rfl) D _ HRP.out Tryz.underlying302 rfl (by rw [HDS2.out]; exact info300) ?_)
        | (refine wpList_store_mid rfl 302 (.tmp 14) (.tmp 35) (by rfl) r0 0 D (by rfl) (by rfl) (by rw [HDS2.out]; exact HTH.out) (by rw [HDS2.out]; exact info300) HD1.out ?_))
      clear hw4' h9 h8
      generalize w4.setCells r0 0 D.toList = w5 at *
      have hbr : ∀ j, j < w3.heap.size → w5.heap[j]? = wr.heap[j]? := fun j hj => HB5.out.block j (Nat.lt_of_lt_of_le hj HFL.out.b.size)
      have hsz5 : w3.heap.size ≤ w5.heap.size := Nat.le_trans HFL.out.b.size HB5.out.size
      have HSZ5 := Lib.hid hsz5
      have HLBS := Lib.hid (show lb < w3.heap.size by have := HSZ3.out; have := HNE.out; omega)
      have HRAS := Lib.hid (show ra < w3.heap.size by have := HSZ3.out; omega)
      have HLB5 := Lib.hid ((hbr lb HLBS.out).trans HLBR.out)
      have HRA5 := Lib.hid ((hbr ra HRAS.out).trans HRAR.out)
      have HCL5 := Lib.hid (show ClimbAt w5.drew w3.heap.size gc wd k tv from HCL.out.below (w' := w5.drew) ⟨HB5.out.os, HB5.out.tape, HB5.out.output, HB5.out.size, HB5.out.block⟩)
      have HOB := Lib.hid (show ∀ j, tv.ownBlock = some j → w3.heap.size ≤ j from fun j hj => by obtain ⟨xs, ho, -⟩ := HCL.out.2; exact (ho.lt j hj).1)
      have HFL5 := Lib.hid (show FrL w3 w5 gc lb from ⟨HFL.out.b.trans (HB5.out.mono (Nat.zero_le _)), fun j hj h1 h2 => (hbr j hj).trans (HFL.out.blk j hj h1 h2)⟩)
      have HT5 := Lib.hid (show RoundTab w5.drew from fun q hq => (World.cell?_of_block (w := w) (w' := w5.drew) ((HFL5.out.blk 1 (by have := HSZ3.out; omega) (by have := HH.out; omega) (by have := HNE.out; have := HLT.out; have := HH.out; omega)).trans (HB3.out.block 1 (by have := HLT.out; have := HH.out; omega)))).trans (HH.out.2.2.2.2 q hq))
      have HR5 := Lib.hid (show w5.rangeAt b' (off' + k * 32) Yv.toList from fun j v hv => (World.cell?_of_block (hbr b' HBL.out.1)).trans (HRD.out j v hv))
      have HLD := Lib.hid (show (fun x => (Instr.loadAt 23 (.pointer (some ⟨b', off' + k * 32, none⟩))).run Tryz.prog x = .ok (.agg Yv) x) w5.drew from load_dig (w := w5.drew) HR5.out HYS.out)
      have hg5 := HG5.out
      rw [HD.out] at hg5
      have c0 : w5.cell? ⟨r0, 0, none⟩ = some (.int .i64 (pa : Int)) := by rw [cell_of_row _ _ _ _ _ _ hg5]; rfl
      have hkn : k < n := HKN.out
      clear hbr hsz5 hg5
      by_cases hside : i < pa
      · skip
        have d3 : decide ((i : Int) < (pa : Int)) = true := by simp; omega
        have d4 : decide (i < pa) = true := by simp; omega
        have d5 : decide ((pa : Int) > (i : Int)) = true := by simp; omega
        have hF : F = dgA (nodeD wd X0 y).1 := by
          rw [HF.out, HST.out]
          unfold climbS
          rw [if_pos (by first | exact hside | (intro q; exact hside q))]
        have HND := Lib.hid (show Calls Tryz.prog 210 #[.pointer (some ⟨gc, 0, none⟩), .agg X, .agg Yv] w5.drew (fun e w' => e = .returned (.agg F) ∧ CnOut w5.drew w' w3.heap.size gc k wd tv) by
          rw [hF, HX.out, HY.out]
          exact cnode_any w5.drew w3.heap.size gc k tv wd HH.out.1 HH.out.2.1 HCL5.out (by have := HH.out; omega) HSZ5.out X0 y HT5.out (by have := HH.out; have := HSZ3.out; omega) HH.out.2.2.1)
        clear hside hF
        have hs0 : (fun x => (Instr.loadAt 23 (.pointer (some ⟨b', off' + k * 32, none⟩))).run Tryz.prog x = .ok (.agg Yv) x) w5.drew := HLD.out
        go_upto_region 10 with (fail)
        refine wp_region_held_drew (S := fun x => (Instr.loadAt 23 (.pointer (some ⟨b', off' + k * 32, none⟩))).run Tryz.prog x = .ok (.agg Yv) x) (by kernel_rfl) hs0 (fun hHeld => ?_)
        refine wpAnyH_take (i := 0) (oi := _) (v := ?_) rfl (by kernel_rfl) (by kernel_rfl) (by kernel_rfl) (fun _ _ _ h => h) (Or.inl ⟨by rfl, ?_⟩) (by assumption) ?_
        rotate_left
        · intro w hSw
          (try dsimp only at hSw)
          go_simp
          all_goals (first | done | with_reducible rfl)
        (try simp only [Act.put, List.setIfInBounds_toArray, List.set_cons_zero, List.set_cons_succ, List.getElem_toArray, List.getElem_cons_succ, List.getElem_cons_zero])
        refine wpAnyH_take (i := 2) (oi := _) (v := ?_) rfl (by kernel_rfl) (by kernel_rfl) (by kernel_rfl) (fun _ _ _ h => h) (Or.inl ⟨by rfl, ?_⟩) (by assumption) ?_
        rotate_left
        · intro w hSw
          (try dsimp only at hSw)
          go_simp
          all_goals (first | done | with_reducible rfl)
        (try simp only [Act.put, List.setIfInBounds_toArray, List.set_cons_zero, List.set_cons_succ, List.getElem_toArray, List.getElem_cons_succ, List.getElem_cons_zero])
        refine wpAnyH_take (i := 3) (oi := _) (v := ?_) rfl (by kernel_rfl) (by kernel_rfl) (by kernel_rfl) (fun _ _ _ h => h) (Or.inl ⟨by rfl, ?_⟩) (by assumption) ?_
        rotate_left
        · intro w hSw
          (try dsimp only at hSw)
          go_simp
          all_goals (first | done | with_reducible rfl)
        (try simp only [Act.put, List.setIfInBounds_toArray, List.set_cons_zero, List.set_cons_succ, List.getElem_toArray, List.getElem_cons_succ, List.getElem_cons_zero])
        refine wpAnyH_take (i := 4) (oi := _) (v := ?_) rfl (by kernel_rfl) (by kernel_rfl) (by kernel_rfl) (fun _ _ _ h => h) (Or.inl ⟨by rfl, ?_⟩) (by assumption) ?_
        rotate_left
        · intro w hSw
          (try dsimp only at hSw)
          go_simp
          all_goals (first | done | with_reducible rfl)
        (try simp only [Act.put, List.setIfInBounds_toArray, List.set_cons_zero, List.set_cons_succ, List.getElem_toArray, List.getElem_cons_succ, List.getElem_cons_zero])
        refine wpAnyH_take (i := 5) (oi := _) (v := .agg Yv) rfl (by kernel_rfl) (by kernel_rfl) (by kernel_rfl) (fun _ _ _ h => h) (Or.inl ⟨by rfl, fun w hSw => exec_load rfl (hSw)⟩) (by assumption) ?_
        (try simp only [Act.put, List.setIfInBounds_toArray, List.set_cons_zero, List.set_cons_succ, List.getElem_toArray, List.getElem_cons_succ, List.getElem_cons_zero])
        refine wpAnyH_ready (rs := [1]) (by kernel_rfl) (by simp) ?_
        refine AllReadyH.cons (o := _) rfl (fun K hK => ?_) AllReadyH.nil
        refine S_value rfl (exec_load rfl (load_dg w5.drew lb X HLB5.out HXS.out)) ?_
        refine hK.out _ _ hs0 (fun hHeld => ?_)
        clear hK K
        (try simp only [Act.put, List.setIfInBounds_toArray, List.set_cons_zero, List.set_cons_succ, List.getElem_toArray, List.getElem_cons_succ, List.getElem_cons_zero])
        refine wpAnyH_ready (rs := [6]) (by kernel_rfl) (by simp) ?_
        refine AllReadyH.cons (o := _) rfl (fun K hK => ?_) AllReadyH.nil
        go_simp
        refine HND.out.mono ?_
        rintro e w6 ⟨rfl, tv', hcl6, hfr6, hat6⟩
        have hob : ∀ j, tv.ownBlock = some j → w3.heap.size ≤ j := fun j hj => HOB.out j hj
        have h56 : w5.drew.heap.size = w5.heap.size := rfl
        have hk6 : ∀ j, j < w3.heap.size → j ≠ gc → w6.heap[j]? = w5.heap[j]? := fun j hj hn => hfr6.blk j (Nat.lt_of_lt_of_le hj HSZ5.out) hn (fun e => by have := hob j e.symm; omega)
        have hlb6 := (hk6 lb HLBS.out (by have := HNE.out; omega)).trans HLB5.out
        have hra6 := (hk6 ra HRAS.out (by have := HNE.out; omega)).trans HRA5.out
        have hth6 := there_block hlb6
        rw [HXS.out] at hth6
        have HTH6 := Lib.hid hth6
        have HGF6 := Lib.hid (setCells_all hlb6 F.toList (by rw [Array.length_toList, HFS.out, HXS.out]))
        have hgr6 := setCells_grown lb F.toList 0 w6
        have hs6 : (fun x => (Instr.loadAt 23 (.pointer (some ⟨b', off' + k * 32, none⟩))).run Tryz.prog x = .ok (.agg Yv) x) w6 := load_dig (fun j v hv => (World.cell?_of_block (hk6 b' HBL.out.1 HBL.out.2.1)).trans (HR5.out j v hv)) HYS.out
        have hs7 : (fun x => (Instr.loadAt 23 (.pointer (some ⟨b', off' + k * 32, none⟩))).run Tryz.prog x = .ok (.agg Yv) x) (w6.setCells lb 0 F.toList) := load_dig (fun j v hv => (World.cell?_of_block (hgr6.block b' (Nat.lt_of_lt_of_le (Nat.lt_of_lt_of_le HBL.out.1 HSZ5.out) hfr6.b.size) (fun e => HBL.out.2.2 (Option.some.inj e)))).trans ((World.cell?_of_block (hk6 b' HBL.out.1 HBL.out.2.1)).trans (HR5.out j v hv))) HYS.out
        have HRA7 := Lib.hid ((hgr6.block ra (Array.getElem?_eq_some_iff.1 hra6).1 (fun e => by have := Option.some.inj e; have := HNE.out; omega)).trans hra6)
        have HCL7 := Lib.hid (show ClimbAt (w6.setCells lb 0 F.toList) w3.heap.size gc wd (k + 1) tv' from by
          refine ⟨(hgr6.block gc hcl6.lt (fun e => by have := Option.some.inj e; have := HNE.out; omega)).trans hcl6.1, hcl6.2.imp fun xs ho => ⟨own_same ho.1 fun j hj => hgr6.block j (ho.1.lt j hj).2 (fun e => by have := (ho.1.lt j hj).1; have := Option.some.inj e; have := HLBS.out; omega), ho.2⟩⟩)
        have HFL7 := Lib.hid (show FrL w3 (w6.setCells lb 0 F.toList) gc lb from by
          refine ⟨(HFL5.out.b.trans (show Below 0 w5 w6 from ⟨hfr6.b.os, hfr6.b.tape, hfr6.b.output, hfr6.b.size, hfr6.b.block⟩)).trans ⟨hgr6.os, hgr6.tape, hgr6.output, hgr6.size, fun j hj => absurd hj (Nat.not_lt_zero j)⟩, fun j hj h1 h2 => ?_⟩
          exact (hgr6.block j (Nat.lt_of_lt_of_le (Nat.lt_of_lt_of_le hj HSZ5.out) hfr6.b.size) (fun e => h2 (Option.some.inj e))).trans ((hk6 j hj h1).trans (HFL5.out.blk j hj h1 h2)))
        clear hcl6 hfr6 hat6 hob h56 hk6 hlb6 hra6 hth6 hgr6
        refine hK.out _ _ hs6 (fun hHeld => ?_)
        clear hK K
        (try simp only [Act.put, List.setIfInBounds_toArray, List.set_cons_zero, List.set_cons_succ, List.getElem_toArray, List.getElem_cons_succ, List.getElem_cons_zero])
        refine wpAnyH_ready (rs := [7]) (by kernel_rfl) (by simp) ?_
        refine AllReadyH.cons (o := _) rfl (fun K hK => ?_) AllReadyH.nil
        refine S_store_mid rfl 23 (.tmp 8) (.tmp 46) (by rfl) lb 0 F (by rfl) (by rfl) (by rw [HFS.out]; exact HTH6.out) (by rw [HFS.out]; exact info38) HF1.out ?_
        refine hK.out _ _ hs7 (fun hHeld => ?_)
        clear hK K
        (try simp only [Act.put, List.setIfInBounds_toArray, List.set_cons_zero, List.set_cons_succ, List.getElem_toArray, List.getElem_cons_succ, List.getElem_cons_zero])
        refine wpAnyH_done (by kernel_rfl) ?_ _
        clear hs0 hs6 hs7
        have HG7 := Lib.hid (show (w6.setCells lb 0 F.toList).heap[lb]? = some (.cells F 23 (0, 0)) by simpa using HGF6.out)
        generalize w6.setCells lb 0 F.toList = w7 at *
        clear HGF6 HTH6
        go_wp2_with fail
        refine ⟨⟨k + 1, HKN.out, by push_cast; rfl, by rw [← HF.out]; exact HG7.out, HRA7.out, ⟨_, HCL7.out⟩, HFL7.out⟩, ?_⟩
        have := HKN.out
        simp [intOf]; omega
      · skip
        have d3 : decide ((i : Int) < (pa : Int)) = false := by simp; omega
        have d4 : decide (i < pa) = false := by simp; omega
        have d5 : decide ((pa : Int) > (i : Int)) = false := by simp; omega
        have hF : F = dgA (nodeD wd y X0).1 := by
          rw [HF.out, HST.out]
          unfold climbS
          rw [if_neg (by first | exact hside | (intro q; exact hside q))]
        have HND := Lib.hid (show Calls Tryz.prog 210 #[.pointer (some ⟨gc, 0, none⟩), .agg Yv, .agg X] w5.drew (fun e w' => e = .returned (.agg F) ∧ CnOut w5.drew w' w3.heap.size gc k wd tv) by
          rw [hF, HX.out, HY.out]
          exact cnode_any w5.drew w3.heap.size gc k tv wd HH.out.1 HH.out.2.1 HCL5.out (by have := HH.out; omega) HSZ5.out y X0 HT5.out (by have := HH.out; have := HSZ3.out; omega) HH.out.2.2.1)
        clear hside hF
        have hs0 : (fun x => (Instr.loadAt 23 (.pointer (some ⟨b', off' + k * 32, none⟩))).run Tryz.prog x = .ok (.agg Yv) x) w5.drew := HLD.out
        go_upto_region 11 with (fail)
        refine wp_region_held_drew (S := fun x => (Instr.loadAt 23 (.pointer (some ⟨b', off' + k * 32, none⟩))).run Tryz.prog x = .ok (.agg Yv) x) (by kernel_rfl) hs0 (fun hHeld => ?_)
        refine wpAnyH_take (i := 0) (oi := _) (v := ?_) rfl (by kernel_rfl) (by kernel_rfl) (by kernel_rfl) (fun _ _ _ h => h) (Or.inl ⟨by rfl, ?_⟩) (by assumption) ?_
        rotate_left
        · intro w hSw
          (try dsimp only at hSw)
          go_simp
          all_goals (first | done | with_reducible rfl)
        (try simp only [Act.put, List.setIfInBounds_toArray, List.set_cons_zero, List.set_cons_succ, List.getElem_toArray, List.getElem_cons_succ, List.getElem_cons_zero])
        refine wpAnyH_take (i := 1) (oi := _) (v := ?_) rfl (by kernel_rfl) (by kernel_rfl) (by kernel_rfl) (fun _ _ _ h => h) (Or.inl ⟨by rfl, ?_⟩) (by assumption) ?_
        rotate_left
        · intro w hSw
          (try dsimp only at hSw)
          go_simp
          all_goals (first | done | with_reducible rfl)
        (try simp only [Act.put, List.setIfInBounds_toArray, List.set_cons_zero, List.set_cons_succ, List.getElem_toArray, List.getElem_cons_succ, List.getElem_cons_zero])
        refine wpAnyH_take (i := 2) (oi := _) (v := ?_) rfl (by kernel_rfl) (by kernel_rfl) (by kernel_rfl) (fun _ _ _ h => h) (Or.inl ⟨by rfl, ?_⟩) (by assumption) ?_
        rotate_left
        · intro w hSw
          (try dsimp only at hSw)
          go_simp
          all_goals (first | done | with_reducible rfl)
        (try simp only [Act.put, List.setIfInBounds_toArray, List.set_cons_zero, List.set_cons_succ, List.getElem_toArray, List.getElem_cons_succ, List.getElem_cons_zero])
        refine wpAnyH_take (i := 3) (oi := _) (v := ?_) rfl (by kernel_rfl) (by kernel_rfl) (by kernel_rfl) (fun _ _ _ h => h) (Or.inl ⟨by rfl, ?_⟩) (by assumption) ?_
        rotate_left
        · intro w hSw
          (try dsimp only at hSw)
          go_simp
          all_goals (first | done | with_reducible rfl)
        (try simp only [Act.put, List.setIfInBounds_toArray, List.set_cons_zero, List.set_cons_succ, List.getElem_toArray, List.getElem_cons_succ, List.getElem_cons_zero])
        refine wpAnyH_take (i := 4) (oi := _) (v := .agg Yv) rfl (by kernel_rfl) (by kernel_rfl) (by kernel_rfl) (fun _ _ _ h => h) (Or.inl ⟨by rfl, fun w hSw => exec_load rfl (hSw)⟩) (by assumption) ?_
        (try simp only [Act.put, List.setIfInBounds_toArray, List.set_cons_zero, List.set_cons_succ, List.getElem_toArray, List.getElem_cons_succ, List.getElem_cons_zero])
        refine wpAnyH_ready (rs := [5]) (by kernel_rfl) (by simp) ?_
        refine AllReadyH.cons (o := _) rfl (fun K hK => ?_) AllReadyH.nil
        refine S_value rfl (exec_load rfl (load_dg w5.drew lb X HLB5.out HXS.out)) ?_
        refine hK.out _ _ hs0 (fun hHeld => ?_)
        clear hK K
        (try simp only [Act.put, List.setIfInBounds_toArray, List.set_cons_zero, List.set_cons_succ, List.getElem_toArray, List.getElem_cons_succ, List.getElem_cons_zero])
        refine wpAnyH_ready (rs := [6]) (by kernel_rfl) (by simp) ?_
        refine AllReadyH.cons (o := _) rfl (fun K hK => ?_) AllReadyH.nil
        go_simp
        refine HND.out.mono ?_
        rintro e w6 ⟨rfl, tv', hcl6, hfr6, hat6⟩
        have hob : ∀ j, tv.ownBlock = some j → w3.heap.size ≤ j := fun j hj => HOB.out j hj
        have h56 : w5.drew.heap.size = w5.heap.size := rfl
        have hk6 : ∀ j, j < w3.heap.size → j ≠ gc → w6.heap[j]? = w5.heap[j]? := fun j hj hn => hfr6.blk j (Nat.lt_of_lt_of_le hj HSZ5.out) hn (fun e => by have := hob j e.symm; omega)
        have hlb6 := (hk6 lb HLBS.out (by have := HNE.out; omega)).trans HLB5.out
        have hra6 := (hk6 ra HRAS.out (by have := HNE.out; omega)).trans HRA5.out
        have hth6 := there_block hlb6
        rw [HXS.out] at hth6
        have HTH6 := Lib.hid hth6
        have HGF6 := Lib.hid (setCells_all hlb6 F.toList (by rw [Array.length_toList, HFS.out, HXS.out]))
        have hgr6 := setCells_grown lb F.toList 0 w6
        have hs6 : (fun x => (Instr.loadAt 23 (.pointer (some ⟨b', off' + k * 32, none⟩))).run Tryz.prog x = .ok (.agg Yv) x) w6 := load_dig (fun j v hv => (World.cell?_of_block (hk6 b' HBL.out.1 HBL.out.2.1)).trans (HR5.out j v hv)) HYS.out
        have hs7 : (fun x => (Instr.loadAt 23 (.pointer (some ⟨b', off' + k * 32, none⟩))).run Tryz.prog x = .ok (.agg Yv) x) (w6.setCells lb 0 F.toList) := load_dig (fun j v hv => (World.cell?_of_block (hgr6.block b' (Nat.lt_of_lt_of_le (Nat.lt_of_lt_of_le HBL.out.1 HSZ5.out) hfr6.b.size) (fun e => HBL.out.2.2 (Option.some.inj e)))).trans ((World.cell?_of_block (hk6 b' HBL.out.1 HBL.out.2.1)).trans (HR5.out j v hv))) HYS.out
        have HRA7 := Lib.hid ((hgr6.block ra (Array.getElem?_eq_some_iff.1 hra6).1 (fun e => by have := Option.some.inj e; have := HNE.out; omega)).trans hra6)
        have HCL7 := Lib.hid (show ClimbAt (w6.setCells lb 0 F.toList) w3.heap.size gc wd (k + 1) tv' from by
          refine ⟨(hgr6.block gc hcl6.lt (fun e => by have := Option.some.inj e; have := HNE.out; omega)).trans hcl6.1, hcl6.2.imp fun xs ho => ⟨own_same ho.1 fun j hj => hgr6.block j (ho.1.lt j hj).2 (fun e => by have := (ho.1.lt j hj).1; have := Option.some.inj e; have := HLBS.out; omega), ho.2⟩⟩)
        have HFL7 := Lib.hid (show FrL w3 (w6.setCells lb 0 F.toList) gc lb from by
          refine ⟨(HFL5.out.b.trans (show Below 0 w5 w6 from ⟨hfr6.b.os, hfr6.b.tape, hfr6.b.output, hfr6.b.size, hfr6.b.block⟩)).trans ⟨hgr6.os, hgr6.tape, hgr6.output, hgr6.size, fun j hj => absurd hj (Nat.not_lt_zero j)⟩, fun j hj h1 h2 => ?_⟩
          exact (hgr6.block j (Nat.lt_of_lt_of_le (Nat.lt_of_lt_of_le hj HSZ5.out) hfr6.b.size) (fun e => h2 (Option.some.inj e))).trans ((hk6 j hj h1).trans (HFL5.out.blk j hj h1 h2)))
        clear hcl6 hfr6 hat6 hob h56 hk6 hlb6 hra6 hth6 hgr6
        refine hK.out _ _ hs6 (fun hHeld => ?_)
        clear hK K
        (try simp only [Act.put, List.setIfInBounds_toArray, List.set_cons_zero, List.set_cons_succ, List.getElem_toArray, List.getElem_cons_succ, List.getElem_cons_zero])
        refine wpAnyH_ready (rs := [7]) (by kernel_rfl) (by simp) ?_
        refine AllReadyH.cons (o := _) rfl (fun K hK => ?_) AllReadyH.nil
        refine S_store_mid rfl 23 (.tmp 8) (.tmp 53) (by rfl) lb 0 F (by rfl) (by rfl) (by rw [HFS.out]; exact HTH6.out) (by rw [HFS.out]; exact info38) HF1.out ?_
        refine hK.out _ _ hs7 (fun hHeld => ?_)
        clear hK K
        (try simp only [Act.put, List.setIfInBounds_toArray, List.set_cons_zero, List.set_cons_succ, List.getElem_toArray, List.getElem_cons_succ, List.getElem_cons_zero])
        refine wpAnyH_done (by kernel_rfl) ?_ _
        clear hs0 hs6 hs7
        have HG7 := Lib.hid (show (w6.setCells lb 0 F.toList).heap[lb]? = some (.cells F 23 (0, 0)) by simpa using HGF6.out)
        generalize w6.setCells lb 0 F.toList = w7 at *
        clear HGF6 HTH6
        go_wp2_with fail
        refine ⟨⟨k + 1, HKN.out, by push_cast; rfl, by rw [← HF.out]; exact HG7.out, HRA7.out, ⟨_, HCL7.out⟩, HFL7.out⟩, ?_⟩
        have := HKN.out
        simp [intOf]; omega
    · obtain rfl : k = n := by omega
      have htk : Z.take k = Z := List.take_of_length_le (by rw [HZZ.out, List.length_zip]; have := HLN.out; omega)
      rw [htk] at hlbr
      have hth := there_block hrar
      rw [show (dgA zDg.1).size = 32 from rfl] at hth
      have HTH0 := Lib.hid hth
      obtain ⟨E, hE⟩ : ∃ E, E = dgA (climbW wd i Z leaf).1 := ⟨_, rfl⟩
      have HE := Lib.hid hE
      have HES := Lib.hid (show E.size = 32 by rw [hE, dgA_size, (climbW wd i Z leaf).2])
      have HE1 := Lib.hid (show E.all (·.oneCell') = true by rw [hE]; exact dgA_all _)
      rw [← hE] at hlbr
      have HL9 := Lib.hid hlbr
      have HGF := Lib.hid (setCells_all hrar E.toList (by rw [Array.length_toList, HES.out]; rfl))
      have HFL := Lib.hid hfl
      have h9 : decide ((k : Int) < (k : Int)) = false := by simp
      have h8 : decide (k < k) = false := by simp
      clear hlt hk hlbr hrar hcl hfl hth hE htk
      go_wp2_with (first
        | (refine wpList_load_row rfl 23 (.tmp 8) (by rfl) lb (by rfl) 23 E (0, 0) _ HL9.out Tryz.underlying23 rfl (by rw [HES.out]; exact info38) ?_)
        | (refine wpList_store_mid rfl 23 (.tmp 10) (.tmp 55) (by rfl) ra 0 E (by rfl) (by rfl) (by rw [HES.out]; exact HTH0.out) (by rw [HES.out]; exact info38) HE1.out ?_))
      have HFR := Lib.hid (show FrC w (wr.setCells ra 0 E.toList) gc none by
        have hgr := setCells_grown ra E.toList 0 wr
        refine ⟨((HB3.out.mono (Nat.zero_le _)).trans HFL.out.b).trans ⟨hgr.os, hgr.tape, hgr.output, hgr.size, fun j hj => absurd hj (Nat.not_lt_zero j)⟩, fun j hj h1 _ => ?_⟩
        have hj3 := Nat.lt_of_lt_of_le hj HB3.out.size
        exact (hgr.block j (Nat.lt_of_lt_of_le hj3 HFL.out.b.size) (fun e => by have := Option.some.inj e; have := HNE.out; omega)).trans ((HFL.out.blk j hj3 h1 (by have := HNE.out; omega)).trans (HB3.out.block j hj)))
      generalize wr.setCells ra 0 E.toList = w9 at *
      have hGF : w9.heap[ra]? = some (.cells E 23 (0, 0)) := by have := HGF.out; simpa using this
      have HGF9 := Lib.hid hGF
      refine bodyPost_ret (v := .tuple #[.agg E, .int .i64 0]) (results_row_tmp (p := 10) (u := 11) (ty := 23) rfl _ _ ra 23 E (0, 0) _ rfl HGF9.out Tryz.underlying23 rfl (by rw [HES.out]; exact info38)) rfl ⟨by rw [HE.out], HFR.out⟩
theorem tinc_any (w : World) (wd : Int) (h0 : -9223372036854775808 ≤ wd) (h1 : wd ≤ 9223372036854775807) (size i : Nat) (hi : i < size) (hs : size ≤ 1099511627776) (leaf : Dg) (a : Option Addr) (n c : Nat) (ds : List Dg) (hds : DS w a n c ds) (hn : n = (wayP size 0 size i).length) (ht : RoundTab w) (h4 : 4 ≤ w.heap.size) :
    Calls Tryz.prog 155 #[.int .i64 wd, .int .i64 (size : Int), .int .i64 (i : Int), .agg (dgA leaf.1), .slice a n c] w fun e w' => e = .returned (.tuple #[.agg (dgA (climbW wd i ((wayP size 0 size i).reverse.zip ds) leaf).1), .int .i64 0]) ∧ Below w.heap.size w w' := by
  obtain ⟨A0, hA0⟩ : ∃ A0, A0 = dgA leaf.1 := ⟨_, rfl⟩
  have hAS : A0.size = 32 := by rw [hA0, dgA_size, leaf.2]
  obtain ⟨E, hE⟩ : ∃ E, E = dgA (climbW wd i ((wayP size 0 size i).reverse.zip ds) leaf).1 := ⟨_, rfl⟩
  have HES := Lib.hid (show E.size = 32 by rw [hE, dgA_size, (climbW wd i ((wayP size 0 size i).reverse.zip ds) leaf).2])
  have HE1 := Lib.hid (show E.all (·.oneCell') = true by rw [hE]; exact dgA_all _)
  obtain ⟨lb, hlb⟩ : ∃ lb, lb = w.heap.size := ⟨_, rfl⟩
  obtain ⟨ra, hra⟩ : ∃ ra, ra = lb + 1 := ⟨_, rfl⟩
  obtain ⟨gc, hgc⟩ : ∃ gc, gc = ra + 1 := ⟨_, rfl⟩
  obtain ⟨w0, hw0⟩ : ∃ w0, w0 = w.alloc (.cells A0 23) := ⟨_, rfl⟩
  obtain ⟨w1, hw1⟩ : ∃ w1, w1 = w0.alloc (.cells (dgA zDg.1) 23) := ⟨_, rfl⟩
  obtain ⟨w2, hw2⟩ : ∃ w2, w2 = w1.alloc (.cells #[.int .i64 wd, .slice none 0 0] 228) := ⟨_, rfl⟩
  have hb0 : Below w.heap.size w w0 := by rw [hw0]; exact bel1 _ _
  have hz0 : w0.heap.size = ra := by rw [hw0, World.size_alloc]; omega
  have hb1 : Below w.heap.size w w1 := by rw [hw1]; exact hb0.alloc hb0.size _
  have hz1 : w1.heap.size = gc := by rw [hw1, World.size_alloc]; omega
  have hb2 : Below w.heap.size w w2 := by rw [hw2]; exact hb1.alloc hb1.size _
  have hgl : w2.heap[lb]? = some (.cells A0 23 (0, 0)) := by rw [hw2]; refine (alOld w1 _ lb (by omega)).trans ?_; rw [hw1]; exact (alOld w0 _ lb (by omega)).trans (by rw [hw0, hlb]; exact heap_alloc_new _ _)
  have hgr : w2.heap[ra]? = some (.cells (dgA zDg.1) 23 (0, 0)) := by rw [hw2]; refine (alOld w1 _ ra (by omega)).trans ?_; rw [hw1, ← hz0]; exact heap_alloc_new _ _
  have hgg : w2.heap[gc]? = some (.cells #[.int .i64 wd, .slice none 0 0] 228 (0, 0)) := by rw [hw2, ← hz1]; exact heap_alloc_new _ _
  have hinc := include_any w2 gc wd h0 h1 hgg size i hi hs leaf a n c ds (RS.below hds hb2) hn (fun x hx h0 => by
    obtain ⟨y, hy⟩ : ∃ y, ds[0]? = some y := ⟨_, List.getElem?_eq_getElem (by have := hds.1; omega)⟩
    obtain ⟨b, off, e, hbl, -⟩ := hds.at hy
    rw [hx] at e; cases e; show b ≠ gc; omega) (rt_below ht hb2 (by omega)) (by omega)
  rw [← hE, ← hA0] at hinc
  rw [← hE, ← hA0]
  have HINC := Lib.hid hinc
  have HGL := Lib.hid hgl; have HGR := Lib.hid hgr; have HB2 := Lib.hid hb2; have HAS := Lib.hid hAS
  have HN := Lib.hid (show ra = lb + 1 ∧ gc = ra + 1 ∧ w.heap.size = lb by omega)
  have hw0' : w.alloc (.cells A0 23) = w0 := hw0.symm
  have hw1' : w0.alloc (.cells #[.int .u8 0, .int .u8 0, .int .u8 0, .int .u8 0, .int .u8 0, .int .u8 0, .int .u8 0, .int .u8 0, .int .u8 0, .int .u8 0, .int .u8 0, .int .u8 0, .int .u8 0, .int .u8 0, .int .u8 0, .int .u8 0, .int .u8 0, .int .u8 0, .int .u8 0, .int .u8 0, .int .u8 0, .int .u8 0, .int .u8 0, .int .u8 0, .int .u8 0, .int .u8 0, .int .u8 0, .int .u8 0, .int .u8 0, .int .u8 0, .int .u8 0, .int .u8 0] 23) = w1 := hw1.symm
  have hw2' : w1.alloc (.cells #[.int .i64 wd, .slice none 0 0] 228) = w2 := hw2.symm
  have hz0' : w0.heap.size = ra := hz0
  have hz1' : w1.heap.size = gc := hz1
  have hlb' : w.heap.size = lb := hlb.symm
  clear h0 h1 hi hs hds hn ht h4 hA0 hAS hE hlb hra hgc hw0 hw1 hw2 hb0 hz0 hb1 hz1 hb2 hgl hgr hgg hinc
  go_enter Tryz.func155, Tryz.ntmps155
  go_wp2_with (first
    | (refine wpList_load_row rfl 23 (.tmp 8) (by rfl) lb (by rfl) 23 A0 (0, 0) _ HGL.out Tryz.underlying23 rfl (by rw [HAS.out]; exact info38) ?_)
    | (go_at_call 156; refine HINC.out.mono ?_; rintro e w6 ⟨rfl, hfr⟩; have HFR := Lib.hid hfr; have hg6 := (hfr.blk ra (by have := (Array.getElem?_eq_some_iff.1 HGR.out).1; omega) (by have := HN.out; omega) (by intro q; cases q)).trans HGR.out; have HG6 := Lib.hid hg6; have HTH6 := Lib.hid (there_block hg6); clear hfr hg6)
    | (refine wpList_store_mid rfl 23 (.tmp 10) (.tmp 22) (by rfl) ra 0 E (by rfl) (by rfl) (by rw [HES.out]; exact HTH6.out) (by rw [HES.out]; exact info38) HE1.out ?_))
  have HGF := Lib.hid (setCells_all HG6.out E.toList (by rw [Array.length_toList, HES.out]; rfl))
  have hlbw := HN.out.2.2
  have HB9 := Lib.hid (show Below w.heap.size w (w6.setCells ra 0 E.toList) from by
    have hgr := setCells_grown ra E.toList 0 w6
    refine ⟨hgr.os.trans (HFR.out.b.os.trans HB2.out.os), hgr.tape.trans (HFR.out.b.tape.trans HB2.out.tape), hgr.output.trans (HFR.out.b.output.trans HB2.out.output), Nat.le_trans HB2.out.size (Nat.le_trans HFR.out.b.size hgr.size), fun k hk => ?_⟩
    have hk2 : k < w2.heap.size := Nat.lt_of_lt_of_le hk HB2.out.size
    exact (hgr.block k (Nat.lt_of_lt_of_le hk2 HFR.out.b.size) (fun e => by have := Option.some.inj e; have := HN.out; omega)).trans ((HFR.out.blk k hk2 (by have := HN.out; omega) (by intro q; cases q)).trans (HB2.out.block k hk)))
  generalize w6.setCells ra 0 E.toList = w9 at *
  have HGF9 := Lib.hid (show w9.heap[ra]? = some (.cells E 23 (0, 0)) by have := HGF.out; simpa using this)
  clear HGF HTH6
  refine bodyPost_ret (v := .tuple #[.agg E, .int .i64 0]) (results_row_tmp (p := 10) (u := 11) (ty := 23) rfl _ _ ra 23 E (0, 0) _ rfl HGF9.out Tryz.underlying23 rfl (by rw [HES.out]; exact info38)) rfl ⟨rfl, HB9.out⟩
end Go.Proofs.YtoboabkaojfbaaaGreatDoor
