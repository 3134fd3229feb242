import Derived.Test.YtoboabkaojfbaaaGreatDoorQ09
import Derived.Laws.CopyOwn
import Derived.Deep.RegionHeld3
import Derived.IntWalk
import Derived.Deep.MidRow
import Derived.Deep.AppendLies
namespace Go.Proofs.YtoboabkaojfbaaaGreatDoor
open Go Go.RowKit
set_option maxRecDepth 100000
set_option maxHeartbeats 1000000
set_option linter.unusedVariables false
set_option linter.unusedSimpArgs false

theorem r8_dg {w : World} {g : Nat} {d : List UInt8} {ty : TypeId} {fz : Nat × Nat} (h : w.heap[g]? = some (.cells (dgA d) ty fz)) (hd : d.length = 32) : R8 w (some ⟨g, 0, none⟩) 32 32 d := by
  refine ⟨hd, Nat.le_refl _, by omega, fun i hi => ⟨g, 0, rfl, ?_⟩⟩
  rw [cell_of_row _ _ _ _ _ _ h, Nat.zero_add]
  unfold dgA
  rw [List.getElem?_toArray, List.getElem?_map, List.getElem?_eq_getElem hi]
  rfl
set_option maxHeartbeats 4000000
/-- The sum of a node. -/
theorem node_any (w : World) (wd : Int) (h0 : -9223372036854775808 ≤ wd) (h1 : wd ≤ 9223372036854775807) (l r : List UInt8) (hl : l.length = 32) (hr : r.length = 32) (ht : RoundTab w) (h3 : 1 < w.heap.size) :
    Calls Tryz.prog 253 #[.int .i64 wd, .agg (dgA l), .agg (dgA r)] w fun e w' => e = .returned (.agg (dgA (nodeP wd l r))) ∧ Below w.heap.size w w' := by
  have HT := Lib.hid ht
  have H01 := Lib.hid (And.intro h0 h1)
  obtain ⟨E, hE⟩ : ∃ E, E = dgA (nodeP wd l r) := ⟨_, rfl⟩
  have HE := Lib.hid hE
  have HES := Lib.hid (show E.size = 32 by rw [hE, dgA_size]; exact ofP_len _ _)
  have HE1 := Lib.hid (show E.all (·.oneCell') = true by rw [hE]; exact dgA_all _)
  obtain ⟨L, hL⟩ : ∃ L, L = dgA l := ⟨_, rfl⟩
  obtain ⟨R, hR⟩ : ∃ R, R = dgA r := ⟨_, rfl⟩
  rw [← hL, ← hR]
  have HL := Lib.hid hL; have HR := Lib.hid hR; have HLL := Lib.hid hl; have HRL := Lib.hid hr
  clear ht hE h0 h1 hL hR hl hr
  go_enter Tryz.func253, Tryz.ntmps253
  go_upto_region 1 with (fail)
  obtain ⟨o1, ho1⟩ : ∃ o1 : Obj, o1 = .cells #[.int .u8 0, .int .u8 0, .int .u8 0, .int .u8 0, .int .u8 0, .int .u8 0, .int .u8 0, .int .u8 0, .int .u8 0, .int .u8 0, .int .u8 0, .int .u8 0, .int .u8 0, .int .u8 0, .int .u8 0, .int .u8 0, .int .u8 0, .int .u8 0, .int .u8 0, .int .u8 0, .int .u8 0, .int .u8 0, .int .u8 0, .int .u8 0, .int .u8 0, .int .u8 0, .int .u8 0, .int .u8 0, .int .u8 0, .int .u8 0, .int .u8 0, .int .u8 0] 23 := ⟨_, rfl⟩
  rw [← ho1]
  have hb1 : Below w.heap.size w (((w.alloc (.cells L 23)).alloc (.cells R 23)).alloc o1) := (((Below.refl _ _).alloc (Nat.le_refl _) _).alloc (by simp) _).alloc (by simp; omega) _
  have hg2 : (((w.alloc (.cells L 23)).alloc (.cells R 23)).alloc o1).heap[w.heap.size]? = some (.cells L 23 (0, 0)) := (Below.heap_alloc _ _ _ (by simp; omega)).trans (heap_alloc2_old w _ _)
  have hg3 : (((w.alloc (.cells L 23)).alloc (.cells R 23)).alloc o1).heap[w.heap.size + 1]? = some (.cells R 23 (0, 0)) := (Below.heap_alloc _ _ _ (by simp)).trans (heap_alloc2_new w _ _)
  have hg1 : (((w.alloc (.cells L 23)).alloc (.cells R 23)).alloc o1).heap[w.heap.size + 2]? = some o1 := by
    have := heap_alloc_new ((w.alloc (.cells L 23)).alloc (.cells R 23)) o1
    rwa [World.size_alloc, World.size_alloc] at this
  have hz1 : (((w.alloc (.cells L 23)).alloc (.cells R 23)).alloc o1).heap.size = w.heap.size + 3 := by simp
  generalize ((w.alloc (.cells L 23)).alloc (.cells R 23)).alloc o1 = w1 at *
  obtain ⟨b1, hb1e⟩ : ∃ b1, b1 = w.heap.size := ⟨_, rfl⟩
  obtain ⟨b2, hb2e⟩ : ∃ b2, b2 = w.heap.size + 1 := ⟨_, rfl⟩
  obtain ⟨rb, hrb⟩ : ∃ rb, rb = w.heap.size + 2 := ⟨_, rfl⟩
  rw [← hrb] at hg1
  rw [← hb2e] at hg3
  rw [← hb1e] at hg2
  rw [← hrb, ← hb2e, ← hb1e]
  have HB1 := Lib.hid hb1; have HG1 := Lib.hid hg1; have HZ1 := Lib.hid hz1; have HOO := Lib.hid ho1
  have HG2 := Lib.hid hg2; have HG3 := Lib.hid hg3
  have HRB := Lib.hid (show w.heap.size ≤ rb by omega)
  have HRR := Lib.hid (show b1 = w.heap.size ∧ b2 = w.heap.size + 1 ∧ rb = w.heap.size + 2 from ⟨hb1e, hb2e, hrb⟩)
  clear hb1 hg1 hz1 ho1 hg2 hg3 hrb hb1e hb2e
  refine wp_region_held_drew (S := fun _ => True) (by kernel_rfl) trivial (fun hHeld => ?_)
  refine wpAnyH_take (i := 0) (oi := _) (v := ?_) rfl (by kernel_rfl) (by kernel_rfl) (by kernel_rfl) (fun _ _ _ h => h) (Or.inl ⟨by rfl, ?_⟩) (by assumption) ?_
  rotate_left
  · intro w hSw
    (try dsimp only at hSw)
    go_simp
    all_goals (first | done | with_reducible rfl)
  (try simp only [Act.put, List.setIfInBounds_toArray, List.set_cons_zero, List.set_cons_succ, List.getElem_toArray, List.getElem_cons_succ, List.getElem_cons_zero])
  refine wpAnyH_take (i := 1) (oi := _) (v := ?_) rfl (by kernel_rfl) (by kernel_rfl) (by kernel_rfl) (fun _ _ _ h => h) (Or.inl ⟨by rfl, ?_⟩) (by assumption) ?_
  rotate_left
  · intro w hSw
    (try dsimp only at hSw)
    go_simp
    all_goals (first | done | with_reducible rfl)
  (try simp only [Act.put, List.setIfInBounds_toArray, List.set_cons_zero, List.set_cons_succ, List.getElem_toArray, List.getElem_cons_succ, List.getElem_cons_zero])
  refine wpAnyH_take (i := 2) (oi := _) (v := ?_) rfl (by kernel_rfl) (by kernel_rfl) (by kernel_rfl) (fun _ _ _ h => h) (Or.inl ⟨by rfl, ?_⟩) (by assumption) ?_
  rotate_left
  · intro w hSw
    (try dsimp only at hSw)
    go_simp
    all_goals (first | done | with_reducible rfl)
  (try simp only [Act.put, List.setIfInBounds_toArray, List.set_cons_zero, List.set_cons_succ, List.getElem_toArray, List.getElem_cons_succ, List.getElem_cons_zero])
  refine wpAnyH_ready (rs := [3]) (by kernel_rfl) (by simp) ?_
  refine AllReadyH.cons (o := _) rfl (fun K hK => ?_) AllReadyH.nil
  go_simp
  refine hK.out _ _ trivial (fun hHeld => ?_)
  clear hK K
  (try simp only [Act.put, List.setIfInBounds_toArray, List.set_cons_zero, List.set_cons_succ, List.getElem_toArray, List.getElem_cons_succ, List.getElem_cons_zero])
  obtain ⟨w2, hw2⟩ : ∃ w2, w2 = (w1.alloc (.cells #[.slice (some ⟨b1, 0, none⟩) 32 32, .slice (some ⟨b2, 0, none⟩) 32 32] 49)).drew := ⟨_, rfl⟩
  rw [← hw2]
  have hb2 : Below w1.heap.size w1 w2 := by rw [hw2]; exact ((Below.refl _ _).alloc (Nat.le_refl _) _).drew
  have hg4 : w2.heap[w1.heap.size]? = some (.cells #[.slice (some ⟨b1, 0, none⟩) 32 32, .slice (some ⟨b2, 0, none⟩) 32 32] 49 (0, 0)) := by rw [hw2]; exact heap_alloc_new w1 _
  obtain ⟨q1, q2, q3⟩ := HRR.out
  have hz := HZ1.out
  have hL2 : R8 w2 (some ⟨b1, 0, none⟩) 32 32 l := r8_dg (by rw [hb2.block b1 (by omega), HG2.out, HL.out]) HLL.out
  have hR2 : R8 w2 (some ⟨b2, 0, none⟩) 32 32 r := r8_dg (by rw [hb2.block b2 (by omega), HG3.out, HR.out]) HRL.out
  have hps : PartsAt w2 (some ⟨w1.heap.size, 0, none⟩) 2 [l, r] := ⟨rfl, fun i p hi => by
    match i, hi with
    | 0, hi => cases hi; exact ⟨_, 0, some ⟨b1, 0, none⟩, 32, 32, rfl, by rw [cell_of_row _ _ _ _ _ _ hg4]; rfl, hL2⟩
    | 1, hi => cases hi; exact ⟨_, 0, some ⟨b2, 0, none⟩, 32, 32, rfl, by rw [cell_of_row _ _ _ _ _ _ hg4]; rfl, hR2⟩
    | n + 2, hi => simp at hi⟩
  have hbw : Below w.heap.size w w2 := HB1.out.trans (hb2.mono (by omega))
  have hof := of_any w2 wd H01.out.1 H01.out.2 1 (some ⟨w1.heap.size, 0, none⟩) 2 2 [l, r] hps (by omega) (by simp [HLL.out, HRL.out]) (rt_below HT.out hbw h3) (by have := hbw.size; omega)
  have HOF := Lib.hid (show Calls Tryz.prog 109 #[.int .i64 wd, .int .i64 1, .slice (some ⟨w1.heap.size, 0, none⟩) 2 2] w2 fun e w' => e = .returned (.agg E) ∧ Below w2.heap.size w2 w' by
    rw [HE.out]
    have e : nodeP wd l r = ofP wd (1 :: [l, r].flatten) := by unfold nodeP; simp
    rw [e]
    exact hof)
  have HB2 := Lib.hid hb2
  clear hw2 hb2 hg4 q1 q2 q3 hz hL2 hR2 hps hbw hof
  refine wpAnyH_ready (rs := [4]) (by kernel_rfl) (by simp) ?_
  refine AllReadyH.cons (o := _) rfl (fun K hK => ?_) AllReadyH.nil
  go_simp
  refine HOF.out.mono ?_
  rintro e w6 ⟨rfl, hb6⟩
  have hbb : Below w1.heap.size w1 w6 := HB2.out.trans (hb6.mono HB2.out.size)
  have HO := Lib.hid ((hbb.block rb (by have := HZ1.out; have := HRR.out; omega)).trans HG1.out)
  have HBB := Lib.hid (HB1.out.trans (hbb.mono (by have := HZ1.out; omega)))
  have HSZ := Lib.hid (show w.heap.size ≤ w6.heap.size by have := hbb.size; have := HZ1.out; omega)
  clear hb6 hbb
  refine hK.out _ _ trivial (fun hHeld => ?_)
  clear hK K
  (try simp only [Act.put, List.setIfInBounds_toArray, List.set_cons_zero, List.set_cons_succ, List.getElem_toArray, List.getElem_cons_succ, List.getElem_cons_zero])
  have hO := HO.out
  rw [HOO.out] at hO
  have HTH := Lib.hid (there_block hO)
  have HGF := Lib.hid (setCells_all hO E.toList (by rw [Array.length_toList, HES.out]; rfl))
  clear hO
  refine wpAnyH_ready (rs := [5]) (by kernel_rfl) (by simp) ?_
  refine AllReadyH.cons (o := _) rfl (fun K hK => ?_) AllReadyH.nil
  refine S_store_mid rfl 23 (.tmp 6) (.tmp 11) (by rfl) rb 0 E (by rfl) (by rfl) (by rw [HES.out]; exact HTH.out) (by rw [HES.out]; exact info38) HE1.out ?_
  refine hK.out _ _ trivial (fun hHeld => ?_)
  clear hK K
  (try simp only [Act.put, List.setIfInBounds_toArray, List.set_cons_zero, List.set_cons_succ, List.getElem_toArray, List.getElem_cons_succ, List.getElem_cons_zero])
  refine wpAnyH_done (by kernel_rfl) ?_ _
  have HB9 := Lib.hid (HBB.out.grown (setCells_grown rb E.toList 0 w6) HSZ.out (fun k hk => by rw [← Option.some.inj hk]; exact HRB.out))
  generalize w6.setCells rb 0 E.toList = w9 at *
  have HGF9 := Lib.hid (show w9.heap[rb]? = some (.cells E 23 (0, 0)) by have := HGF.out; simpa using this)
  clear HTH HGF
  go_wp2_with fail
  refine bodyPost_ret (v := .agg E) (results_cell_row (p := 6) (ty := 23) rfl _ _ rb 23 E (0, 0) _ rfl HGF9.out Tryz.underlying23 rfl (by rw [HES.out]; exact info38)) rfl ⟨by rw [HE.out], ?_⟩
  exact HB9.out

end Go.Proofs.YtoboabkaojfbaaaGreatDoor
namespace Go.Proofs.YtoboabkaojfbaaaGreatDoor
open Go Go.RowKit
set_option maxRecDepth 100000
set_option maxHeartbeats 1000000
set_option linter.unusedVariables false
set_option linter.unusedSimpArgs false

/-- A digest: 32 bytes. -/
abbrev Dg := {d : List UInt8 // d.length = 32}
def dgE (d : Dg) : List Value := d.1.map b8
theorem dgE_len (d : Dg) : (dgE d).length = 32 := by simp [dgE, d.2]
/-- Digests one behind the other. -/
abbrev DS (w : World) (a : Option Addr) (n c : Nat) (ds : List Dg) : Prop := RS 32 dgE w a n c ds
theorem DS.at {w : World} {a : Option Addr} {n c : Nat} {ds : List Dg} (h : DS w a n c ds) {i : Nat} {d : Dg} (hi : ds[i]? = some d) : ∃ b off, a = some ⟨b, off, none⟩ ∧ b < w.heap.size ∧ w.rangeAt b (off + i * 32) (d.1.map b8) := by
  obtain ⟨b, off, e, hc⟩ := h.2.2.2 i d hi
  refine ⟨b, off, e, ?_, fun j v hj => by rw [Nat.add_assoc]; have := hc j v hj; rwa [Nat.add_assoc] at this⟩
  have h0 : (dgE d)[0]? = some (b8 (d.1[0]'(by rw [d.2]; omega))) := by unfold dgE; rw [List.getElem?_map, List.getElem?_eq_getElem (by rw [d.2]; omega)]; rfl
  exact World.block_lt_of_cell? w _ (hc 0 _ h0)
theorem flatD_take {ds : List Dg} {k : Nat} {d : Dg} (h : ds[k]? = some d) : ((ds.take (k + 1)).map (·.1)).flatten = ((ds.take k).map (·.1)).flatten ++ d.1 := by
  rw [List.take_add_one, h]; simp
theorem flatD_len : ∀ ds : List Dg, ((ds.map (·.1)).flatten).length = 32 * ds.length
  | [] => rfl
  | d :: r => by
    rw [List.map_cons, List.flatten_cons, List.length_append, flatD_len r, d.2, List.length_cons]; omega
/-- A load of an array of cells out of the midst of a block, the array named. -/
theorem L_load_arr {P : Program} {ops : Array Oper} {rest : List Oper} {op : Oper} {a : Act} {w : World} {Q : Exit → Act → World → Prop} (hgd : op.guard = none) (ty : TypeId) (x : Operand) (ho : op.op = .load ty x)
    (b o : Nat) (hx : a.eval x = .pointer (some ⟨b, o, none⟩)) (D : Array Value) (d : TypeDesc) (hc : w.rangeAt b o D.toList)
    (hu : P.underlying ty = some d) (hd : d.isRow = true) (hi : (P.info? ty).map (·.size) = some D.size)
    (h : wpList P ops Q rest (a.put op.dst (.agg D)) w) : wpList P ops Q (op :: rest) a w :=
  wpList_load_mid hgd ty x ho b o hx D.toList d hc hu hd (by rw [hi, Array.length_toList]) (by rwa [Array.toArray_toList])
set_option maxHeartbeats 4000000
/-- Digests laid down. -/
theorem digs_any (w : World) (B gw : Nat) (l : List UInt8) (h : Wr w B gw l) (hl : l.length ≤ 1000000000000) (hB : B ≤ w.heap.size) (a : Option Addr) (n c : Nat) (ds : List Dg) (hd : DS w a n c ds) (hn : n ≤ 1000000000) (hap : ∀ x, a = some x → 0 < n → x.block < B) :
    Calls Tryz.prog 79 #[.pointer (some ⟨gw, 0, none⟩), .slice a n c] w fun e w' => e = .returned (.tuple #[]) ∧ Wr w' B gw (l ++ (ds.map (·.1)).flatten) ∧ Below B w w' := by
  have HD := Lib.hid hd
  have HAP := Lib.hid hap
  have HNL := Lib.hid hd.1
  clear hd hap
  go_enter Tryz.func79, Tryz.ntmps79
  go_wp2_with fail
  go_loopw [8, 5] (fun v _ wr => ∃ k : Nat, k ≤ n ∧ v = .int .i64 k ∧ Wr wr B gw (l ++ ((ds.take k).map (·.1)).flatten) ∧ Below B w wr) (fun v _ _ => n - (intOf v).toNat)
  case atStart => exact ⟨0, by omega, rfl, by simpa using h, Below.refl _ _⟩
  case round =>
    clear h
    obtain ⟨k, hkn, rfl, hh, hb⟩ := hrel
    by_cases hlt : k < n
    · obtain ⟨d, hdk⟩ : ∃ d, ds[k]? = some d := ⟨_, List.getElem?_eq_getElem (by rw [HNL.out]; exact hlt)⟩
      obtain ⟨b, off, rfl, hbl, hr⟩ := HD.out.at hdk
      have hbB : b < B := HAP.out _ rfl (by omega)
      have hr2 : wr.rangeAt b (off + k * 32) (d.1.map b8) := fun j v hj => (hb.cell (p := ⟨b, off + k * 32 + j, none⟩) hbB).trans (hr j v hj)
      have HR := Lib.hid hr2
      have HFL := Lib.hid (flatD_take hdk)
      have HH := Lib.hid hh
      have HB := Lib.hid hb
      have HLT := Lib.hid hlt
      have h9 : decide ((k : Int) < (n : Int)) = true := by simp; omega
      obtain ⟨D, hD⟩ : ∃ D, D = dgA d.1 := ⟨_, rfl⟩
      have HDD := Lib.hid hD
      have HDS := Lib.hid (show D.size = 32 by rw [hD, dgA_size, d.2])
      have HD1 := Lib.hid (show D.all (·.oneCell') = true by rw [hD]; exact dgA_all _)
      clear hdk hr hr2 hh hb hkn hbl hD
      go_upto_region 2 with (fail)
      clear h9
      have hg1 : (wr.alloc (.cells #[.int .u8 0, .int .u8 0, .int .u8 0, .int .u8 0, .int .u8 0, .int .u8 0, .int .u8 0, .int .u8 0, .int .u8 0, .int .u8 0, .int .u8 0, .int .u8 0, .int .u8 0, .int .u8 0, .int .u8 0, .int .u8 0, .int .u8 0, .int .u8 0, .int .u8 0, .int .u8 0, .int .u8 0, .int .u8 0, .int .u8 0, .int .u8 0, .int .u8 0, .int .u8 0, .int .u8 0, .int .u8 0, .int .u8 0, .int .u8 0, .int .u8 0, .int .u8 0] 23)).heap[wr.heap.size]? = some (.cells #[.int .u8 0, .int .u8 0, .int .u8 0, .int .u8 0, .int .u8 0, .int .u8 0, .int .u8 0, .int .u8 0, .int .u8 0, .int .u8 0, .int .u8 0, .int .u8 0, .int .u8 0, .int .u8 0, .int .u8 0, .int .u8 0, .int .u8 0, .int .u8 0, .int .u8 0, .int .u8 0, .int .u8 0, .int .u8 0, .int .u8 0, .int .u8 0, .int .u8 0, .int .u8 0, .int .u8 0, .int .u8 0, .int .u8 0, .int .u8 0, .int .u8 0, .int .u8 0] 23 (0, 0)) := heap_alloc_new wr _
      have HTH := Lib.hid (there_block hg1)
      have HGF := Lib.hid (setCells_all hg1 D.toList (by rw [Array.length_toList, HDS.out]; rfl))
      have HR2 := Lib.hid (show wr.rangeAt b (off + k * 32) D.toList by rw [HDD.out]; unfold dgA; rw [List.toList_toArray]; exact HR.out)
      clear hg1
      go_upto_region 3 with (first
        | (refine L_load_arr rfl 23 (.tmp 10) (by rfl) b (off + k * 32) (by rfl) D _ HR2.out Tryz.underlying23 rfl (by rw [HDS.out]; exact info38) ?_)
        | (refine wpList_store_mid rfl 23 (.tmp 5) (.tmp 11) (by rfl) wr.heap.size 0 D (by rfl) (by rfl) (by rw [HDS.out]; exact HTH.out) (by rw [HDS.out]; exact info38) HD1.out ?_))
      obtain ⟨gd, hgd⟩ : ∃ gd, gd = wr.heap.size := ⟨_, rfl⟩
      have hb2 : Below B w ((wr.alloc (.cells #[.int .u8 0, .int .u8 0, .int .u8 0, .int .u8 0, .int .u8 0, .int .u8 0, .int .u8 0, .int .u8 0, .int .u8 0, .int .u8 0, .int .u8 0, .int .u8 0, .int .u8 0, .int .u8 0, .int .u8 0, .int .u8 0, .int .u8 0, .int .u8 0, .int .u8 0, .int .u8 0, .int .u8 0, .int .u8 0, .int .u8 0, .int .u8 0, .int .u8 0, .int .u8 0, .int .u8 0, .int .u8 0, .int .u8 0, .int .u8 0, .int .u8 0, .int .u8 0] 23)).setCells gd 0 D.toList) := (HB.out.alloc (by have := HB.out.size; omega) _).grown (by rw [hgd]; exact setCells_grown _ _ _ _) (by rw [World.size_alloc]; have := HB.out.size; omega) (fun k hk => by rw [← Option.some.inj hk]; have := HB.out.size; omega)
      have hbr : Below wr.heap.size wr ((wr.alloc (.cells #[.int .u8 0, .int .u8 0, .int .u8 0, .int .u8 0, .int .u8 0, .int .u8 0, .int .u8 0, .int .u8 0, .int .u8 0, .int .u8 0, .int .u8 0, .int .u8 0, .int .u8 0, .int .u8 0, .int .u8 0, .int .u8 0, .int .u8 0, .int .u8 0, .int .u8 0, .int .u8 0, .int .u8 0, .int .u8 0, .int .u8 0, .int .u8 0, .int .u8 0, .int .u8 0, .int .u8 0, .int .u8 0, .int .u8 0, .int .u8 0, .int .u8 0, .int .u8 0] 23)).setCells gd 0 D.toList) := ((Below.refl _ _).alloc (Nat.le_refl _) _).grown (by rw [hgd]; exact setCells_grown _ _ _ _) (by rw [World.size_alloc]; omega) (fun k hk => by rw [← Option.some.inj hk]; exact Nat.le_refl _)
      rw [← hgd] at HGF ⊢
      have hz2 : ((wr.alloc (.cells #[.int .u8 0, .int .u8 0, .int .u8 0, .int .u8 0, .int .u8 0, .int .u8 0, .int .u8 0, .int .u8 0, .int .u8 0, .int .u8 0, .int .u8 0, .int .u8 0, .int .u8 0, .int .u8 0, .int .u8 0, .int .u8 0, .int .u8 0, .int .u8 0, .int .u8 0, .int .u8 0, .int .u8 0, .int .u8 0, .int .u8 0, .int .u8 0, .int .u8 0, .int .u8 0, .int .u8 0, .int .u8 0, .int .u8 0, .int .u8 0, .int .u8 0, .int .u8 0] 23)).setCells gd 0 D.toList).heap.size = gd + 1 := by rw [setCells_size, World.size_alloc, hgd]
      generalize (wr.alloc (.cells #[.int .u8 0, .int .u8 0, .int .u8 0, .int .u8 0, .int .u8 0, .int .u8 0, .int .u8 0, .int .u8 0, .int .u8 0, .int .u8 0, .int .u8 0, .int .u8 0, .int .u8 0, .int .u8 0, .int .u8 0, .int .u8 0, .int .u8 0, .int .u8 0, .int .u8 0, .int .u8 0, .int .u8 0, .int .u8 0, .int .u8 0, .int .u8 0, .int .u8 0, .int .u8 0, .int .u8 0, .int .u8 0, .int .u8 0, .int .u8 0, .int .u8 0, .int .u8 0] 23)).setCells gd 0 D.toList = w2 at *
      have hg2 : w2.heap[gd]? = some (.cells (dgA d.1) 23 (0, 0)) := by rw [← HDD.out]; have := HGF.out; simpa using this
      have hw2 := HH.out.below hbr
      have hsrc := r8_dg hg2 d.2
      obtain ⟨hgw, v, hwh, hwo⟩ := hw2
      obtain ⟨L, hL⟩ : ∃ L, L = l ++ ((ds.take k).map (·.1)).flatten := ⟨_, rfl⟩
      have hLb : L.length ≤ 1000000000000 + 32000000000 := by rw [hL, List.length_append, flatD_len, List.length_take]; have := HNL.out; omega
      rw [← hL] at hwo
      have HL := Lib.hid hL
      have hlt2 : gw < w2.heap.size := (Array.getElem?_eq_some_iff.1 hwh).1
      have hne := own_neW hwo hwh (by decide)
      have hc : w2.cell? ⟨gw, 0, none⟩ = some v := by rw [cell_of_row _ _ _ _ _ _ hwh]; rfl
      have hf := frozen_of_row w2 gw 0 _ _ hwh
      have HSRC := Lib.hid hsrc; have HWH := Lib.hid hwh; have HWO := Lib.hid hwo; have HB2 := Lib.hid hb2
      have hz2' : B ≤ w2.heap.size := by have := HB.out.size; omega
      clear hL hsrc hwh hwo hb2 hbr hg2 HTH HGF hz2 hgd
      go_region_law (first
        | (refine S_append8 rfl (.tmp 16) (.tmp 17) 49 (by rfl) sl22 B v _ _ (by rfl) (show w2.drew.ownsRow B 5 1 v L.length (L.map b8) from HWO.out) (some ⟨gd, 0, none⟩) 32 32 d.1 (by rfl) (show R8 w2.drew (some ⟨gd, 0, none⟩) 32 32 d.1 from HSRC.out) (by omega) (by simp [maxLen]; omega) (show B ≤ w2.drew.heap.size from hz2') (fun a3 c3 w3 ho3 hg3 hat3 => ?_)
           have hc3 := (hg3.cell_far ⟨gw, 0, none⟩ hlt2 hne).trans (show w2.drew.cell? ⟨gw, 0, none⟩ = some v from hc)
           have hf3 := (hg3.frozen_far ⟨gw, 0, none⟩ hlt2 hne).trans (show w2.drew.frozen? ⟨gw, 0, none⟩ = false from hf)))
      all_goals
        have hh3 : w3.heap[gw]? = some (.cells #[v] 214 (0, 0)) := (hg3.block gw hlt2 hne).trans HWH.out
        have hne3 := own_neW ho3 hh3 (by decide)
        have hh4 := heap_setCell_same w3 gw 0 _ _ (.slice a3 (L.length + 32) c3) hh3
        have hgs : w3.grownBy (w3.setCell ⟨gw, 0, none⟩ (.slice a3 (L.length + 32) c3)) (some gw) := grown_set (grown_refl w3 (some gw)) 0 0 _
        have ho4 := ho3.kept hgs (.inr (fun e => hne3 e.symm))
        have hb4 : Below B w (w3.setCell ⟨gw, 0, none⟩ (.slice a3 (L.length + 32) c3)) := ((HB2.out.drew).grown hg3 hz2' (fun k hk => (HWO.out.lt k hk).1)).setCell hgw _
        have HW4 := Lib.hid (show Wr (w3.setCell ⟨gw, 0, none⟩ (.slice a3 (L.length + 32) c3)) B gw (l ++ ((ds.take (k + 1)).map (·.1)).flatten) by
          rw [HFL.out, ← List.append_assoc, ← HL.out]
          refine ⟨hgw, _, hh4, ?_⟩
          rw [List.length_append, d.2, List.map_append]
          exact ho4)
        have HB4 := Lib.hid hb4
        clear hh3 hne3 hh4 hgs ho4 hb4 hc3 hf3 hg3 ho3 hat3 hc hf hne
        have hlt := HLT.out
        go_wp2_with fail
        go_roundw
        case rel => exact ⟨k + 1, by omega, by go_num, HW4.out, HB4.out⟩
        case measure => simp [intOf]; omega
    · obtain rfl : k = n := by omega
      have h9 : decide ((k : Int) < (k : Int)) = false := by simp
      rw [List.take_of_length_le (by rw [HNL.out]; exact Nat.le_refl _)] at hh
      have HH := Lib.hid hh
      have HB := Lib.hid hb
      clear hlt hkn hh hb
      go_wp2_with fail
      go_end0
      exact ⟨rfl, HH.out, HB.out⟩
end Go.Proofs.YtoboabkaojfbaaaGreatDoor
