import Derived.Test.YtoboabkaojfbaaaGreatDoorQ14
import Derived.Test.YtoboabkaojfbaaaGreatDoorQ13
import Derived.IntWalk
import Derived.Test.YtoboabkaojfbaaaGreatDoorProg
import Derived.Shelf.Small.Bits
import Derived.Deep.RegionHeld3
import Derived.Deep.MidRow
import Derived.Test.YtoboabkaojfbaaaGreatDoorQ01
import Derived.Maps.OwnSet
import Derived.BigQuiet
import Derived.Deep.QuietTactic
namespace Go.Proofs.YtoboabkaojfbaaaGreatDoor
open Go Go.RowKit
set_option maxRecDepth 100000
set_option maxHeartbeats 4000000
set_option linter.unusedVariables false
set_option linter.unusedSimpArgs false
/-! octet.Reader's Digest, Left, Done, whatever they are asked. -/
theorem splice_head {α : Type} (cur x : List α) (h : x.length ≤ cur.length) : splice cur 0 x = x ++ cur.drop x.length := by
  unfold splice
  rw [List.take_zero, List.nil_append, Nat.zero_add]
theorem dgOf_cells (x : List UInt8) (h : x.length ≤ 32) : x.map b8 ++ (List.replicate 32 (b8 0)).drop (x.map b8).length = (dgA (dgOf x).1).toList := by
  unfold dgA dgOf
  rw [List.toList_toArray]
  show _ = ((x ++ List.replicate 32 0).take 32).map b8
  rw [List.take_append, List.take_of_length_le h, List.take_replicate, List.map_append, List.map_replicate, List.length_map, List.drop_replicate, show min (32 - x.length) 32 = 32 - x.length by omega]
theorem digest_g (w : World) (B gr : Nat) (s : Rs) (h : RdG w B gr s) (hB : B ≤ w.heap.size) :
    Calls Tryz.prog 104 #[.pointer (some ⟨gr, 0, none⟩)] w fun e w' => e = .returned (.agg (dgA (rDg s).1.1)) ∧ RdG w' B gr (rDg s).2 ∧ w.grownBy w' (some gr) := by
  have HH := Lib.hid h
  have hgl := h.lt
  obtain ⟨E, hE⟩ : ∃ E, E = dgA (rDg s).1.1 := ⟨_, rfl⟩
  have HE := Lib.hid hE
  have HES := Lib.hid (show E.size = 32 by rw [hE, dgA_size, (rDg s).1.2])
  have HE1 := Lib.hid (show E.all (·.oneCell') = true by rw [hE]; exact dgA_all _)
  have HBW := Lib.hid hB
  clear hE h hB
  go_enter Tryz.func104, Tryz.ntmps104
  go_upto_region 2 with (fail)
  obtain ⟨o1, ho1⟩ : ∃ o1 : Obj, o1 = .cells #[.int .u8 0, .int .u8 0, .int .u8 0, .int .u8 0, .int .u8 0, .int .u8 0, .int .u8 0, .int .u8 0, .int .u8 0, .int .u8 0, .int .u8 0, .int .u8 0, .int .u8 0, .int .u8 0, .int .u8 0, .int .u8 0, .int .u8 0, .int .u8 0, .int .u8 0, .int .u8 0, .int .u8 0, .int .u8 0, .int .u8 0, .int .u8 0, .int .u8 0, .int .u8 0, .int .u8 0, .int .u8 0, .int .u8 0, .int .u8 0, .int .u8 0, .int .u8 0] 23 := ⟨_, rfl⟩
  rw [← ho1]
  have hb1 : Below w.heap.size w ((w.alloc o1).alloc o1) := ((Below.refl _ _).alloc (Nat.le_refl _) _).alloc (by simp) _
  have hg1 : ((w.alloc o1).alloc o1).heap[w.heap.size]? = some o1 := heap_alloc2_old w _ _
  have hg3 : ((w.alloc o1).alloc o1).heap[w.heap.size + 1]? = some o1 := heap_alloc2_new w _ _
  have hz1 : ((w.alloc o1).alloc o1).heap.size = w.heap.size + 2 := by simp
  generalize (w.alloc o1).alloc o1 = w1 at *
  obtain ⟨rb, hrb⟩ : ∃ rb, rb = w.heap.size := ⟨_, rfl⟩
  obtain ⟨g3, hg3e⟩ : ∃ g3, g3 = w.heap.size + 1 := ⟨_, rfl⟩
  rw [← hg3e] at hg3
  rw [← hrb] at hg1
  rw [← hg3e, ← hrb]
  have HB1 := Lib.hid hb1; have HG1 := Lib.hid hg1; have HZ1 := Lib.hid hz1; have HOO := Lib.hid ho1; have HG3 := Lib.hid hg3
  have HRR := Lib.hid (show rb = w.heap.size ∧ g3 = w.heap.size + 1 from ⟨hrb, hg3e⟩)
  have HRW := Lib.hid (raw_g w1.drew B gr s 32 (show RdG w1 B gr s from HH.out.below HB1.out) (by decide))
  clear hb1 hg1 hz1 ho1 hg3 hrb hg3e
  refine wp_region_held_drew (S := fun _ => True) (by kernel_rfl) trivial (fun hHeld => ?_)
  apply wpT 0
  apply wpT 1
  apply wpR 2
  intro K hK
  go_simp
  refine HRW.out.mono ?_
  rintro e w4 ⟨a2, n2, c2, rfl, hr4, hrd4, hg4, hfar⟩
  have hg4 : w1.grownBy w4 (some gr) := ⟨hg4.os, hg4.tape, hg4.output, hg4.size, hg4.block⟩
  obtain ⟨q1, q2⟩ := HRR.out
  have h43 : w4.heap[g3]? = some (.cells (List.replicate 32 (b8 0)).toArray 23 (0, 0)) := by
    rw [hg4.block g3 (by have := HZ1.out; omega) (fun e => by have := Option.some.inj e; omega), HG3.out, HOO.out]; rfl
  have HG4 := Lib.hid hg4; have HR4 := Lib.hid hr4; have HRD4 := Lib.hid hrd4; have H43 := Lib.hid h43
  have HFAR := Lib.hid hfar
  clear hg4 hr4 hrd4 hfar h43 q1 q2
  apply bk hK
  · exact trivial
  intro hHeld
  clear hK K
  apply wpR 3
  intro K hK
  have hnl := HR4.out.1
  have hle := rRaw_le 32 s
  refine S_copyIn rfl (.tmp 4) (.tmp 6) 49 49 (by rfl) sl22 g3 0 32 32 (by rfl) (List.replicate 32 (b8 0)) 23 H43.out (by simp) a2 n2 c2 (rRaw 32 s).1 (by rfl) HR4.out (fun w5 hb5 hg5 => ?_)
  rw [List.take_of_length_le hle, splice_head _ _ (by rw [List.length_map, List.length_replicate]; exact hle), dgOf_cells _ hle] at hb5
  have hE5 : w5.heap[g3]? = some (.cells E 23 (0, 0)) := by rw [HE.out]; unfold rDg; simpa using hb5
  have HE5 := Lib.hid hE5; have HG5 := Lib.hid hg5
  clear hb5 hg5 hE5 hnl hle
  apply bk hK
  · exact trivial
  intro hHeld
  clear hK K
  refine wpAnyH_done (by kernel_rfl) ?_ _
  have ho5 : w5.heap[rb]? = some o1 := by
    obtain ⟨q1, q2⟩ := HRR.out
    rw [HG5.out.block rb (by have := HG4.out.size; have := HZ1.out; omega) (fun e => by have := Option.some.inj e; omega), HG4.out.block rb (by have := HZ1.out; omega) (fun e => by have := Option.some.inj e; omega)]
    exact HG1.out
  have HO := Lib.hid ho5
  clear ho5
  have hO := HO.out
  rw [HOO.out] at hO
  have HTH := Lib.hid (there_block hO)
  have HGF := Lib.hid (setCells_all hO E.toList (by rw [Array.length_toList, HES.out]; rfl))
  clear hO
  go_upto_region 3 with (fail)
  refine wp_region_lit ?_
  refine wpList_load_row rfl 23 (.tmp 3) (by rfl) g3 (by rfl) 23 E (0, 0) _ HE5.out Tryz.underlying23 rfl (by rw [HES.out]; exact info38) ?_
  refine wpList_store_mid rfl 23 (.tmp 2) (.tmp 8) (by rfl) rb 0 E (by rfl) (by rfl) (by rw [HES.out]; exact HTH.out) (by rw [HES.out]; exact info38) HE1.out ?_
  have HGS := Lib.hid (setCells_grown rb E.toList 0 w5)
  generalize w5.setCells rb 0 E.toList = w9 at *
  have HGF9 := Lib.hid (show w9.heap[rb]? = some (.cells E 23 (0, 0)) by have := HGF.out; simpa using this)
  clear HTH HGF
  go_wp2_with fail
  refine bodyPost_ret (v := .agg E) (results_cell_row (p := 2) (ty := 23) rfl _ _ rb 23 E (0, 0) _ rfl HGF9.out Tryz.underlying23 rfl (by rw [HES.out]; exact info38)) rfl ⟨by rw [HE.out], ?_, ?_⟩
  · obtain ⟨q1, q2⟩ := HRR.out
    have hbw := HBW.out
    exact (HRD4.out.far HG5.out (by omega) (by omega)).far HGS.out (by omega) (by omega)
  · obtain ⟨q1, q2⟩ := HRR.out
    have hs4 := HG4.out.size
    have hs5 := HG5.out.size
    have hz := HZ1.out
    exact ⟨HGS.out.os.trans (HG5.out.os.trans (HG4.out.os.trans HB1.out.os)), HGS.out.tape.trans (HG5.out.tape.trans (HG4.out.tape.trans HB1.out.tape)), HGS.out.output.trans (HG5.out.output.trans (HG4.out.output.trans HB1.out.output)), by have := HGS.out.size; omega, fun k hk hne => (HGS.out.block k (by omega) (fun e => by have := Option.some.inj e; omega)).trans ((HG5.out.block k (by omega) (fun e => by have := Option.some.inj e; omega)).trans ((HG4.out.block k (by omega) hne).trans (HB1.out.block k hk)))⟩
theorem left_g (w : World) (B gr : Nat) (s : Rs) (h : RdG w B gr s) :
    Calls Tryz.prog 175 #[.pointer (some ⟨gr, 0, none⟩)] w fun e w' => e = .returned (.int .i64 (s.1.length : Int)) ∧ ∃ k, w' = w.drewN k := by
  obtain ⟨a, n, c, l, p, hh, hr, hap, hn, hp, hl, -⟩ := h
  have hnl := hr.1
  have k0 : w.cell? ⟨gr, 0, none⟩ = some (.slice a n c) := by rw [cell_of_row _ _ _ _ _ _ hh]; rfl
  have k1 : w.cell? ⟨gr, 1, none⟩ = some (.int .i64 (p : Int)) := by rw [cell_of_row _ _ _ _ _ _ hh]; rfl
  have hw1 : IntKind.i64.wrap ((n : Int) - (p : Int)) = (n : Int) - (p : Int) := IntWalk.i64_in _ (by omega)
  have HE := Lib.hid (show (n : Int) - (p : Int) = (s.1.length : Int) by rw [hl, List.length_drop]; omega)
  clear hh hr hap hl hnl
  go_enter Tryz.func175, Tryz.ntmps175
  go_upto_region 1 with (fail)
  go_quiet (fail)
  go_wp2_with fail
  go_ret
  exact ⟨by rw [HE.out]; rfl, _, rfl⟩
theorem done_g (w : World) (B gr : Nat) (s : Rs) (h : RdG w B gr s) :
    Calls Tryz.prog 107 #[.pointer (some ⟨gr, 0, none⟩)] w fun e w' => e = .returned (.int .i64 (rDone s : Nat)) ∧ ∃ k, w' = w.drewN k := by
  have HL := Lib.hid (left_g w B gr s h)
  have HC := Lib.hid (fun k => show (w.drewN k).cell? ⟨gr, 2, none⟩ = some (.int .i64 (s.2 : Int)) by
    obtain ⟨a, n, c, l, p, hh, -⟩ := h.drewN k
    rw [cell_of_row _ _ _ _ _ _ hh]; rfl)
  have k2 : w.cell? ⟨gr, 2, none⟩ = some (.int .i64 (s.2 : Int)) := HC.out 0
  clear h
  obtain ⟨r, q⟩ := s
  by_cases hq : q = 0
  · subst hq
    by_cases hl : 0 < r.length
    · have e : rDone (r, 0) = 8 := by unfold rDone; rw [if_pos ⟨rfl, hl⟩]
      rw [e]
      have h9 : decide ((0 : Int) < (r.length : Int)) = true := by rw [decide_eq_true_eq]; omega
      have k2 : w.cell? ⟨gr, 2, none⟩ = some (.int .i64 0) := k2
      go_enter Tryz.func107, Tryz.ntmps107
      go_wp2_with (go_at_call 175; ((with_reducible refine HL.out.mono ?_); rintro e w' ⟨rfl, k, rfl⟩))
      go_ret
      exact ⟨rfl, _, rfl⟩
    · have e : rDone (r, 0) = 0 := by unfold rDone; rw [if_neg (fun h => hl h.2)]
      rw [e]
      have h9 : decide ((0 : Int) < (r.length : Int)) = false := by rw [decide_eq_false_iff_not]; omega
      have k2 : w.cell? ⟨gr, 2, none⟩ = some (.int .i64 0) := k2
      go_enter Tryz.func107, Tryz.ntmps107
      go_wp2_with (go_at_call 175; ((with_reducible refine HL.out.mono ?_); rintro e w' ⟨rfl, k, rfl⟩; have k3 : (w.drewN k).cell? ⟨gr, 2, none⟩ = some (.int .i64 0) := HC.out k))
      go_ret
      exact ⟨rfl, _, rfl⟩
  · have e : rDone (r, q) = q := by unfold rDone; rw [if_neg (fun h => hq h.1)]
    rw [e]
    have h9 : ((q : Int) == 0) = false := by simpa using hq
    have k2 : w.cell? ⟨gr, 2, none⟩ = some (.int .i64 (q : Int)) := k2
    go_enter Tryz.func107, Tryz.ntmps107
    go_wp2_with fail
    go_ret
    exact ⟨rfl, 0, rfl⟩
end Go.Proofs.YtoboabkaojfbaaaGreatDoor
namespace Go.Proofs.YtoboabkaojfbaaaGreatDoor
open Go Go.RowKit
set_option maxRecDepth 100000
set_option maxHeartbeats 1000000
set_option linter.unusedVariables false
set_option linter.unusedSimpArgs false

open Go.Maps Go.WideMaps Go.ChangeMaps
def zDg : Dg := ⟨List.replicate 32 0, rfl⟩
set_option maxHeartbeats 4000000
end Go.Proofs.YtoboabkaojfbaaaGreatDoor
namespace Go.Proofs.YtoboabkaojfbaaaGreatDoor
open Go Go.RowKit
set_option maxRecDepth 100000
set_option maxHeartbeats 4000000
set_option linter.unusedVariables false
set_option linter.unusedSimpArgs false
/-! A head's cells. -/
def HB (a : Dg) (s : Int) (b c : Dg) (t : Int) : List Value := dgE a ++ (.int .i64 s :: (dgE b ++ (dgE c ++ [.int .i64 t])))
def hdE (h : Hd) : List Value := HB h.log h.size h.root h.index h.clock
def hdA (h : Hd) : Array Value := (hdE h).toArray
theorem HB_len (a : Dg) (s : Int) (b c : Dg) (t : Int) : (HB a s b c t).length = 98 := by simp [HB, dgE_len]
theorem hdA_size (h : Hd) : (hdA h).size = 98 := by unfold hdA hdE; rw [List.size_toArray, HB_len]
theorem HB_one (a : Dg) (s : Int) (b c : Dg) (t : Int) : (HB a s b c t).toArray.all (·.oneCell') = true := by
  refine all_oneCell_toArray (fun v hv => ?_)
  unfold HB dgE at hv
  simp only [List.mem_append, List.mem_cons, List.mem_singleton, List.not_mem_nil, or_false] at hv
  rcases hv with h | rfl | h | h | rfl
  · exact b8_one _ v h
  · rfl
  · exact b8_one _ v h
  · exact b8_one _ v h
  · rfl
theorem hdA_one (h : Hd) : (hdA h).all (·.oneCell') = true := HB_one _ _ _ _ _
def o25 : Obj := .cells (HB zDg 0 zDg zDg 0).toArray 25
theorem z25 : (Obj.cells #[.int .u8 0, .int .u8 0, .int .u8 0, .int .u8 0, .int .u8 0, .int .u8 0, .int .u8 0, .int .u8 0, .int .u8 0, .int .u8 0, .int .u8 0, .int .u8 0, .int .u8 0, .int .u8 0, .int .u8 0, .int .u8 0, .int .u8 0, .int .u8 0, .int .u8 0, .int .u8 0, .int .u8 0, .int .u8 0, .int .u8 0, .int .u8 0, .int .u8 0, .int .u8 0, .int .u8 0, .int .u8 0, .int .u8 0, .int .u8 0, .int .u8 0, .int .u8 0, .int .i64 0, .int .u8 0, .int .u8 0, .int .u8 0, .int .u8 0, .int .u8 0, .int .u8 0, .int .u8 0, .int .u8 0, .int .u8 0, .int .u8 0, .int .u8 0, .int .u8 0, .int .u8 0, .int .u8 0, .int .u8 0, .int .u8 0, .int .u8 0, .int .u8 0, .int .u8 0, .int .u8 0, .int .u8 0, .int .u8 0, .int .u8 0, .int .u8 0, .int .u8 0, .int .u8 0, .int .u8 0, .int .u8 0, .int .u8 0, .int .u8 0, .int .u8 0, .int .u8 0, .int .u8 0, .int .u8 0, .int .u8 0, .int .u8 0, .int .u8 0, .int .u8 0, .int .u8 0, .int .u8 0, .int .u8 0, .int .u8 0, .int .u8 0, .int .u8 0, .int .u8 0, .int .u8 0, .int .u8 0, .int .u8 0, .int .u8 0, .int .u8 0, .int .u8 0, .int .u8 0, .int .u8 0, .int .u8 0, .int .u8 0, .int .u8 0, .int .u8 0, .int .u8 0, .int .u8 0, .int .u8 0, .int .u8 0, .int .u8 0, .int .u8 0, .int .u8 0, .int .i64 0] 25) = o25 := rfl
theorem info25 : (Tryz.prog.info? 25).map (·.size) = some 98 := by kernel_rfl
section
variable {w : World} {g : Nat} {a b c : Dg} {s t : Int}
theorem HB.at_size (h : w.heap[g]? = some (.cells (HB a s b c t).toArray 25)) : w.cell? ⟨g, 32, none⟩ = some (.int .i64 s) := by
  rw [cell_of_row _ _ _ _ _ _ h, List.getElem?_toArray]
  unfold HB
  rw [List.getElem?_append_right (by rw [dgE_len]; omega), dgE_len]; rfl
theorem HB.at_clock (h : w.heap[g]? = some (.cells (HB a s b c t).toArray 25)) : w.cell? ⟨g, 97, none⟩ = some (.int .i64 t) := by
  rw [cell_of_row _ _ _ _ _ _ h, List.getElem?_toArray]
  unfold HB
  rw [List.getElem?_append_right (by rw [dgE_len]; omega), dgE_len, show 97 - 32 = 64 + 1 from rfl, List.getElem?_cons_succ, List.getElem?_append_right (by rw [dgE_len]; omega), dgE_len, List.getElem?_append_right (by rw [dgE_len]; omega), dgE_len]; rfl
theorem HB.range (h : w.heap[g]? = some (.cells (HB a s b c t).toArray 25)) (off : Nat) (x : Dg) (hx : ∀ i, i < 32 → (HB a s b c t)[off + i]? = (dgE x)[i]?) : w.rangeAt g off (dgE x) := fun i v hv => by
  have hi : i < 32 := by have := (List.getElem?_eq_some_iff.1 hv).1; rwa [dgE_len] at this
  rw [cell_of_row _ _ _ _ _ _ h, List.getElem?_toArray, hx i hi, hv]
theorem HB.r_log (h : w.heap[g]? = some (.cells (HB a s b c t).toArray 25)) : w.rangeAt g 0 (dgE a) := HB.range h 0 a (fun i hi => by unfold HB; rw [Nat.zero_add, List.getElem?_append_left (by rw [dgE_len]; exact hi)])
theorem HB.r_root (h : w.heap[g]? = some (.cells (HB a s b c t).toArray 25)) : w.rangeAt g 33 (dgE b) := HB.range h 33 b (fun i hi => by
  unfold HB
  rw [List.getElem?_append_right (by rw [dgE_len]; omega), dgE_len, show 33 + i - 32 = i + 1 by omega, List.getElem?_cons_succ, List.getElem?_append_left (by rw [dgE_len]; exact hi)])
theorem HB.r_index (h : w.heap[g]? = some (.cells (HB a s b c t).toArray 25)) : w.rangeAt g 65 (dgE c) := HB.range h 65 c (fun i hi => by
  unfold HB
  rw [List.getElem?_append_right (by rw [dgE_len]; omega), dgE_len, show 65 + i - 32 = (32 + i) + 1 by omega, List.getElem?_cons_succ, List.getElem?_append_right (by rw [dgE_len]; omega), dgE_len, Nat.add_sub_cancel_left, List.getElem?_append_left (by rw [dgE_len]; exact hi)])
theorem HB.there (h : w.heap[g]? = some (.cells (HB a s b c t).toArray 25)) (off n : Nat) (hn : off + n ≤ 98) : w.there g off n := fun j hj => by
  have hl : off + j < (HB a s b c t).length := by rw [HB_len]; omega
  rw [cell_of_row _ _ _ _ _ _ h, List.getElem?_toArray, List.getElem?_eq_getElem hl]
  exact ⟨rfl, frozen_of_row w g _ _ _ h⟩
theorem HB.s_log (h : w.heap[g]? = some (.cells (HB a s b c t).toArray 25)) (x : Dg) : (w.setCells g 0 (dgE x)).heap[g]? = some (.cells (HB x s b c t).toArray 25) := by
  have := setCells_whole g (dgE x) [] (HB a s b c t) w 25 (by simpa using h) (by rw [dgE_len, HB_len]; omega)
  rw [List.length_nil] at this
  rw [this, dgE_len]
  unfold HB
  rw [List.nil_append, List.drop_append_of_le_length (by rw [dgE_len]; omega), List.drop_of_length_le (by rw [dgE_len]; omega), List.nil_append]
theorem HB.s_root (h : w.heap[g]? = some (.cells (HB a s b c t).toArray 25)) (x : Dg) : (w.setCells g 33 (dgE x)).heap[g]? = some (.cells (HB a s x c t).toArray 25) := by
  have := setCells_whole g (dgE x) (dgE a ++ [.int .i64 s]) (dgE b ++ (dgE c ++ [.int .i64 t])) w 25 (by unfold HB at h; simpa using h) (by simp [dgE_len])
  rw [show (dgE a ++ [Value.int .i64 s]).length = 33 by simp [dgE_len]] at this
  rw [this, dgE_len, List.drop_append_of_le_length (by rw [dgE_len]; omega), List.drop_of_length_le (by rw [dgE_len]; omega), List.nil_append]
  unfold HB
  simp only [List.append_assoc, List.cons_append, List.nil_append]
theorem HB.s_index (h : w.heap[g]? = some (.cells (HB a s b c t).toArray 25)) (x : Dg) : (w.setCells g 65 (dgE x)).heap[g]? = some (.cells (HB a s b x t).toArray 25) := by
  have := setCells_whole g (dgE x) (dgE a ++ (.int .i64 s :: dgE b)) (dgE c ++ [.int .i64 t]) w 25 (by unfold HB at h; simpa using h) (by simp [dgE_len])
  rw [show (dgE a ++ (Value.int .i64 s :: dgE b)).length = 65 by simp [dgE_len]] at this
  rw [this, dgE_len, List.drop_append_of_le_length (by rw [dgE_len]; omega), List.drop_of_length_le (by rw [dgE_len]; omega), List.nil_append]
  unfold HB
  simp only [List.append_assoc, List.cons_append, List.nil_append]
theorem HB.s_size (h : w.heap[g]? = some (.cells (HB a s b c t).toArray 25)) (x : Int) : (w.setCell ⟨g, 32, none⟩ (.int .i64 x)).heap[g]? = some (.cells (HB a x b c t).toArray 25) := by
  have := heap_setCell_same w g 32 _ _ (.int .i64 x) h
  rw [this]
  unfold HB
  rw [List.setIfInBounds_toArray, List.set_append_right _ _ (by rw [dgE_len]; omega), dgE_len]; rfl
theorem HB.s_clock (h : w.heap[g]? = some (.cells (HB a s b c t).toArray 25)) (x : Int) : (w.setCell ⟨g, 97, none⟩ (.int .i64 x)).heap[g]? = some (.cells (HB a s b c x).toArray 25) := by
  have := heap_setCell_same w g 97 _ _ (.int .i64 x) h
  rw [this]
  unfold HB
  rw [List.setIfInBounds_toArray, List.set_append_right _ _ (by rw [dgE_len]; omega), dgE_len, show 97 - 32 = 64 + 1 from rfl, List.set_cons_succ, List.set_append_right _ _ (by rw [dgE_len]; omega), dgE_len, List.set_append_right _ _ (by rw [dgE_len]; omega), dgE_len]; rfl
end
/-- A block that is not written over. -/
theorem blk_keep {w w' : World} {k g : Nat} {o : Obj} (hg : w.grownBy w' (some k)) (h : w.heap[g]? = some o) (hne : g ≠ k) : w'.heap[g]? = some o :=
  (hg.block g (Array.getElem?_eq_some_iff.1 h).1 (fun e => hne (Option.some.inj e))).trans h
/-- head.right. -/
theorem right_any (w : World) (h : Hd) : Calls Tryz.prog 96 #[.agg (hdA h)] w fun e w' => e = .returned (.bool (rightH h)) ∧ Below w.heap.size w w' := by
  have HN := Lib.hid (heap_alloc_new w (.cells (hdA h) 25))
  have HBW := Lib.hid ((Below.refl w.heap.size w).alloc (Nat.le_refl _) (.cells (hdA h) 25))
  obtain ⟨A, hA⟩ : ∃ A, A = hdA h := ⟨_, rfl⟩
  have HA := Lib.hid hA
  rw [← hA] at HN HBW ⊢
  clear hA
  go_enter Tryz.func96, Tryz.ntmps96
  go_upto_region 1 with (fail)
  have h1 := HN.out
  generalize w.alloc (.cells A 25) = w1 at *
  rw [HA.out] at h1
  have k1 := HB.at_size h1
  have k2 := HB.at_clock h1
  clear h1
  obtain ⟨s, hs⟩ : ∃ s, s = h.size := ⟨_, rfl⟩
  obtain ⟨t, ht⟩ : ∃ t, t = h.clock := ⟨_, rfl⟩
  have HR := Lib.hid (show rightH h = (decide (0 ≤ s) && decide (s ≤ 1099511627776) && decide (0 ≤ t) && decide (t ≤ 4611686018427387904)) by rw [hs, ht]; rfl)
  rw [← hs] at k1
  rw [← ht] at k2
  clear hs ht
  by_cases c1 : 0 ≤ s
  · by_cases c2 : s ≤ 1099511627776
    · by_cases c3 : 0 ≤ t
      · have d1 := decide_eq_true c1; have d2 := decide_eq_true c2; have d3 := decide_eq_true c3
        clear c1 c2 c3
        go_wp2_with fail
        go_ret
        exact ⟨by rw [HR.out]; simp [d1, d2, d3], HBW.out⟩
      · have d1 := decide_eq_true c1; have d2 := decide_eq_true c2; have d3 := decide_eq_false c3
        clear c1 c2 c3
        go_wp2_with fail
        go_ret
        exact ⟨by rw [HR.out]; simp [d1, d2, d3], HBW.out⟩
    · have d1 := decide_eq_true c1; have d2 := decide_eq_false c2
      clear c1 c2
      go_wp2_with fail
      go_ret
      exact ⟨by rw [HR.out]; simp [d1, d2], HBW.out⟩
  · have d1 := decide_eq_false c1
    clear c1
    go_wp2_with fail
    go_ret
    exact ⟨by rw [HR.out]; simp [d1], HBW.out⟩
end Go.Proofs.YtoboabkaojfbaaaGreatDoor
/-
  DERIVED: THE SHELF's CONTRACTS AT THIS DUMP, IN PLAIN WORDS (tools/lay-plain.mjs out of 'YtoboabkaojfbaaaGreatDoorLaySB.lean', which tools/lay-shelf.mjs wrote): THE SAME DECLARATIONS UNDER THE SAME NAMES: 'import', 'namespace', 'open', 'def', 'theorem' AND NOTHING ELSE: no command of the shelf's: FOR A HAND-IN. Each laying: the table of numbers ('.._ren') and one theorem, a field a fact of the dump's own or the kernel's comparison; each contract: ONE APPLICATION.
-/
namespace Go.Proofs
open Go.Shelf
def Tryz.lays125_ren : Go.Shelf.Ren := ⟨fun | 125 => 218 | 128 => 244 | 129 => 245 | n => n, fun | 46 => 57 | 3 => 3 | 51 => 216 | 53 => 140 | 4 => 4 | 5 => 5 | 9 => 9 | n => n, fun | n => n⟩
theorem Tryz.lays125 : Go.Proofs.Lays.n125 Tryz.prog Tryz.lays125_ren := {
  mixed := by kernel_rfl
  f125 := Tryz.func218.trans (congrArg some (by kernel_rfl))
  f128 := Tryz.func244.trans (congrArg some (by kernel_rfl))
  f129 := Tryz.func245.trans (congrArg some (by kernel_rfl))
  t3 := Tryz.underlying3
  a3 := Tryz.isAgg3
  z3 := Tryz.sizeOf3
  v3 := Tryz.zeroValue3
  t4 := Tryz.underlying4
  a4 := Tryz.isAgg4
  z4 := Tryz.sizeOf4
  v4 := Tryz.zeroValue4
  t5 := Tryz.underlying5
  a5 := Tryz.isAgg5
  z5 := Tryz.sizeOf5
  v5 := Tryz.zeroValue5
  t9 := Tryz.underlying9
  a9 := Tryz.isAgg9
  z9 := Tryz.sizeOf9
  v9 := Tryz.zeroValue9
  t46 := Tryz.underlying57
  a46 := Tryz.isAgg57
  z46 := Tryz.sizeOf57
  v46 := Tryz.zeroValue57
  t51 := Tryz.underlying216
  a51 := Tryz.isAgg216
  z51 := Tryz.sizeOf216
  v51 := Tryz.zeroValue216
  t53 := Tryz.underlying140
  a53 := Tryz.isAgg140
  z53 := Tryz.sizeOf140
  v53 := Tryz.zeroValue140 }
end Go.Proofs
namespace Go.Proofs.YtoboabkaojfbaaaGreatDoor
open Go Go.RowKit
set_option maxRecDepth 100000
set_option maxHeartbeats 1000000
set_option linter.unusedVariables false
set_option linter.unusedSimpArgs false

theorem bitAux_lt : ∀ (f x : Nat), x < 2 ^ f → x < 2 ^ Lib.bitLenAux f x
  | 0, x, h => by simpa [Lib.bitLenAux] using h
  | f + 1, x, h => by
    unfold Lib.bitLenAux
    split
    · omega
    · have := bitAux_lt f (x / 2) (by rw [Nat.pow_succ] at h; omega)
      rw [Nat.add_comm, Nat.pow_succ]; omega
theorem bitAux_le : ∀ (f x : Nat), x < 2 ^ f → 0 < x → 0 < Lib.bitLenAux f x ∧ 2 ^ (Lib.bitLenAux f x - 1) ≤ x
  | 0, x, h, h0 => by simp at h; omega
  | f + 1, x, h, h0 => by
    unfold Lib.bitLenAux
    rw [if_neg (by omega)]
    refine ⟨by omega, ?_⟩
    rw [Nat.add_sub_cancel_left]
    by_cases h1 : x / 2 = 0
    · rw [h1]
      have : Lib.bitLenAux f 0 = 0 := by cases f <;> simp [Lib.bitLenAux]
      rw [this]; simp; omega
    · obtain ⟨a, b⟩ := bitAux_le f (x / 2) (by rw [Nat.pow_succ] at h; omega) (by omega)
      have : 2 ^ Lib.bitLenAux f (x / 2) = 2 ^ (Lib.bitLenAux f (x / 2) - 1) * 2 := by rw [← Nat.pow_succ]; congr 1; omega
      omega
theorem bitAux_max : ∀ (f x : Nat), Lib.bitLenAux f x ≤ f
  | 0, x => by simp [Lib.bitLenAux]
  | f + 1, x => by
    unfold Lib.bitLenAux
    split
    · omega
    · have := bitAux_max f (x / 2); omega
/-- How many leaves stand in the left subtree. -/
def leftP (n : Nat) : Nat := 2 ^ (Lib.bitLen (n - 1) - 1)
theorem leftP_lt (n : Nat) (h : 2 ≤ n) (hn : n ≤ 9223372036854775807) : 1 ≤ leftP n ∧ leftP n < n := by
  obtain ⟨a, b⟩ := bitAux_le 64 (n - 1) (by omega) (by omega)
  unfold leftP Lib.bitLen
  exact ⟨Nat.pow_pos (by omega), by omega⟩
set_option maxHeartbeats 4000000
theorem tleft_any (w : World) (n : Nat) (h : 2 ≤ n) (hn : n ≤ 1099511627776) : Calls Tryz.prog 229 #[.int .i64 (n : Int)] w fun e w' => e = .returned (.int .i64 (leftP n : Int)) ∧ w = w' := by
  have hl : Lib.bitLen (n - 1) ≤ 64 := bitAux_max 64 _
  have hl0 : 0 < Lib.bitLen (n - 1) := (bitAux_le 64 (n - 1) (by omega) (by omega)).1
  have hll := leftP_lt n h (by omega)
  have HC := Lib.hid (Any.bits_Len Tryz.lays125 ((n : Int) - 1) w (by omega) (by omega))
  have hnn : ((n : Int) - 1).toNat = n - 1 := by omega
  rw [hnn] at HC
  obtain ⟨q, hq⟩ : ∃ q, q = Lib.bitLen (n - 1) - 1 := ⟨_, rfl⟩
  have hb : ((Lib.bitLen (n - 1) : Nat) : Int) - 1 = (q : Int) := by omega
  have hlp : leftP n = 2 ^ q := by unfold leftP; rw [hq]
  have hq40 : q ≤ 40 := by
    have h1 := (bitAux_le 64 (n - 1) (by omega) (by omega)).2
    have h2 : 2 ^ q ≤ n - 1 := by rw [hq]; exact h1
    by_cases hc : q ≤ 40
    · exact hc
    · have : 2 ^ 41 ≤ 2 ^ q := Nat.pow_le_pow_right (by omega) (by omega)
      omega
  rw [hlp]
  rw [hlp] at hll
  have hw1 : IntKind.i64.wrap (2 ^ q) = ((2 ^ q : Nat) : Int) := by
    have : (2 : Int) ^ q = ((2 ^ q : Nat) : Int) := by push_cast; rfl
    rw [this]; exact IntWalk.i64_in _ (by omega)
  have hw2 : IntKind.u64.wrap ((n : Int) - 1) = (n : Int) - 1 := by
    simp [IntKind.wrap, IntKind.bits, IntKind.signed]; omega
  clear hnn hlp hq
  obtain ⟨b, hbb⟩ : ∃ b, b = Lib.bitLen (n - 1) := ⟨_, rfl⟩
  rw [← hbb] at hb HC hl hl0
  clear hbb
  go_enter Tryz.func229, Tryz.ntmps229
  go_wp2_with (go_at_call 218; (refine HC.out.mono ?_); rintro e w' ⟨rfl, rfl⟩)
  go_ret
  exact ⟨by push_cast; rfl, rfl⟩
theorem slice_toD (wx : World) (a : Option Addr) (n c k : Nat) (hk : k ≤ c) : (Instr.slice 29 (.slice a n c) none (some (.int .i64 (k : Int))) none).run Tryz.prog wx = .ok (.slice a k c) wx := by
  obtain ⟨i, hi, hz0, hz1, hz2⟩ := info_parts sl23.inf
  have he : Tryz.prog.elem 29 = 23 := by simp [Program.elem, sl23.und]
  have h1 : Tryz.prog.underlying 29 = some (.slice (Tryz.prog.elem 29)) := by rw [he]; exact sl23.und
  have h2 : (sizeOf (Tryz.prog.elem 29)).run Tryz.prog wx = .ok 32 wx := by rw [he]; simp [sizeOf, typeInfo, hi, hz1]
  rw [run_slice_h wx 29 a n c h1 .i64 k (by omega) (by omega), h2]
  have e : a.map (·.add 0) = a := by cases a with | none => rfl | some x => cases x; simp [Addr.add]
  simp [Result.andThen, sliced, e]
def dropD (a : Option Addr) (k c : Nat) : Option Addr := if c = k then a else a.map (·.add (k * 32))
theorem slice_fromD (wx : World) (a : Option Addr) (n c k : Nat) (hk : k ≤ n) : (Instr.slice 29 (.slice a n c) (some (.int .i64 (k : Int))) none none).run Tryz.prog wx = .ok (.slice (dropD a k c) (n - k) (c - k)) wx := by
  obtain ⟨i, hi, hz0, hz1, hz2⟩ := info_parts sl23.inf
  have he : Tryz.prog.elem 29 = 23 := by simp [Program.elem, sl23.und]
  have h1 : Tryz.prog.underlying 29 = some (.slice (Tryz.prog.elem 29)) := by rw [he]; exact sl23.und
  have h2 : (sizeOf (Tryz.prog.elem 29)).run Tryz.prog wx = .ok 32 wx := by rw [he]; simp [sizeOf, typeInfo, hi, hz1]
  rw [run_slice_l wx 29 a n c h1 .i64 k (by omega) (by omega), h2]
  simp [Result.andThen, sliced, dropD]
theorem DS.take {w : World} {a : Option Addr} {n c : Nat} {ds : List Dg} (h : DS w a n c ds) (k : Nat) (hk : k ≤ n) : DS w a k c (ds.take k) := by
  obtain ⟨h1, h2, h3, h4⟩ := h
  refine ⟨by rw [List.length_take]; omega, by omega, by omega, fun i x hx => ?_⟩
  rw [List.getElem?_take] at hx
  split at hx
  · exact h4 i x hx
  · cases hx
theorem DS.drop {w : World} {a : Option Addr} {n c : Nat} {ds : List Dg} (h : DS w a n c ds) (k : Nat) (hk : k ≤ n) : DS w (dropD a k c) (n - k) (c - k) (ds.drop k) := by
  obtain ⟨h1, h2, h3, h4⟩ := h
  refine ⟨by rw [List.length_drop]; omega, by omega, by omega, fun i x hx => ?_⟩
  rw [List.getElem?_drop] at hx
  obtain ⟨b, off, e, hc⟩ := h4 (k + i) x hx
  have hlt := (List.getElem?_eq_some_iff.1 hx).1
  refine ⟨b, off + k * 32, ?_, fun j v hj => ?_⟩
  · unfold dropD
    rw [if_neg (by omega), e]
    simp [Addr.add_lit]
  · have := hc j v hj
    rwa [show off + k * 32 + i * 32 + j = off + (k + i) * 32 + j by omega]
theorem DS.below {w w' : World} {a : Option Addr} {n c : Nat} {ds : List Dg} (h : DS w a n c ds) (hb : Below w.heap.size w w') : DS w' a n c ds := RS.below h hb
def nodeD (wd : Int) (l r : Dg) : Dg := ⟨nodeP wd l.1 r.1, ofP_len _ _⟩
def nothingD (wd : Int) : Dg := ⟨cutP' wd (shaP []), by rw [cutP'_len, shaP_len]⟩
def rootF : Nat → Int → List Dg → Dg
  | 0, wd, _ => nothingD wd
  | f + 1, wd, ds => match ds with
    | [] => nothingD wd
    | [d] => d
    | d :: e :: r => nodeD wd (rootF f wd ((d :: e :: r).take (leftP (d :: e :: r).length))) (rootF f wd ((d :: e :: r).drop (leftP (d :: e :: r).length)))
/-- The root of leaves. -/
def rootP (wd : Int) (ds : List Dg) : Dg := rootF ds.length wd ds
end Go.Proofs.YtoboabkaojfbaaaGreatDoor
namespace Go.Proofs.YtoboabkaojfbaaaGreatDoor
open Go Go.RowKit
set_option maxRecDepth 100000
set_option maxHeartbeats 1000000
set_option linter.unusedVariables false
set_option linter.unusedSimpArgs false
open Go.Maps Go.WideMaps
/-! The disk in memory. A label for each block: 0: not the disk's; 1 its own; 2 names; 3 safe names; 4 claims; 5 changes; 6 never written; and of the file i: 7 + 4 i itself, then its bytes, its safe bytes, its runs. -/
theorem own_same {w w' : World} {B e s n : Nat} {v : Value} {xs : List Value} (h : w.ownsRow B e s v n xs) (hs : ∀ k, v.ownBlock = some k → w'.heap[k]? = w.heap[k]?) : w'.ownsRow B e s v n xs := by
  refine ⟨h.1, ?_⟩
  rcases h.2 with h2 | ⟨g, cap, cur, hv, hb, hg, hr⟩
  · exact .inl h2
  · exact .inr ⟨g, cap, cur, hv, hb, (hs g (by rw [hv]; rfl)).trans hg, hr⟩
end Go.Proofs.YtoboabkaojfbaaaGreatDoor
namespace Go.Proofs.YtoboabkaojfbaaaGreatDoor
open Go Go.RowKit
set_option maxRecDepth 100000
set_option maxHeartbeats 1000000
set_option linter.unusedVariables false
set_option linter.unusedSimpArgs false
open Go.Maps Go.WideMaps
theorem bel1 (w : World) (o : Obj) : Below w.heap.size w (w.alloc o) := (Below.refl _ _).alloc (Nat.le_refl _) _
end Go.Proofs.YtoboabkaojfbaaaGreatDoor
