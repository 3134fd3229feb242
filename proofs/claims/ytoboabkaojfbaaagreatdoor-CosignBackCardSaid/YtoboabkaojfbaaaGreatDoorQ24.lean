import Derived.Test.YtoboabkaojfbaaaGreatDoorQ23
import Derived.Test.YtoboabkaojfbaaaGreatDoorQ10
namespace Go.Proofs.YtoboabkaojfbaaaGreatDoor
open Go Go.RowKit
set_option maxRecDepth 100000
set_option maxHeartbeats 8000000
set_option linter.unusedVariables false
set_option linter.unusedSimpArgs false
/-! head.ID. -/
theorem id_any (w : World) (a : Option Addr) (n c : Nat) (k : List UInt8) (h : R8 w a n c k) (ht : RoundTab w) (h3 : 1 < w.heap.size) :
    Calls Tryz.prog 40 #[.slice a n c] w fun e w' => e = .returned (.agg (dgA (idP k).1)) ∧ Below w.heap.size w w' := by
  obtain ⟨m, hm⟩ : ∃ m, m = min n 64 := ⟨_, rfl⟩
  have hmi : min (n : Int) 64 = (m : Int) := by omega
  have hnc := h.2.1
  have hsl : ∀ wx, (Instr.slice 49 (.slice a n c) none (some (.int .i64 (m : Int))) none).run Tryz.prog wx = .ok (.slice a m c) wx := fun wx => slice_to8 wx a n c m (by omega)
  have hkt : (k.take 64).length = m := by rw [List.length_take, h.1]; omega
  have hk : R8 w a m c (k.take 64) := ⟨hkt, by omega, by omega, fun i hi => by
    obtain ⟨b, off, e, hc⟩ := h.2.2.2 i (by rw [List.length_take] at hi; omega)
    exact ⟨b, off, e, by rw [List.getElem_take]; exact hc⟩⟩
  have HK := Lib.hid hk; have HT := Lib.hid (show RoundTab w ∧ 1 < w.heap.size from ⟨ht, h3⟩); have HM := Lib.hid (show (k.take 64).length ≤ 64 by omega)
  obtain ⟨E, hE⟩ : ∃ E, E = dgA (idP k).1 := ⟨_, rfl⟩
  have HE := Lib.hid (show DgN E (idP k) by rw [hE]; exact dgN _)
  rw [← hE]
  clear hm hkt hk ht h3 h hE
  go_enter Tryz.func40, Tryz.ntmps40
  go_upto_region 1 with (fail)
  change Code.wp Tryz.prog _ _ _ (w.alloc (.cells (dgA zDg.1) 23))
  obtain ⟨rb, hrb⟩ : ∃ rb, rb = w.heap.size := ⟨_, rfl⟩
  rw [← hrb]
  have HRB := Lib.hid hrb
  have HQ1 := Lib.hid (show (w.alloc (.cells (dgA zDg.1) 23)).heap[rb]? = some (.cells (dgA zDg.1) 23 (0, 0)) by rw [hrb]; exact heap_alloc_new w _)
  have HB1 := Lib.hid ((Below.refl w.heap.size w).alloc (Nat.le_refl _) (.cells (dgA zDg.1) 23))
  clear hrb
  generalize w.alloc (.cells (dgA zDg.1) 23) = w1 at *
  have HB2 := Lib.hid ((Below.refl w1.heap.size w1).alloc (Nat.le_refl _) (.cells #[.slice a m c] 49))
  have HOF := Lib.hid (show Calls Tryz.prog 109 #[.int .i64 32, .int .i64 9, .slice (some ⟨w1.heap.size, 0, none⟩) 1 1] (w1.alloc (.cells #[.slice a m c] 49)) (fun e w' => e = .returned (.agg E) ∧ Below (w1.alloc (.cells #[.slice a m c] 49)).heap.size (w1.alloc (.cells #[.slice a m c] 49)) w') by
    have hbw : Below w.heap.size w (w1.alloc (.cells #[.slice a m c] 49)) := HB1.out.trans (HB2.out.mono HB1.out.size)
    have hps : PartsAt (w1.alloc (.cells #[.slice a m c] 49)) (some ⟨w1.heap.size, 0, none⟩) 1 [k.take 64] := ⟨rfl, fun i p hi => by
      match i, hi with
      | 0, hi => cases hi; exact ⟨_, 0, a, m, c, rfl, by rw [cell_of_row _ _ _ _ _ _ (heap_alloc_new w1 _)]; rfl, HK.out.below hbw⟩
      | n + 1, hi => simp at hi⟩
    have := of_any (w1.alloc (.cells #[.slice a m c] 49)) 32 (by decide) (by decide) 9 (some ⟨w1.heap.size, 0, none⟩) 1 1 [k.take 64] hps (by omega) (by have := HM.out; simp only [List.flatten_cons, List.flatten_nil, List.append_nil]; omega) (rt_below HT.out.1 hbw HT.out.2) (by have := hbw.size; have := HT.out.2; omega)
    rw [HE.out.1]
    have e : (idP k).1 = ofP 32 (9 :: [k.take 64].flatten) := by unfold idP; simp
    rw [e]
    exact this)
  go_wp2_with (first
    | (go_at_call 109; (with_reducible refine HOF.out.mono ?_); rintro e w3 ⟨rfl, hb⟩; have HB3 := Lib.hid (HB2.out.trans (hb.mono HB2.out.size)); have HQ3 := Lib.hid ((HB3.out.block rb (Array.getElem?_eq_some_iff.1 HQ1.out).1).trans HQ1.out); have HTH := Lib.hid (show w3.there rb 0 32 by have := there_block HQ3.out; rwa [dgA_size, zDg.2] at this); clear hb)
    | (refine wpList_store_mid rfl 23 (.tmp 2) (.tmp 9) (by rfl) rb 0 E (by rfl) (by rfl) (by rw [HE.out.2.2.1]; exact HTH.out) (by rw [HE.out.2.2.1]; exact info38) HE.out.2.2.2 ?_))
  have HGF := Lib.hid (show (w3.setCells rb 0 E.toList).heap[rb]? = some (.cells E 23 (0, 0)) by
    have := setCells_all HQ3.out E.toList (by rw [Array.length_toList, HE.out.2.2.1, dgA_size, zDg.2])
    simpa using this)
  refine bodyPost_ret (v := .agg E) (results_cell_row (p := 2) (ty := 23) rfl _ _ rb 23 E (0, 0) _ rfl HGF.out Tryz.underlying23 rfl (by rw [HE.out.2.2.1]; exact info38)) rfl ⟨rfl, ?_⟩
  have hb3 : Below w.heap.size w w3 := HB1.out.trans (HB3.out.mono HB1.out.size)
  exact hb3.grown (setCells_grown _ _ _ _) hb3.size (fun k hk => by rw [← Option.some.inj hk, HRB.out]; exact Nat.le_refl _)
end Go.Proofs.YtoboabkaojfbaaaGreatDoor
namespace Go.Proofs.YtoboabkaojfbaaaGreatDoor
open Go Go.RowKit
set_option maxRecDepth 100000
set_option maxHeartbeats 8000000
set_option linter.unusedVariables false
set_option linter.unusedSimpArgs false
/-! digest.Mac, of keys of 64 bytes at most. -/
def o307 : Obj := .cells (List.replicate 64 (b8 0)).toArray 307
def xk (x : UInt8) (K : List UInt8) (j : Nat) : List UInt8 := (K.take j).map (· ^^^ x) ++ K.drop j
def padded (k : List UInt8) : List UInt8 := k ++ List.replicate (64 - k.length) 0
theorem padded_len (k : List UInt8) (h : k.length ≤ 64) : (padded k).length = 64 := by simp [padded]; omega
theorem xk_len (x : UInt8) (K : List UInt8) (j : Nat) : (xk x K j).length = K.length := by simp [xk]; omega
theorem xk_get (x : UInt8) (K : List UInt8) (j : Nat) (h : j < K.length) : (xk x K j)[j]? = some K[j] := by
  unfold xk
  rw [List.getElem?_append_right (by simp; omega)]
  simp [show min j K.length = j by omega, h]
theorem xk_set (x : UInt8) (K : List UInt8) (j : Nat) (h : j < K.length) : (xk x K j).set j (K[j] ^^^ x) = xk x K (j + 1) := by
  unfold xk
  have hl : ((K.take j).map (· ^^^ x)).length = j := by simp; omega
  have e : K.take (j + 1) = K.take j ++ [K[j]] := by rw [List.take_add_one, List.getElem?_eq_getElem h]; rfl
  rw [List.set_append_right _ _ (by omega), hl, Nat.sub_self, e, List.map_append, List.append_assoc]
  congr 1
  rw [List.drop_eq_getElem_cons h, List.set_cons_zero]; rfl
theorem xk_full (x : UInt8) (k : List UInt8) (h : k.length ≤ 64) : xk x (padded k) 64 = padK x k := by
  unfold xk padK
  rw [List.take_of_length_le (by rw [padded_len k h]; exact Nat.le_refl _), List.drop_of_length_le (by rw [padded_len k h]; exact Nat.le_refl _), List.append_nil]
  apply List.ext_getElem?
  intro i
  rw [List.getElem?_map, List.getElem?_map]
  by_cases hi : i < 64
  · rw [List.getElem?_range hi]
    unfold padded
    by_cases h2 : i < k.length
    · rw [List.getElem?_append_left h2, List.getElem?_eq_getElem h2]; simp [List.getD, h2]
    · rw [List.getElem?_append_right (by omega), List.getElem?_replicate, if_pos (by omega)]; simp [List.getD, h2]
  · rw [List.getElem?_eq_none (by rw [padded_len k h]; omega), List.getElem?_eq_none (by simp; omega)]; rfl
theorem ofInt8 (x : UInt8) : BitVec.ofInt 8 (x.toNat : Int) = x.toBitVec := by
  rw [BitVec.ofInt_natCast]; simp
theorem wrap_u8_nat {n : Nat} (h : n < 256) : IntKind.u8.wrap (n : Int) = n := by
  simp [IntKind.wrap, IntKind.bits, IntKind.signed]; omega
theorem xor_u8 (c d : UInt8) : bits .xor .u8 (c.toNat : Int) (d.toNat : Int) = ((c ^^^ d).toNat : Int) := by
  simp only [bits, IntKind.bits, ofInt8]
  rw [wrap_u8_nat (BitVec.isLt _)]; rfl
end Go.Proofs.YtoboabkaojfbaaaGreatDoor
namespace Go.Proofs.YtoboabkaojfbaaaGreatDoor
open Go Go.RowKit
set_option maxRecDepth 100000
set_option maxHeartbeats 16000000
set_option linter.unusedVariables false
set_option linter.unusedSimpArgs false
/-! digest.Mac: the walk. -/
theorem pad_splice (k : List UInt8) (n : Nat) (h : k.length = n) (hn : n ≤ 64) : splice (List.replicate 64 (b8 0)) 0 ((k.take 64).map b8) = (padded k).map b8 := by
  rw [List.take_of_length_le (by omega), splice_head _ _ (by simp; omega)]
  unfold padded
  rw [List.map_append, List.map_replicate, List.length_map, List.drop_replicate, h]
theorem r8_row {w : World} {g : Nat} {l : List UInt8} {t : TypeId} (h : w.heap[g]? = some (.cells (l.map b8).toArray t (0, 0))) (hl : l.length ≤ 281474976710656) : R8 w (some ⟨g, 0, none⟩) l.length l.length l :=
  ⟨rfl, Nat.le_refl _, hl, fun i hi => ⟨g, 0, rfl, by
    rw [Nat.zero_add, cell_of_row _ _ _ _ _ _ h, List.getElem?_toArray, List.getElem?_map, List.getElem?_eq_getElem hi]; rfl⟩⟩
theorem xk_cell {w : World} {g j : Nat} {x : UInt8} {K : List UInt8} (h : w.heap[g]? = some (.cells ((xk x K j).map b8).toArray 307)) (hj : j < K.length) : w.cell? ⟨g, j, none⟩ = some (.int .u8 (K[j].toNat : Int)) ∧ w.frozen? ⟨g, j, none⟩ = false ∧ (w.setCell ⟨g, j, none⟩ (.int .u8 ((K[j] ^^^ x).toNat : Int))).heap[g]? = some (.cells ((xk x K (j + 1)).map b8).toArray 307) := by
  refine ⟨?_, frozen_of_row w g j _ _ h, ?_⟩
  · rw [cell_of_row _ _ _ _ _ _ h, List.getElem?_toArray, List.getElem?_map, xk_get x K j hj]; rfl
  · have := heap_setCell_same w g j _ _ (.int .u8 ((K[j] ^^^ x).toNat : Int)) h
    rw [this, List.setIfInBounds_toArray, ← xk_set x K j hj, List.map_set]; rfl
theorem mac_is (k p : List UInt8) (hk : k.length ≤ 64) : macP k p = (⟨shaP (padK 92 k ++ shaP (padK 54 k ++ p)), shaP_len _⟩ : Dg) := by
  unfold macP keyP
  simp only [if_neg (show ¬ 64 < k.length by omega)]
theorem mac_end (w : World) (g : Nat) (E : Array Value) (k p X Y : List UInt8) (h : HsAt w g (([] ++ X) ++ Y)) (hX : X.length = 64) (hY : Y.length = 32) (hE : E = dgA (shaP (X ++ Y))) (ht : RoundTab w) (h3 : 1 < w.heap.size) :
    Calls Tryz.prog 163 #[.pointer (some ⟨g, 0, none⟩)] w (fun e w' => e = .returned (.agg E) ∧ Below w.heap.size w w') := by
  rw [List.nil_append] at h
  subst hE
  exact sum_any w g (X ++ Y) h (by rw [List.length_append, hX, hY]; omega) ht h3
theorem mac_any (w : World) (a b : Option Addr) (n c m d : Nat) (k p : List UInt8) (h : R8 w a n c k) (hp : R8 w b m d p) (hn : n ≤ 64) (hm : m ≤ 1000000000) (ht : RoundTab w) (h3 : 1 < w.heap.size) :
    Calls Tryz.prog 164 #[.slice a n c, .slice b m d] w fun e w' => e = .returned (.agg (dgA (macP k p).1)) ∧ Below w.heap.size w w' := by
  have HK := Lib.hid h; have HP := Lib.hid hp; have HT := Lib.hid (show RoundTab w ∧ 1 < w.heap.size from ⟨ht, h3⟩)
  have HN := Lib.hid (show n ≤ 64 ∧ m ≤ 1000000000 ∧ k.length = n from ⟨hn, hm, h.1⟩)
  have HPD := Lib.hid (padded_len k (by have := h.1; omega))
  obtain ⟨E, hE⟩ : ∃ E, E = dgA (macP k p).1 := ⟨_, rfl⟩
  have HE := Lib.hid (show DgN E (macP k p) by rw [hE]; exact dgN _)
  rw [← hE]
  have c0 : ¬ 64 < n := by omega
  have d0 : decide ((64 : Int) < (n : Int)) = false := by rw [decide_eq_false_iff_not]; omega
  clear hE h hp ht h3 hn hm
  go_enter Tryz.func164, Tryz.ntmps164
  go_upto_region 2 with (fail)
  change Code.wp Tryz.prog _ _ _ (((w.alloc (.cells (dgA zDg.1) 23)).alloc o307).alloc o307)
  obtain ⟨g4, hg4⟩ : ∃ g, g = w.heap.size := ⟨_, rfl⟩
  have HG := Lib.hid hg4
  have HQ4 := Lib.hid (show (((w.alloc (.cells (dgA zDg.1) 23)).alloc o307).alloc o307).heap[g4]? = some (.cells (dgA zDg.1) 23 (0, 0)) by
    rw [hg4]
    exact (alOld _ _ _ (by simp only [World.size_alloc]; omega)).trans ((alOld _ _ _ (by simp only [World.size_alloc]; omega)).trans (heap_alloc_new w _)))
  have HQ5 := Lib.hid (show (((w.alloc (.cells (dgA zDg.1) 23)).alloc o307).alloc o307).heap[g4 + 1]? = some o307 by
    rw [hg4]
    have := heap_alloc_new (w.alloc (.cells (dgA zDg.1) 23)) o307
    rw [World.size_alloc] at this
    exact (alOld _ _ _ (by simp only [World.size_alloc]; omega)).trans this)
  have HQ6 := Lib.hid (show (((w.alloc (.cells (dgA zDg.1) 23)).alloc o307).alloc o307).heap[g4 + 2]? = some o307 by
    rw [hg4]
    have := heap_alloc_new ((w.alloc (.cells (dgA zDg.1) 23)).alloc o307) o307
    rw [World.size_alloc, World.size_alloc] at this
    exact this)
  have HB1 := Lib.hid (show Below w.heap.size w (((w.alloc (.cells (dgA zDg.1) 23)).alloc o307).alloc o307) from (((Below.refl w.heap.size w).alloc (Nat.le_refl _) _).alloc (by simp) _).alloc (by simp; omega) _)
  rw [← hg4]
  clear hg4
  generalize ((w.alloc (.cells (dgA zDg.1) 23)).alloc o307).alloc o307 = w1 at *
  obtain ⟨g5, hg5⟩ : ∃ g, g = g4 + 1 := ⟨_, rfl⟩
  obtain ⟨g6, hg6⟩ : ∃ g, g = g4 + 2 := ⟨_, rfl⟩
  have HGG := Lib.hid (show g5 = g4 + 1 ∧ g6 = g4 + 2 from ⟨hg5, hg6⟩)
  rw [← hg5] at HQ5; rw [← hg6] at HQ6
  have e6 : g4 + 1 + 1 = g6 := by omega
  first
    | rw [e6, ← hg5]
    | rw [← hg6, ← hg5]
  clear hg5 hg6 e6
  have HR1 := Lib.hid (HK.out.below HB1.out)
  go_upto_region 6 with (refine L_copyIn rfl (.tmp 17) (.tmp 18) 49 49 (by rfl) sl22 g5 0 64 64 (by rfl) (List.replicate 64 (b8 0)) 307 HQ5.out (by simp) a n c k (by rfl) HR1.out (fun w2 hq hg => ?_); have HQ5' := Lib.hid hq; have HG2 := Lib.hid hg; clear hq hg)
  have HQ5b := Lib.hid (show w2.heap[g5]? = some (.cells ((padded k).map b8).toArray 307) by have := HQ5'.out; rwa [pad_splice k n HN.out.2.2 HN.out.1] at this)
  have HB2 := Lib.hid (show Below w.heap.size w w2 from HB1.out.grown HG2.out HB1.out.size (fun q hq => by rw [← Option.some.inj hq, HGG.out.1, HG.out]; omega))
  have HQ6b := Lib.hid (show w2.heap[g6]? = some o307 from blk_keep HG2.out HQ6.out (by have := HGG.out; omega))
  have HR2 := Lib.hid (HK.out.below HB2.out)
  go_upto_region 7 with (refine L_copyIn rfl (.tmp 20) (.tmp 21) 49 49 (by rfl) sl22 g6 0 64 64 (by rfl) (List.replicate 64 (b8 0)) 307 HQ6b.out (by simp) a n c k (by rfl) HR2.out (fun w3 hq hg => ?_); have HQ6' := Lib.hid hq; have HG3 := Lib.hid hg; clear hq hg)
  have HQ6c := Lib.hid (show w3.heap[g6]? = some (.cells ((xk 92 (padded k) 0).map b8).toArray 307) by have := HQ6'.out; rwa [pad_splice k n HN.out.2.2 HN.out.1] at this)
  have HB3 := Lib.hid (show Below w.heap.size w w3 from HB2.out.grown HG3.out HB2.out.size (fun q hq => by rw [← Option.some.inj hq, HGG.out.2, HG.out]; omega))
  have HQ5c := Lib.hid (show w3.heap[g5]? = some (.cells ((xk 54 (padded k) 0).map b8).toArray 307) from blk_keep HG3.out HQ5b.out (by have := HGG.out; omega))
  have HQ4c := Lib.hid (show w3.heap[g4]? = some (.cells (dgA zDg.1) 23 (0, 0)) from blk_keep HG3.out (blk_keep HG2.out HQ4.out (by have := HGG.out; omega)) (by have := HGG.out; omega))
  clear HQ4 HQ5 HQ6 HQ5' HQ6' HQ5b HQ6b HG2 HG3 HR1 HR2 HB1 HB2
  go_wp2_with fail
  go_loopw [23, 8] (fun v _ wr => ∃ j : Nat, j ≤ 64 ∧ v = .int .i64 (j : Int) ∧ wr.heap[g5]? = some (.cells ((xk 54 (padded k) j).map b8).toArray 307) ∧ wr.heap[g6]? = some (.cells ((xk 92 (padded k) j).map b8).toArray 307) ∧ wr.heap[g4]? = some (.cells (dgA zDg.1) 23 (0, 0)) ∧ Below w.heap.size w wr) (fun v _ _ => 64 - (intOf v).toNat)
  case atStart => exact ⟨0, by omega, rfl, HQ5c.out, HQ6c.out, HQ4c.out, HB3.out⟩
  case round =>
    obtain ⟨j, hj, rfl, h5, h6, h4, hb⟩ := hrel
    have H5 := Lib.hid h5; have H6 := Lib.hid h6; have H4 := Lib.hid h4; have HB := Lib.hid hb
    clear h5 h6 h4 hb
    by_cases hlt : j < 64
    · have HJ := Lib.hid (show j < (padded k).length ∧ j < 64 from ⟨by rw [HPD.out]; exact hlt, hlt⟩)
      obtain ⟨q1, q2, q3⟩ := xk_cell H5.out HJ.out.1
      obtain ⟨r1, r2, r3⟩ := xk_cell H6.out HJ.out.1
      have HQ := Lib.hid q3
      obtain ⟨x, hx⟩ : ∃ x, x = (padded k)[j]'HJ.out.1 := ⟨_, rfl⟩
      rw [← hx] at q1 HQ r1
      obtain ⟨y5, hy5⟩ : ∃ y, y = x ^^^ 54 := ⟨_, rfl⟩
      obtain ⟨y6, hy6⟩ : ∃ y, y = x ^^^ 92 := ⟨_, rfl⟩
      have hx5 : bits .xor .u8 (x.toNat : Int) 54 = (y5.toNat : Int) := by rw [hy5]; exact xor_u8 x 54
      have hx6 : bits .xor .u8 (x.toNat : Int) 92 = (y6.toNat : Int) := by rw [hy6]; exact xor_u8 x 92
      rw [← hy5] at HQ
      have HY6 := Lib.hid hy6
      clear hy5 hy6
      have h9 : decide ((j : Int) < 64) = true := by rw [decide_eq_true_eq]; omega
      have hj6 : j ≤ 1000000 := by omega
      have HXX := Lib.hid hx
      clear r1 r2 r3 q3 hx
      go_upto_region 11 with (fail)
      have hgs : wr.grownBy (wr.setCell ⟨g5, j, none⟩ (.int .u8 (y5.toNat : Int))) (some g5) := grown_set (grown_refl wr (some g5)) 0 j _
      have H5n := Lib.hid (show (wr.setCell ⟨g5, j, none⟩ (.int .u8 (y5.toNat : Int))).heap[g5]? = some (.cells ((xk 54 (padded k) (j + 1)).map b8).toArray 307) from HQ.out)
      have H6n := Lib.hid (blk_keep hgs H6.out (by have := HGG.out; omega))
      have H4n := Lib.hid (blk_keep hgs H4.out (by have := HGG.out; omega))
      have HBn := Lib.hid (HB.out.grown hgs HB.out.size (fun q hq => by rw [← Option.some.inj hq, HGG.out.1, HG.out]; omega))
      clear hgs q1 q2
      generalize wr.setCell ⟨g5, j, none⟩ (.int .u8 (y5.toNat : Int)) = w8 at *
      obtain ⟨r1, r2, r3⟩ := xk_cell H6n.out HJ.out.1
      rw [← HXX.out] at r1 r3
      rw [← HY6.out] at r3
      have HR := Lib.hid r3
      clear r3
      go_upto_region 12 with (fail)
      have hgs : w8.grownBy (w8.setCell ⟨g6, j, none⟩ (.int .u8 (y6.toNat : Int))) (some g6) := grown_set (grown_refl w8 (some g6)) 0 j _
      have H5m := Lib.hid (blk_keep hgs H5n.out (by have := HGG.out; omega))
      have H4m := Lib.hid (blk_keep hgs H4n.out (by have := HGG.out; omega))
      have HBm := Lib.hid (HBn.out.grown hgs HBn.out.size (fun q hq => by rw [← Option.some.inj hq, HGG.out.2, HG.out]; omega))
      clear hgs r1 r2 hx5 hx6
      generalize w8.setCell ⟨g6, j, none⟩ (.int .u8 (y6.toNat : Int)) = w9 at *
      go_wp2_with fail
      go_roundw
      case rel => exact ⟨j + 1, by have := HJ.out.2; omega, by push_cast; rfl, H5m.out, HR.out, H4m.out, HBm.out⟩
      case measure => have := HJ.out.2; simp [intOf]; omega
    · obtain rfl : j = 64 := by omega
      have h9 : decide (((64 : Nat) : Int) < 64) = false := by decide
      have HK64 := Lib.hid (show k.length ≤ 64 by have := HN.out; omega)
      have H5 := Lib.hid (show wr.heap[g5]? = some (.cells ((padK 54 k).map b8).toArray 307) by have := H5.out; rwa [xk_full 54 k HK64.out] at this)
      have H6 := Lib.hid (show wr.heap[g6]? = some (.cells ((padK 92 k).map b8).toArray 307) by have := H6.out; rwa [xk_full 92 k HK64.out] at this)
      have HPL := Lib.hid (show (padK 54 k).length = 64 ∧ (padK 92 k).length = 64 by simp [padK])
      have HLT := Lib.hid (show g4 < wr.heap.size ∧ g5 < wr.heap.size ∧ g6 < wr.heap.size from ⟨(Array.getElem?_eq_some_iff.1 H4.out).1, (Array.getElem?_eq_some_iff.1 H5.out).1, (Array.getElem?_eq_some_iff.1 H6.out).1⟩)
      have HPB := Lib.hid (show ∀ x, b = some x → 0 < m → x.block < w.heap.size from fun x hx h0 => by
        obtain ⟨q, off, e, hc⟩ := HP.out.2.2.2 0 (by have := HP.out.1; omega)
        rw [hx] at e
        obtain rfl := Option.some.inj e
        exact World.block_lt_of_cell? w _ hc)
      have HNW := Lib.hid (newh_any wr)
      clear hlt hj
      go_upto_region 14 with (go_at_call 161; (with_reducible refine HNW.out.mono ?_); rintro e w10 ⟨gh, rfl, hge, hh, hb⟩; have HGH := Lib.hid hge; have HS10 := Lib.hid hh; have HB10 := Lib.hid hb; clear hge hh hb)
      have HW10 := Lib.hid (HB.out.trans (HB10.out.mono HB.out.size))
      have HR10 := Lib.hid (show R8 w10 (some ⟨g5, 0, none⟩) 64 64 (padK 54 k) by
        have := r8_row ((HB10.out.block g5 HLT.out.2.1).trans H5.out) (by rw [HPL.out.1]; decide)
        rwa [HPL.out.1] at this)
      have HX1 := Lib.hid (write_any w10 gh (some ⟨g5, 0, none⟩) 64 64 [] (padK 54 k) HS10.out HR10.out (fun x hx _ => by cases hx; have := HGH.out; have := HLT.out; show gh ≠ g5; omega) (by decide) (rt_below HT.out.1 HW10.out HT.out.2) (by have := HW10.out.size; have := HT.out.2; omega) (by have := HGH.out; have := HB.out.size; have := HT.out.2; omega))
      go_upto_region 15 with (go_at_call 162; (with_reducible refine HX1.out.mono ?_); rintro e w11 ⟨rfl, hh, hg⟩; have HS11 := Lib.hid hh; have HG11 := Lib.hid hg; clear hh hg)
      have HW11 := Lib.hid (HW10.out.grown HG11.out HW10.out.size (fun q hq => by rw [← Option.some.inj hq]; have := HGH.out; have := HB.out.size; omega))
      have HX2 := Lib.hid (write_any w11 gh b m d ([] ++ padK 54 k) p HS11.out (HP.out.below HW11.out) (fun x hx h0 => by have := HPB.out x hx h0; have := HGH.out; have := HB.out.size; omega) (by rw [List.nil_append, HPL.out.1]; have := HN.out; omega) (rt_below HT.out.1 HW11.out HT.out.2) (by have := HW11.out.size; have := HT.out.2; omega) (by have := HGH.out; have := HB.out.size; have := HT.out.2; omega))
      go_upto_region 16 with (go_at_call 162; (with_reducible refine HX2.out.mono ?_); rintro e w12 ⟨rfl, hh, hg⟩; have HS12 := Lib.hid hh; have HG12 := Lib.hid hg; clear hh hg)
      have HW12 := Lib.hid (HW11.out.grown HG12.out HW11.out.size (fun q hq => by rw [← Option.some.inj hq]; have := HGH.out; have := HB.out.size; omega))
      obtain ⟨F, hF⟩ : ∃ F, F = dgA (shaP (padK 54 k ++ p)) := ⟨_, rfl⟩
      have HF := Lib.hid (show DgN F ⟨shaP (padK 54 k ++ p), shaP_len _⟩ by rw [hF]; exact dgN ⟨shaP (padK 54 k ++ p), shaP_len _⟩)
      have HX3 := Lib.hid (show Calls Tryz.prog 163 #[.pointer (some ⟨gh, 0, none⟩)] w12 (fun e w' => e = .returned (.agg F) ∧ Below w12.heap.size w12 w') by
        rw [hF]
        have := sum_any w12 gh (([] ++ padK 54 k) ++ p) HS12.out (by rw [List.nil_append, List.length_append, HPL.out.1, HP.out.1]; have := HN.out; omega) (rt_below HT.out.1 HW12.out HT.out.2) (by have := HW12.out.size; have := HT.out.2; omega)
        rwa [List.nil_append] at this)
      clear hF HX1 HX2 HS10 HS11 HR10
      have HZT := Lib.hid (fun (w13 : World) => show (w13.alloc (.cells (dgA zDg.1) 23)).there w13.heap.size 0 32 by
        have := there_block (heap_alloc_new w13 (.cells (dgA zDg.1) 23))
        rwa [dgA_size, zDg.2] at this)
      go_upto_region 17 with (first
        | (go_at_call 163; (with_reducible refine HX3.out.mono ?_); rintro e w13 ⟨rfl, hb⟩; have HB13 := Lib.hid hb; clear hb)
        | (refine wpList_store_mid rfl 23 (.tmp 10) (.tmp 45) (by rfl) w13.heap.size 0 F (by rfl) (by rfl) (by rw [HF.out.2.2.1]; exact HZT.out w13) (by rw [HF.out.2.2.1]; exact info38) HF.out.2.2.2 ?_))
      change Code.wp Tryz.prog _ _ _ ((w13.alloc (.cells (dgA zDg.1) 23)).setCells w13.heap.size 0 F.toList)
      obtain ⟨g10, hg10⟩ : ∃ g, g = w13.heap.size := ⟨_, rfl⟩
      rw [← hg10]
      have HG10 := Lib.hid hg10
      have H10 := Lib.hid (show ((w13.alloc (.cells (dgA zDg.1) 23)).setCells g10 0 F.toList).heap[g10]? = some (.cells F 23 (0, 0)) by
        have := setCells_all (show (w13.alloc (.cells (dgA zDg.1) 23)).heap[g10]? = some (.cells (dgA zDg.1) 23 (0, 0)) by rw [hg10]; exact heap_alloc_new w13 _) F.toList (by rw [Array.length_toList, HF.out.2.2.1, dgA_size, zDg.2])
        simpa using this)
      have HB14 := Lib.hid (show Below w13.heap.size w13 ((w13.alloc (.cells (dgA zDg.1) 23)).setCells g10 0 F.toList) from ((Below.refl _ _).alloc (Nat.le_refl _) _).grown (setCells_grown _ _ _ _) (by rw [World.size_alloc]; omega) (fun q hq => by rw [← Option.some.inj hq, hg10]; exact Nat.le_refl _))
      clear hg10
      generalize (w13.alloc (.cells (dgA zDg.1) 23)).setCells g10 0 F.toList = w14 at *
      have HW13 := Lib.hid (HW12.out.trans (HB13.out.mono HW12.out.size))
      have HW14 := Lib.hid (HW13.out.trans (HB14.out.mono HW13.out.size))
      have HKP := Lib.hid (show ∀ (q : Nat) (o : Obj), wr.heap[q]? = some o → w14.heap[q]? = some o from fun q o hq => by
        have hlt := (Array.getElem?_eq_some_iff.1 hq).1
        have s1 := HB10.out.size; have s2 := HG11.out.size; have s3 := HG12.out.size; have s4 := HB13.out.size
        have hne : q ≠ gh := by have := HGH.out; omega
        exact (HB14.out.block q (by omega)).trans ((HB13.out.block q (by omega)).trans (blk_keep HG12.out (blk_keep HG11.out ((HB10.out.block q hlt).trans hq) hne) hne)))
      have HNW2 := Lib.hid (newh_any w14)
      clear HNW HX3
      go_upto_region 18 with (go_at_call 161; (with_reducible refine HNW2.out.mono ?_); rintro e w15 ⟨gk, rfl, hge, hh, hb⟩; have HGK := Lib.hid hge; have HS15 := Lib.hid hh; have HB15 := Lib.hid hb; clear hge hh hb)
      have HW15 := Lib.hid (HW14.out.trans (HB15.out.mono HW14.out.size))
      have HSZ := Lib.hid (show g4 < w14.heap.size ∧ g6 < w14.heap.size ∧ g10 < w14.heap.size ∧ w.heap.size ≤ w14.heap.size from ⟨(Array.getElem?_eq_some_iff.1 (HKP.out _ _ H4.out)).1, (Array.getElem?_eq_some_iff.1 (HKP.out _ _ H6.out)).1, (Array.getElem?_eq_some_iff.1 H10.out).1, HW14.out.size⟩)
      have HR15 := Lib.hid (show R8 w15 (some ⟨g6, 0, none⟩) 64 64 (padK 92 k) by
        have := r8_row ((HB15.out.block g6 HSZ.out.2.1).trans (HKP.out _ _ H6.out)) (by rw [HPL.out.2]; decide)
        rwa [HPL.out.2] at this)
      have HX4 := Lib.hid (write_any w15 gk (some ⟨g6, 0, none⟩) 64 64 [] (padK 92 k) HS15.out HR15.out (fun x hx _ => by cases hx; have := HGK.out; have := HSZ.out; show gk ≠ g6; omega) (by decide) (rt_below HT.out.1 HW15.out HT.out.2) (by have := HW15.out.size; have := HT.out.2; omega) (by have := HGK.out; have := HSZ.out; have := HT.out.2; omega))
      go_upto_region 19 with (go_at_call 162; (with_reducible refine HX4.out.mono ?_); rintro e w16 ⟨rfl, hh, hg⟩; have HS16 := Lib.hid hh; have HG16 := Lib.hid hg; clear hh hg)
      have HW16 := Lib.hid (HW15.out.grown HG16.out HW15.out.size (fun q hq => by rw [← Option.some.inj hq]; have := HGK.out; have := HSZ.out; omega))
      have HR16 := Lib.hid (show R8 w16 (some ⟨g10, 0, none⟩) 32 32 (shaP (padK 54 k ++ p)) from r8_dg (by rw [← HF.out.1]; exact blk_keep HG16.out ((HB15.out.block g10 HSZ.out.2.2.1).trans H10.out) (by have := HGK.out; have := HSZ.out; omega)) (shaP_len _))
      have HX5 := Lib.hid (write_any w16 gk (some ⟨g10, 0, none⟩) 32 32 ([] ++ padK 92 k) (shaP (padK 54 k ++ p)) HS16.out HR16.out (fun x hx _ => by cases hx; have := HGK.out; have := HSZ.out; show gk ≠ g10; omega) (by rw [List.nil_append, HPL.out.2]; decide) (rt_below HT.out.1 HW16.out HT.out.2) (by have := HW16.out.size; have := HT.out.2; omega) (by have := HGK.out; have := HSZ.out; have := HT.out.2; omega))
      go_upto_region 20 with (go_at_call 162; (with_reducible refine HX5.out.mono ?_); rintro e w17 ⟨rfl, hh, hg⟩; have HS17 := Lib.hid hh; have HG17 := Lib.hid hg; clear hh hg)
      have HW17 := Lib.hid (HW16.out.grown HG17.out HW16.out.size (fun q hq => by rw [← Option.some.inj hq]; have := HGK.out; have := HSZ.out; omega))
      have HX6 := Lib.hid (mac_end w17 gk E k p (padK 92 k) (shaP (padK 54 k ++ p)) HS17.out HPL.out.2 (shaP_len _) (by rw [HE.out.1, mac_is k p HK64.out]) (rt_below HT.out.1 HW17.out HT.out.2) (by have := HW17.out.size; have := HT.out.2; omega))
      have HQ17 := Lib.hid (show w17.heap[g4]? = some (.cells (dgA zDg.1) 23 (0, 0)) from blk_keep HG17.out (blk_keep HG16.out ((HB15.out.block g4 HSZ.out.1).trans (HKP.out _ _ H4.out)) (by have := HGK.out; have := HSZ.out; omega)) (by have := HGK.out; have := HSZ.out; omega))
      clear HX4 HX5 HNW2 HS15 HS16 HR15 HR16
      go_wp2_with (first
        | (go_at_call 163; (with_reducible refine HX6.out.mono ?_); rintro e w18 ⟨rfl, hb⟩; have HB18 := Lib.hid hb; have HQ18 := Lib.hid ((hb.block g4 (Array.getElem?_eq_some_iff.1 HQ17.out).1).trans HQ17.out); have HTH := Lib.hid (show w18.there g4 0 32 by have := there_block HQ18.out; rwa [dgA_size, zDg.2] at this); clear hb)
        | (refine wpList_store_mid rfl 23 (.tmp 4) (.tmp 54) (by rfl) g4 0 E (by rfl) (by rfl) (by rw [HE.out.2.2.1]; exact HTH.out) (by rw [HE.out.2.2.1]; exact info38) HE.out.2.2.2 ?_))
      have HGF := Lib.hid (show (w18.setCells g4 0 E.toList).heap[g4]? = some (.cells E 23 (0, 0)) by
        have := setCells_all HQ18.out E.toList (by rw [Array.length_toList, HE.out.2.2.1, dgA_size, zDg.2])
        simpa using this)
      refine bodyPost_ret (v := .agg E) (results_cell_row (p := 4) (ty := 23) rfl _ _ g4 23 E (0, 0) _ rfl HGF.out Tryz.underlying23 rfl (by rw [HE.out.2.2.1]; exact info38)) rfl ⟨rfl, ?_⟩
      have hb18 : Below w.heap.size w w18 := HW17.out.trans (HB18.out.mono HW17.out.size)
      exact hb18.grown (setCells_grown _ _ _ _) hb18.size (fun q hq => by rw [← Option.some.inj hq, HG.out]; exact Nat.le_refl _)
end Go.Proofs.YtoboabkaojfbaaaGreatDoor
