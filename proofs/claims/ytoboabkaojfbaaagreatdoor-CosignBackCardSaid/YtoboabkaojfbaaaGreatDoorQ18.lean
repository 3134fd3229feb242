import Derived.Test.YtoboabkaojfbaaaGreatDoorQ16
import Derived.Test.YtoboabkaojfbaaaGreatDoorQ17
import Derived.Test.YtoboabkaojfbaaaGreatDoorQ10
import Derived.Deep.RegionHeld3
import Derived.IntWalk
import Derived.Deep.MidRow
import Derived.Deep.AppendLies
namespace Go.Proofs.YtoboabkaojfbaaaGreatDoor
open Go Go.RowKit
set_option maxRecDepth 100000
set_option maxHeartbeats 8000000
set_option linter.unusedVariables false
set_option linter.unusedSimpArgs false
/-! octet.Writer: what its calls leave alone is told whole. -/
def WrV (w : World) (B gw : Nat) (v : Value) (l : List UInt8) : Prop := B ≤ gw ∧ w.heap[gw]? = some (.cells #[v] 214 (0, 0)) ∧ w.ownsRow B 5 1 v l.length (l.map b8)
def WO (w w' : World) (B gw : Nat) (v0 : Value) (l : List UInt8) : Prop := ∃ v, WrV w' B gw v l ∧ FrC w w' gw v0.ownBlock ∧ (v.ownBlock = v0.ownBlock ∨ ∃ k, v.ownBlock = some k ∧ w.heap.size ≤ k)
theorem FrC.refl (w : World) (gc : Nat) (ob : Option Nat) : FrC w w gc ob := FrC.of_below (Below.refl _ _)
theorem WO.start {w : World} {B gw : Nat} {v : Value} {l : List UInt8} (h : WrV w B gw v l) : WO w w B gw v l := ⟨v, h, FrC.refl _ _ _, .inl rfl⟩
theorem WO.trans {w w1 w2 : World} {B gw : Nat} {v v1 : Value} {l l2 : List UInt8} (hf : FrC w w1 gw v.ownBlock) (ho : v1.ownBlock = v.ownBlock ∨ ∃ k, v1.ownBlock = some k ∧ w.heap.size ≤ k) (h2 : WO w1 w2 B gw v1 l2) : WO w w2 B gw v l2 := by
  obtain ⟨v2, a, b, c⟩ := h2
  refine ⟨v2, a, hf.trans b ho, ?_⟩
  rcases c with e | ⟨k, e, hk⟩
  · rw [e]; exact ho
  · exact .inr ⟨k, e, Nat.le_trans hf.b.size hk⟩
theorem WrV.below {w w' : World} {B gw : Nat} {v : Value} {l : List UInt8} (h : WrV w B gw v l) (hb : Below w.heap.size w w') : WrV w' B gw v l :=
  ⟨h.1, (hb.block gw (Array.getElem?_eq_some_iff.1 h.2.1).1).trans h.2.1, own_below h.2.2 hb⟩
theorem put8_f (w : World) (B gw : Nat) (l : List UInt8) (n : UInt8) (v0 : Value) (h : WrV w B gw v0 l) (hb : l.length ≤ 1000000000000) (hB : B ≤ w.heap.size) :
    Calls Tryz.prog 76 #[.pointer (some ⟨gw, 0, none⟩), .int .u8 (n.toNat : Int)] w fun e w' => e = .returned (.tuple #[]) ∧ WO w w' B gw v0 (l ++ be 1 n.toNat) := by
  go_enter Tryz.func76, Tryz.ntmps76
  go_wp2_with (go_at_call 145; refine (width8 _).mono ?_; rintro e w' ⟨rfl, rfl⟩)
  go_loopw [4] (fun i wr => ∃ j : Nat, j ≤ 1 ∧ i = .int .i64 (0 - (j : Int)) ∧ WO w wr B gw v0 (l ++ (be 1 n.toNat).take j)) (fun i _ => (intOf i + 1).toNat)
  case atStart => exact ⟨0, by omega, rfl, by have := WO.start h; simpa using this⟩
  case round =>
    obtain ⟨j, hj, rfl, v, ⟨hgw, hh, ho⟩, hfr, hob⟩ := hrel
    have HFR := Lib.hid hfr; have HOB := Lib.hid hob; have hsz0 := hfr.b.size
    clear hfr hob
    by_cases hlt : j < 1
    · have hsz := hsz0
      have hc := cell_of_row wr gw 0 _ _ _ hh
      have hf := frozen_of_row wr gw 0 _ _ hh
      have hlt2 := block_lt_of_cell hc
      simp only [List.getElem?_toArray, List.getElem?_cons_zero] at hc
      obtain ⟨q, hq⟩ : ∃ q : Nat, q = 0 - j := ⟨_, rfl⟩
      have hq1 : ((0 : Int) - (j : Int)) = (q : Int) := by omega
      have hqq := Lib.hid hq
      have hq8 : q < 8 := by omega
      have hbt := be_take 1 n.toNat j hlt
      rw [show 1 - 1 - j = q by omega] at hbt
      have HBT := Lib.hid hbt
      have hlen : (l ++ (be 1 n.toNat).take j).length ≤ 1000000000008 := by simp [be_len]; omega
      rw [hq1]
      clear h hq hq1 hbt
      have hw1 : IntKind.i64.wrap (8 * (q : Int)) = 8 * (q : Int) := by simp [IntKind.wrap, IntKind.bits, IntKind.signed]; omega
      have hp0 : (0 : Int) ≤ 8 * (q : Int) := by omega
      have hp1 : 8 * (q : Int) ≤ 64 := by omega
      have hp2 : (8 * (q : Int)).toNat = 8 * q := by omega
      have hwb := wrap_byte n.toNat (8 * q)
      have hcv : IntKind.u64.wrap (n.toNat : Int) = (n.toNat : Int) := by
        have := n.toNat_lt
        simp [IntKind.wrap, IntKind.bits, IntKind.signed]; omega
      generalize hLL : l ++ (be 1 n.toNat).take j = L at *
      have HLL := Lib.hid hLL; clear hLL
      generalize hcc : UInt8.ofNat (n.toNat / 2 ^ (8 * q)) = c at *
      have HCC := Lib.hid hcc; clear hcc
      go_wp2
      have hca : ∀ o, (wr.alloc o).cell? ⟨gw, 0, none⟩ = some v ∧ (wr.alloc o).frozen? ⟨gw, 0, none⟩ = false := fun o =>
        ⟨by rw [World.cell?_alloc_past (hn := hlt2)]; exact hc, by rw [World.frozen?_alloc_past (hn := hlt2)]; exact hf⟩
      have hne := own_neW ho hh (by decide)
      go_region_law (first
        | (refine S_append8 rfl (.tmp 17) (.tmp 24) 49 (by rfl) sl22 B v _ _ (by rfl) (ho.alloc _) (some ⟨wr.heap.size, 0, none⟩) 1 1 [c] (by rfl) (R8.lit _ 5 _ [c] 1 rfl (by omega) _ rfl) (by omega) (by simp [maxLen]; omega) (by simp; omega) (fun a2 c2 w2 ho2 hg2 hat2 => ?_)
           have hc2 := (hg2.cell_far ⟨gw, 0, none⟩ (by simp; omega) hne).trans (hca _).1
           have hf2 := (hg2.frozen_far ⟨gw, 0, none⟩ (by simp; omega) hne).trans (hca _).2))
      all_goals
        have hh2 : w2.heap[gw]? = some (.cells #[v] 214 (0, 0)) := (hg2.block gw (by simp; omega) hne).trans ((Below.heap_alloc _ _ _ hlt2).trans hh)
        have hne2 := own_neW ho2 hh2 (by decide)
        have hh3 := heap_setCell_same w2 gw 0 _ _ (.slice a2 (L.length + 1) c2) hh2
        have hgs : w2.grownBy (w2.setCell ⟨gw, 0, none⟩ (.slice a2 (L.length + 1) c2)) (some gw) := ⟨rfl, rfl, rfl, by simp, fun k _ hk => heap_setCell_other w2 ⟨gw, 0, none⟩ k _ (fun e => hk (by simp [e]))⟩
        have ho3 := ho2.kept hgs (.inr (fun e => hne2 e.symm))
        have hsz9 : w.heap.size ≤ wr.heap.size := HFR.out.b.size
        have hf1 : FrC wr w2 gw v.ownBlock := (FrC.of_below (((Below.refl wr.heap.size wr).alloc (Nat.le_refl _) _).drew)).trans (FrC.of_grown hg2) (.inl rfl)
        have HFR3 := Lib.hid (HFR.out.trans (hf1.trans (FrC.of_set (o := 0) (v := .slice a2 (L.length + 1) c2) (ob := v.ownBlock)) (.inl rfl)) HOB.out)
        have HOB3 := Lib.hid (show (Value.slice a2 (L.length + 1) c2).ownBlock = v0.ownBlock ∨ ∃ k, (Value.slice a2 (L.length + 1) c2).ownBlock = some k ∧ w.heap.size ≤ k by
          rcases hat2 with e | e
          · rw [e]; exact HOB.out
          · exact .inr ⟨_, e, by simp; omega⟩)
        clear hf1
        clear hgs hne2 hh2 ho2 hg2 hat2 hc2 hf2 hca hne
        go_wp2
        go_roundw
        case rel =>
          refine ⟨j + 1, by omega, by rw [show ((q : Int) - 1) = 0 - ((j + 1 : Nat) : Int) from by have := hqq.out; omega], _, ⟨hgw, hh3, ?_⟩, HFR3.out, HOB3.out⟩
          rw [HBT.out, ← List.append_assoc, HLL.out]
          simpa using ho3
        case measure => simp [intOf]
    · obtain rfl : j = 1 := by omega
      have hfull : (be 1 n.toNat).take 1 = be 1 n.toNat := List.take_of_length_le (by rw [be_len]; omega)
      rw [hfull] at ho
      have Hh := Lib.hid hh
      clear hh
      go_wp2
      go_end0
      exact ⟨rfl, v, ⟨hgw, Hh.out, ho⟩, HFR.out, HOB.out⟩
theorem put64_f (w : World) (B gw : Nat) (l : List UInt8) (n : UInt64) (v0 : Value) (h : WrV w B gw v0 l) (hb : l.length ≤ 1000000000000) (hB : B ≤ w.heap.size) :
    Calls Tryz.prog 78 #[.pointer (some ⟨gw, 0, none⟩), .int .u64 (n.toNat : Int)] w fun e w' => e = .returned (.tuple #[]) ∧ WO w w' B gw v0 (l ++ be 8 n.toNat) := by
  go_enter Tryz.func78, Tryz.ntmps78
  go_wp2_with (go_at_call 148; refine (width64 _).mono ?_; rintro e w' ⟨rfl, rfl⟩)
  go_loopw [4] (fun i wr => ∃ j : Nat, j ≤ 8 ∧ i = .int .i64 (7 - (j : Int)) ∧ WO w wr B gw v0 (l ++ (be 8 n.toNat).take j)) (fun i _ => (intOf i + 1).toNat)
  case atStart => exact ⟨0, by omega, rfl, by have := WO.start h; simpa using this⟩
  case round =>
    obtain ⟨j, hj, rfl, v, ⟨hgw, hh, ho⟩, hfr, hob⟩ := hrel
    have HFR := Lib.hid hfr; have HOB := Lib.hid hob; have hsz0 := hfr.b.size
    clear hfr hob
    by_cases hlt : j < 8
    · have hsz := hsz0
      have hc := cell_of_row wr gw 0 _ _ _ hh
      have hf := frozen_of_row wr gw 0 _ _ hh
      have hlt2 := block_lt_of_cell hc
      simp only [List.getElem?_toArray, List.getElem?_cons_zero] at hc
      obtain ⟨q, hq⟩ : ∃ q : Nat, q = 7 - j := ⟨_, rfl⟩
      have hq1 : ((7 : Int) - (j : Int)) = (q : Int) := by omega
      have hqq := Lib.hid hq
      have hq8 : q < 8 := by omega
      have hbt := be_take 8 n.toNat j hlt
      rw [show 8 - 1 - j = q by omega] at hbt
      have HBT := Lib.hid hbt
      have hlen : (l ++ (be 8 n.toNat).take j).length ≤ 1000000000008 := by simp [be_len]; omega
      rw [hq1]
      clear h hq hq1 hbt
      have hw1 : IntKind.i64.wrap (8 * (q : Int)) = 8 * (q : Int) := by simp [IntKind.wrap, IntKind.bits, IntKind.signed]; omega
      have hp0 : (0 : Int) ≤ 8 * (q : Int) := by omega
      have hp1 : 8 * (q : Int) ≤ 64 := by omega
      have hp2 : (8 * (q : Int)).toNat = 8 * q := by omega
      have hwb := wrap_byte n.toNat (8 * q)
      generalize hLL : l ++ (be 8 n.toNat).take j = L at *
      have HLL := Lib.hid hLL; clear hLL
      generalize hcc : UInt8.ofNat (n.toNat / 2 ^ (8 * q)) = c at *
      have HCC := Lib.hid hcc; clear hcc
      go_wp2
      have hca : ∀ o, (wr.alloc o).cell? ⟨gw, 0, none⟩ = some v ∧ (wr.alloc o).frozen? ⟨gw, 0, none⟩ = false := fun o =>
        ⟨by rw [World.cell?_alloc_past (hn := hlt2)]; exact hc, by rw [World.frozen?_alloc_past (hn := hlt2)]; exact hf⟩
      have hne := own_neW ho hh (by decide)
      go_region_law (first
        | (refine S_append8 rfl (.tmp 17) (.tmp 23) 49 (by rfl) sl22 B v _ _ (by rfl) (ho.alloc _) (some ⟨wr.heap.size, 0, none⟩) 1 1 [c] (by rfl) (R8.lit _ 5 _ [c] 1 rfl (by omega) _ rfl) (by omega) (by simp [maxLen]; omega) (by simp; omega) (fun a2 c2 w2 ho2 hg2 hat2 => ?_)
           have hc2 := (hg2.cell_far ⟨gw, 0, none⟩ (by simp; omega) hne).trans (hca _).1
           have hf2 := (hg2.frozen_far ⟨gw, 0, none⟩ (by simp; omega) hne).trans (hca _).2))
      all_goals
        have hh2 : w2.heap[gw]? = some (.cells #[v] 214 (0, 0)) := (hg2.block gw (by simp; omega) hne).trans ((Below.heap_alloc _ _ _ hlt2).trans hh)
        have hne2 := own_neW ho2 hh2 (by decide)
        have hh3 := heap_setCell_same w2 gw 0 _ _ (.slice a2 (L.length + 1) c2) hh2
        have hgs : w2.grownBy (w2.setCell ⟨gw, 0, none⟩ (.slice a2 (L.length + 1) c2)) (some gw) := ⟨rfl, rfl, rfl, by simp, fun k _ hk => heap_setCell_other w2 ⟨gw, 0, none⟩ k _ (fun e => hk (by simp [e]))⟩
        have ho3 := ho2.kept hgs (.inr (fun e => hne2 e.symm))
        have hsz9 : w.heap.size ≤ wr.heap.size := HFR.out.b.size
        have hf1 : FrC wr w2 gw v.ownBlock := (FrC.of_below (((Below.refl wr.heap.size wr).alloc (Nat.le_refl _) _).drew)).trans (FrC.of_grown hg2) (.inl rfl)
        have HFR3 := Lib.hid (HFR.out.trans (hf1.trans (FrC.of_set (o := 0) (v := .slice a2 (L.length + 1) c2) (ob := v.ownBlock)) (.inl rfl)) HOB.out)
        have HOB3 := Lib.hid (show (Value.slice a2 (L.length + 1) c2).ownBlock = v0.ownBlock ∨ ∃ k, (Value.slice a2 (L.length + 1) c2).ownBlock = some k ∧ w.heap.size ≤ k by
          rcases hat2 with e | e
          · rw [e]; exact HOB.out
          · exact .inr ⟨_, e, by simp; omega⟩)
        clear hf1
        clear hgs hne2 hh2 ho2 hg2 hat2 hc2 hf2 hca hne
        go_wp2
        go_roundw
        case rel =>
          refine ⟨j + 1, by omega, by rw [show ((q : Int) - 1) = 7 - ((j + 1 : Nat) : Int) from by have := hqq.out; omega], _, ⟨hgw, hh3, ?_⟩, HFR3.out, HOB3.out⟩
          rw [HBT.out, ← List.append_assoc, HLL.out]
          simpa using ho3
        case measure => simp [intOf]
    · obtain rfl : j = 8 := by omega
      have hfull : (be 8 n.toNat).take 8 = be 8 n.toNat := List.take_of_length_le (by rw [be_len]; omega)
      rw [hfull] at ho
      have Hh := Lib.hid hh
      clear hh
      go_wp2
      go_end0
      exact ⟨rfl, v, ⟨hgw, Hh.out, ho⟩, HFR.out, HOB.out⟩

theorem put32_f (w : World) (B gw : Nat) (l : List UInt8) (n : UInt32) (v0 : Value) (h : WrV w B gw v0 l) (hb : l.length ≤ 1000000000000) (hB : B ≤ w.heap.size) :
    Calls Tryz.prog 147 #[.pointer (some ⟨gw, 0, none⟩), .int .u32 (n.toNat : Int)] w fun e w' => e = .returned (.tuple #[]) ∧ WO w w' B gw v0 (l ++ be 4 n.toNat) := by
  go_enter Tryz.func147, Tryz.ntmps147
  go_wp2_with (go_at_call 205; refine (width32 _).mono ?_; rintro e w' ⟨rfl, rfl⟩)
  go_loopw [4] (fun i wr => ∃ j : Nat, j ≤ 4 ∧ i = .int .i64 (3 - (j : Int)) ∧ WO w wr B gw v0 (l ++ (be 4 n.toNat).take j)) (fun i _ => (intOf i + 1).toNat)
  case atStart => exact ⟨0, by omega, rfl, by have := WO.start h; simpa using this⟩
  case round =>
    obtain ⟨j, hj, rfl, v, ⟨hgw, hh, ho⟩, hfr, hob⟩ := hrel
    have HFR := Lib.hid hfr; have HOB := Lib.hid hob; have hsz0 := hfr.b.size
    clear hfr hob
    by_cases hlt : j < 4
    · have hsz := hsz0
      have hc := cell_of_row wr gw 0 _ _ _ hh
      have hf := frozen_of_row wr gw 0 _ _ hh
      have hlt2 := block_lt_of_cell hc
      simp only [List.getElem?_toArray, List.getElem?_cons_zero] at hc
      obtain ⟨q, hq⟩ : ∃ q : Nat, q = 3 - j := ⟨_, rfl⟩
      have hq1 : ((3 : Int) - (j : Int)) = (q : Int) := by omega
      have hqq := Lib.hid hq
      have hq8 : q < 8 := by omega
      have hbt := be_take 4 n.toNat j hlt
      rw [show 4 - 1 - j = q by omega] at hbt
      have HBT := Lib.hid hbt
      have hlen : (l ++ (be 4 n.toNat).take j).length ≤ 1000000000008 := by simp [be_len]; omega
      rw [hq1]
      clear h hq hq1 hbt
      have hw1 : IntKind.i64.wrap (8 * (q : Int)) = 8 * (q : Int) := by simp [IntKind.wrap, IntKind.bits, IntKind.signed]; omega
      have hp0 : (0 : Int) ≤ 8 * (q : Int) := by omega
      have hp1 : 8 * (q : Int) ≤ 64 := by omega
      have hp2 : (8 * (q : Int)).toNat = 8 * q := by omega
      have hwb := wrap_byte n.toNat (8 * q)
      have hcv : IntKind.u64.wrap (n.toNat : Int) = (n.toNat : Int) := by
        have := n.toNat_lt
        simp [IntKind.wrap, IntKind.bits, IntKind.signed]; omega
      generalize hLL : l ++ (be 4 n.toNat).take j = L at *
      have HLL := Lib.hid hLL; clear hLL
      generalize hcc : UInt8.ofNat (n.toNat / 2 ^ (8 * q)) = c at *
      have HCC := Lib.hid hcc; clear hcc
      go_wp2
      have hca : ∀ o, (wr.alloc o).cell? ⟨gw, 0, none⟩ = some v ∧ (wr.alloc o).frozen? ⟨gw, 0, none⟩ = false := fun o =>
        ⟨by rw [World.cell?_alloc_past (hn := hlt2)]; exact hc, by rw [World.frozen?_alloc_past (hn := hlt2)]; exact hf⟩
      have hne := own_neW ho hh (by decide)
      go_region_law (first
        | (refine S_append8 rfl (.tmp 17) (.tmp 24) 49 (by rfl) sl22 B v _ _ (by rfl) (ho.alloc _) (some ⟨wr.heap.size, 0, none⟩) 1 1 [c] (by rfl) (R8.lit _ 5 _ [c] 1 rfl (by omega) _ rfl) (by omega) (by simp [maxLen]; omega) (by simp; omega) (fun a2 c2 w2 ho2 hg2 hat2 => ?_)
           have hc2 := (hg2.cell_far ⟨gw, 0, none⟩ (by simp; omega) hne).trans (hca _).1
           have hf2 := (hg2.frozen_far ⟨gw, 0, none⟩ (by simp; omega) hne).trans (hca _).2))
      all_goals
        have hh2 : w2.heap[gw]? = some (.cells #[v] 214 (0, 0)) := (hg2.block gw (by simp; omega) hne).trans ((Below.heap_alloc _ _ _ hlt2).trans hh)
        have hne2 := own_neW ho2 hh2 (by decide)
        have hh3 := heap_setCell_same w2 gw 0 _ _ (.slice a2 (L.length + 1) c2) hh2
        have hgs : w2.grownBy (w2.setCell ⟨gw, 0, none⟩ (.slice a2 (L.length + 1) c2)) (some gw) := ⟨rfl, rfl, rfl, by simp, fun k _ hk => heap_setCell_other w2 ⟨gw, 0, none⟩ k _ (fun e => hk (by simp [e]))⟩
        have ho3 := ho2.kept hgs (.inr (fun e => hne2 e.symm))
        have hsz9 : w.heap.size ≤ wr.heap.size := HFR.out.b.size
        have hf1 : FrC wr w2 gw v.ownBlock := (FrC.of_below (((Below.refl wr.heap.size wr).alloc (Nat.le_refl _) _).drew)).trans (FrC.of_grown hg2) (.inl rfl)
        have HFR3 := Lib.hid (HFR.out.trans (hf1.trans (FrC.of_set (o := 0) (v := .slice a2 (L.length + 1) c2) (ob := v.ownBlock)) (.inl rfl)) HOB.out)
        have HOB3 := Lib.hid (show (Value.slice a2 (L.length + 1) c2).ownBlock = v0.ownBlock ∨ ∃ k, (Value.slice a2 (L.length + 1) c2).ownBlock = some k ∧ w.heap.size ≤ k by
          rcases hat2 with e | e
          · rw [e]; exact HOB.out
          · exact .inr ⟨_, e, by simp; omega⟩)
        clear hf1
        clear hgs hne2 hh2 ho2 hg2 hat2 hc2 hf2 hca hne
        go_wp2
        go_roundw
        case rel =>
          refine ⟨j + 1, by omega, by rw [show ((q : Int) - 1) = 3 - ((j + 1 : Nat) : Int) from by have := hqq.out; omega], _, ⟨hgw, hh3, ?_⟩, HFR3.out, HOB3.out⟩
          rw [HBT.out, ← List.append_assoc, HLL.out]
          simpa using ho3
        case measure => simp [intOf]
    · obtain rfl : j = 4 := by omega
      have hfull : (be 4 n.toNat).take 4 = be 4 n.toNat := List.take_of_length_le (by rw [be_len]; omega)
      rw [hfull] at ho
      have Hh := Lib.hid hh
      clear hh
      go_wp2
      go_end0
      exact ⟨rfl, v, ⟨hgw, Hh.out, ho⟩, HFR.out, HOB.out⟩

end Go.Proofs.YtoboabkaojfbaaaGreatDoor
namespace Go.Proofs.YtoboabkaojfbaaaGreatDoor
open Go Go.RowKit
set_option maxRecDepth 100000
set_option maxHeartbeats 8000000
set_option linter.unusedVariables false
set_option linter.unusedSimpArgs false
/-- Writer.Digests. -/
theorem digs_f (w : World) (B gw : Nat) (l : List UInt8) (v0 : Value) (h : WrV w B gw v0 l) (hl : l.length ≤ 1000000000000) (hB : B ≤ w.heap.size) (a : Option Addr) (n c : Nat) (ds : List Dg) (hd : DS w a n c ds) (hn : n ≤ 1000000000) (hap : ∀ x, a = some x → 0 < n → x.block < w.heap.size ∧ x.block ≠ gw ∧ some x.block ≠ v0.ownBlock) :
    Calls Tryz.prog 79 #[.pointer (some ⟨gw, 0, none⟩), .slice a n c] w fun e w' => e = .returned (.tuple #[]) ∧ WO w w' B gw v0 (l ++ (ds.map (·.1)).flatten) := by
  have HD := Lib.hid hd
  have HAP := Lib.hid hap
  have HNL := Lib.hid hd.1
  clear hd hap
  go_enter Tryz.func79, Tryz.ntmps79
  go_wp2_with fail
  go_loopw [8, 5] (fun v _ wr => ∃ k : Nat, k ≤ n ∧ v = .int .i64 k ∧ WO w wr B gw v0 (l ++ ((ds.take k).map (·.1)).flatten)) (fun v _ _ => n - (intOf v).toNat)
  case atStart => exact ⟨0, by omega, rfl, by have := WO.start h; simpa using this⟩
  case round =>
    clear h
    obtain ⟨k, hkn, rfl, v, hh, hfr, hob⟩ := hrel
    have HFR := Lib.hid hfr; have HOB := Lib.hid hob
    have hszw : w.heap.size ≤ wr.heap.size := hfr.b.size
    clear hob
    by_cases hlt : k < n
    · obtain ⟨d, hdk⟩ : ∃ d, ds[k]? = some d := ⟨_, List.getElem?_eq_getElem (by rw [HNL.out]; exact hlt)⟩
      obtain ⟨b, off, rfl, hbl, hr⟩ := HD.out.at hdk
      have hbB := HAP.out _ rfl (by omega)
      have hr2 : wr.rangeAt b (off + k * 32) (d.1.map b8) := fun j v hj => (World.cell?_of_block (a := ⟨b, off + k * 32 + j, none⟩) (hfr.blk b hbB.1 hbB.2.1 hbB.2.2)).trans (hr j v hj)
      have HR := Lib.hid hr2
      have HFL := Lib.hid (flatD_take hdk)
      have HH := Lib.hid hh
      have HLT := Lib.hid hlt
      have h9 : decide ((k : Int) < (n : Int)) = true := by simp; omega
      obtain ⟨D, hD⟩ : ∃ D, D = dgA d.1 := ⟨_, rfl⟩
      have HDD := Lib.hid hD
      have HDS := Lib.hid (show D.size = 32 by rw [hD, dgA_size, d.2])
      have HD1 := Lib.hid (show D.all (·.oneCell') = true by rw [hD]; exact dgA_all _)
      clear hdk hr hr2 hh hfr hkn hbl hD hbB
      go_upto_region 2 with (fail)
      clear h9
      have hg1 : (wr.alloc (.cells #[.int .u8 0, .int .u8 0, .int .u8 0, .int .u8 0, .int .u8 0, .int .u8 0, .int .u8 0, .int .u8 0, .int .u8 0, .int .u8 0, .int .u8 0, .int .u8 0, .int .u8 0, .int .u8 0, .int .u8 0, .int .u8 0, .int .u8 0, .int .u8 0, .int .u8 0, .int .u8 0, .int .u8 0, .int .u8 0, .int .u8 0, .int .u8 0, .int .u8 0, .int .u8 0, .int .u8 0, .int .u8 0, .int .u8 0, .int .u8 0, .int .u8 0, .int .u8 0] 23)).heap[wr.heap.size]? = some (.cells #[.int .u8 0, .int .u8 0, .int .u8 0, .int .u8 0, .int .u8 0, .int .u8 0, .int .u8 0, .int .u8 0, .int .u8 0, .int .u8 0, .int .u8 0, .int .u8 0, .int .u8 0, .int .u8 0, .int .u8 0, .int .u8 0, .int .u8 0, .int .u8 0, .int .u8 0, .int .u8 0, .int .u8 0, .int .u8 0, .int .u8 0, .int .u8 0, .int .u8 0, .int .u8 0, .int .u8 0, .int .u8 0, .int .u8 0, .int .u8 0, .int .u8 0, .int .u8 0] 23 (0, 0)) := heap_alloc_new wr _
      have HTH := Lib.hid (there_block hg1)
      have HGF := Lib.hid (setCells_all hg1 D.toList (by rw [Array.length_toList, HDS.out]; rfl))
      have HR2 := Lib.hid (show wr.rangeAt b (off + k * 32) D.toList by rw [HDD.out]; unfold dgA; rw [List.toList_toArray]; exact HR.out)
      clear hg1
      go_upto_region 3 with (first
        | (refine L_load_arr rfl 23 (.tmp 10) (by rfl) b (off + k * 32) (by rfl) D _ HR2.out Tryz.underlying23 rfl (by rw [HDS.out]; exact info38) ?_)
        | (refine wpList_store_mid rfl 23 (.tmp 5) (.tmp 11) (by rfl) wr.heap.size 0 D (by rfl) (by rfl) (by rw [HDS.out]; exact HTH.out) (by rw [HDS.out]; exact info38) HD1.out ?_))
      obtain ⟨gd, hgd⟩ : ∃ gd, gd = wr.heap.size := ⟨_, rfl⟩
      have hbr : Below wr.heap.size wr ((wr.alloc (.cells #[.int .u8 0, .int .u8 0, .int .u8 0, .int .u8 0, .int .u8 0, .int .u8 0, .int .u8 0, .int .u8 0, .int .u8 0, .int .u8 0, .int .u8 0, .int .u8 0, .int .u8 0, .int .u8 0, .int .u8 0, .int .u8 0, .int .u8 0, .int .u8 0, .int .u8 0, .int .u8 0, .int .u8 0, .int .u8 0, .int .u8 0, .int .u8 0, .int .u8 0, .int .u8 0, .int .u8 0, .int .u8 0, .int .u8 0, .int .u8 0, .int .u8 0, .int .u8 0] 23)).setCells gd 0 D.toList) := ((Below.refl _ _).alloc (Nat.le_refl _) _).grown (by rw [hgd]; exact setCells_grown _ _ _ _) (by rw [World.size_alloc]; omega) (fun k hk => by rw [← Option.some.inj hk]; exact Nat.le_refl _)
      rw [← hgd] at HGF ⊢
      have hz2 : ((wr.alloc (.cells #[.int .u8 0, .int .u8 0, .int .u8 0, .int .u8 0, .int .u8 0, .int .u8 0, .int .u8 0, .int .u8 0, .int .u8 0, .int .u8 0, .int .u8 0, .int .u8 0, .int .u8 0, .int .u8 0, .int .u8 0, .int .u8 0, .int .u8 0, .int .u8 0, .int .u8 0, .int .u8 0, .int .u8 0, .int .u8 0, .int .u8 0, .int .u8 0, .int .u8 0, .int .u8 0, .int .u8 0, .int .u8 0, .int .u8 0, .int .u8 0, .int .u8 0, .int .u8 0] 23)).setCells gd 0 D.toList).heap.size = gd + 1 := by rw [setCells_size, World.size_alloc, hgd]
      generalize (wr.alloc (.cells #[.int .u8 0, .int .u8 0, .int .u8 0, .int .u8 0, .int .u8 0, .int .u8 0, .int .u8 0, .int .u8 0, .int .u8 0, .int .u8 0, .int .u8 0, .int .u8 0, .int .u8 0, .int .u8 0, .int .u8 0, .int .u8 0, .int .u8 0, .int .u8 0, .int .u8 0, .int .u8 0, .int .u8 0, .int .u8 0, .int .u8 0, .int .u8 0, .int .u8 0, .int .u8 0, .int .u8 0, .int .u8 0, .int .u8 0, .int .u8 0, .int .u8 0, .int .u8 0] 23)).setCells gd 0 D.toList = w2 at *
      have hg2 : w2.heap[gd]? = some (.cells (dgA d.1) 23 (0, 0)) := by rw [← HDD.out]; have := HGF.out; simpa using this
      have hw2 := HH.out.below hbr
      have HBR := Lib.hid hbr
      have hsrc := r8_dg hg2 d.2
      obtain ⟨hgw, hwh, hwo⟩ := hw2
      obtain ⟨L, hL⟩ : ∃ L, L = l ++ ((ds.take k).map (·.1)).flatten := ⟨_, rfl⟩
      have hLb : L.length ≤ 1000000000000 + 32000000000 := by rw [hL, List.length_append, flatD_len, List.length_take]; have := HNL.out; omega
      rw [← hL] at hwo
      have HL := Lib.hid hL
      have hlt2 : gw < w2.heap.size := (Array.getElem?_eq_some_iff.1 hwh).1
      have hne := own_neW hwo hwh (by decide)
      have hc : w2.cell? ⟨gw, 0, none⟩ = some v := by rw [cell_of_row _ _ _ _ _ _ hwh]; rfl
      have hf := frozen_of_row w2 gw 0 _ _ hwh
      have HSRC := Lib.hid hsrc; have HWH := Lib.hid hwh; have HWO := Lib.hid hwo
      have hz2' : B ≤ w2.heap.size := by have := HBR.out.size; omega
      have hzr : wr.heap.size ≤ w2.heap.size := HBR.out.size
      clear hL hsrc hwh hwo hbr hg2 HTH HGF hz2 hgd
      go_region_law (first
        | (refine S_append8 rfl (.tmp 16) (.tmp 17) 49 (by rfl) sl22 B v _ _ (by rfl) (show w2.drew.ownsRow B 5 1 v L.length (L.map b8) from HWO.out) (some ⟨gd, 0, none⟩) 32 32 d.1 (by rfl) (show R8 w2.drew (some ⟨gd, 0, none⟩) 32 32 d.1 from HSRC.out) (by omega) (by simp [maxLen]; omega) (show B ≤ w2.drew.heap.size from hz2') (fun a3 c3 w3 ho3 hg3 hat3 => ?_)
           have hc3 := (hg3.cell_far ⟨gw, 0, none⟩ hlt2 hne).trans (show w2.drew.cell? ⟨gw, 0, none⟩ = some v from hc)
           have hf3 := (hg3.frozen_far ⟨gw, 0, none⟩ hlt2 hne).trans (show w2.drew.frozen? ⟨gw, 0, none⟩ = false from hf)))
      all_goals
        have hh3 : w3.heap[gw]? = some (.cells #[v] 214 (0, 0)) := (hg3.block gw hlt2 hne).trans HWH.out
        have hne3 := own_neW ho3 hh3 (by decide)
        have hh4 := heap_setCell_same w3 gw 0 _ _ (.slice a3 (L.length + 32) c3) hh3
        have hgs : w3.grownBy (w3.setCell ⟨gw, 0, none⟩ (.slice a3 (L.length + 32) c3)) (some gw) := grown_set (grown_refl w3 (some gw)) 0 0 _
        have ho4 := ho3.kept hgs (.inr (fun e => hne3 e.symm))
        have hf1 : FrC wr w3 gw v.ownBlock := (FrC.of_below (HBR.out.drew)).trans (FrC.of_grown hg3) (.inl rfl)
        have HF4 := Lib.hid (HFR.out.trans (hf1.trans (FrC.of_set (o := 0) (v := .slice a3 (L.length + 32) c3) (ob := v.ownBlock)) (.inl rfl)) HOB.out)
        have HOB4 := Lib.hid (show (Value.slice a3 (L.length + 32) c3).ownBlock = v0.ownBlock ∨ ∃ k, (Value.slice a3 (L.length + 32) c3).ownBlock = some k ∧ w.heap.size ≤ k by
          rcases hat3 with e | e
          · rw [e]; exact HOB.out
          · exact .inr ⟨_, e, show w.heap.size ≤ w2.heap.size by omega⟩)
        have HW4 := Lib.hid (show WrV (w3.setCell ⟨gw, 0, none⟩ (.slice a3 (L.length + 32) c3)) B gw (.slice a3 (L.length + 32) c3) (l ++ ((ds.take (k + 1)).map (·.1)).flatten) by
          rw [HFL.out, ← List.append_assoc, ← HL.out]
          refine ⟨hgw, hh4, ?_⟩
          rw [List.length_append, d.2, List.map_append]
          exact ho4)
        clear hh3 hne3 hh4 hgs ho4 hf1 hc3 hf3 hg3 ho3 hat3 hc hf hne
        have hlt := HLT.out
        go_wp2_with fail
        go_roundw
        case rel => exact ⟨k + 1, by omega, by go_num, _, HW4.out, HF4.out, HOB4.out⟩
        case measure => simp [intOf]; omega
    · obtain rfl : k = n := by omega
      have h9 : decide ((k : Int) < (k : Int)) = false := by simp
      rw [List.take_of_length_le (by rw [HNL.out]; exact Nat.le_refl _)] at hh
      have HH := Lib.hid hh
      clear hlt hkn hh hfr
      go_wp2_with fail
      go_end0
      exact ⟨rfl, v, HH.out, HFR.out, HOB.out⟩
end Go.Proofs.YtoboabkaojfbaaaGreatDoor
