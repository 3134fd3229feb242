import Derived.Test.YtoboabkaojfbaaaGreatDoorQ01
import Derived.Deep.RegionHeld3
import Derived.Deep.AppendLies
namespace Go.Proofs.YtoboabkaojfbaaaGreatDoor
open Go Go.RowKit
set_option linter.unusedVariables false
set_option linter.unusedSimpArgs false
theorem ofInt32 (x : UInt32) : BitVec.ofInt 32 (x.toNat : Int) = x.toBitVec := by
  rw [BitVec.ofInt_natCast]; simp
theorem wrap_u32_nat {n : Nat} (h : n < 4294967296) : IntKind.u32.wrap (n : Int) = n := by
  simp [IntKind.wrap, IntKind.bits, IntKind.signed]; omega

/- The operations on words, behind plain names: simp would carry 'toNat' inward. -/
def xr (x y : UInt32) : UInt32 := x ^^^ y
def xb (x : UInt32) (c : UInt8) : UInt32 := x ^^^ c.toUInt32
def a15 (x : UInt32) : UInt32 := x &&& 15
def s4 (x : UInt32) : UInt32 := x >>> 4
def nt (x : UInt32) : UInt32 := ~~~ x
@[go_sem] theorem xor_u32 (x y : UInt32) : bits .xor .u32 (x.toNat : Int) (y.toNat : Int) = ((xr x y).toNat : Int) := by
  simp only [bits, IntKind.bits, ofInt32]
  rw [wrap_u32_nat (BitVec.isLt _)]; rfl
@[go_sem] theorem xor_u32_u8 (x : UInt32) (c : UInt8) : bits .xor .u32 (x.toNat : Int) (c.toNat : Int) = ((xb x c).toNat : Int) := by
  rw [show (c.toNat : Int) = (c.toUInt32.toNat : Int) by simp]; exact xor_u32 _ _
@[go_sem] theorem and15_u32 (x : UInt32) : bits .and .u32 (x.toNat : Int) 15 = ((a15 x).toNat : Int) := by
  simp only [bits, IntKind.bits, ofInt32]
  rw [show BitVec.ofInt 32 15 = (15 : UInt32).toBitVec from rfl, wrap_u32_nat (BitVec.isLt _)]; rfl
@[go_sem] theorem shr4_u32 (x : UInt32) : (x.toNat : Int) / 16 = ((s4 x).toNat : Int) := by
  simp [s4, Nat.shiftRight_eq_div_pow]
@[go_sem] theorem u8_u32 (x : UInt8) : (x.toNat : Int) % 4294967296 = (x.toNat : Int) := by
  have := x.toNat_lt
  omega
@[go_sem] theorem mod_u32 (x : UInt32) : (x.toNat : Int) % 4294967296 = (x.toNat : Int) := by
  have := x.toNat_lt
  omega
@[go_sem] theorem not_u32 (x : UInt32) : bits .xor .u32 IntKind.u32.max (x.toNat : Int) = ((nt x).toNat : Int) := by
  simp only [bits, IntKind.bits, ofInt32]
  rw [show BitVec.ofInt 32 IntKind.u32.max = BitVec.allOnes 32 from rfl, wrap_u32_nat (BitVec.isLt _)]
  have e : (BitVec.allOnes 32 ^^^ x.toBitVec) = ~~~ x.toBitVec := BitVec.allOnes_xor
  exact congrArg (fun b : BitVec 32 => (b.toNat : Int)) e
@[go_sem] theorem a15_lt (x : UInt32) : (((a15 x).toNat : Int) < 16) = True := by
  have h : (a15 x).toNat < 16 := by
    rw [a15, UInt32.toNat_and]
    exact Nat.lt_succ_of_le Nat.and_le_right
  simp only [eq_iff_iff, iff_true]; omega
def halfL : List UInt32 := [0x00000000, 0x1db71064, 0x3b6e20c8, 0x26d930ac, 0x76dc4190, 0x6b6b51f4, 0x4db26158, 0x5005713c,
  0xedb88320, 0xf00f9344, 0xd6d6a3e8, 0xcb61b38c, 0x9b64c2b0, 0x86d3d2d4, 0xa00ae278, 0xbdbdf21c]
def half (i : UInt32) : UInt32 := halfL.getD i.toNat 0
def nib (r : UInt32) : UInt32 := xr (s4 r) (half (a15 r))
def byteStep (r : UInt32) (c : UInt8) : UInt32 := nib (nib (xb r c))
def thr (r : UInt32) (l : List UInt8) : UInt32 := l.foldl byteStep r
def HalfTab (w : World) : Prop := ∀ i, i < 16 → w.cell? ⟨2, i, none⟩ = some (.int .u32 ((halfL.getD i 0).toNat : Int))
theorem HalfTab.get {w : World} (h : HalfTab w) (x : UInt32) : w.cell? ⟨2, (a15 x).toNat, none⟩ = some (.int .u32 ((half (a15 x)).toNat : Int)) := by
  refine h _ ?_
  have := of_eq_true (a15_lt x)
  omega
theorem thr_take (r : UInt32) (l : List UInt8) (k : Nat) (c : UInt8) (h : l[k]? = some c) : thr r (l.take (k+1)) = nib (nib (xb (thr r (l.take k)) c)) := by
  rw [List.take_add_one, h]; simp [thr, byteStep]
theorem nib_fold (r : UInt32) : xr (s4 r) (half (a15 r)) = nib r := rfl

theorem sl22 : Sl Tryz.prog 49 5 (.int .u8 0) 1 1 := ⟨Tryz.underlying49, by kernel_rfl, rfl, by decide⟩
/-- A writer: its one field holds an owned row of the bytes l. -/
def Wr (w : World) (B gw : Nat) (l : List UInt8) : Prop :=
  B ≤ gw ∧ ∃ v, w.heap[gw]? = some (.cells #[v] 214 (0, 0)) ∧ w.ownsRow B 5 1 v l.length (l.map b8)

/-- n as k bytes, the highest first. -/
def be (k n : Nat) : List UInt8 := (List.range k).map fun j => UInt8.ofNat (n / 2 ^ (8 * (k - 1 - j)))
theorem be_len (k n : Nat) : (be k n).length = k := by simp [be]
theorem be_take (k n j : Nat) (h : j < k) : (be k n).take (j+1) = (be k n).take j ++ [UInt8.ofNat (n / 2 ^ (8 * (k - 1 - j)))] := by
  rw [List.take_add_one]
  simp [be, h]
theorem wrap_byte (n s : Nat) : IntKind.u8.wrap ((n : Int) / 2 ^ s) = ((UInt8.ofNat (n / 2 ^ s)).toNat : Int) := by
  simp [IntKind.wrap, IntKind.bits, IntKind.signed]
theorem own_neW {w : World} {B e t gw size : Nat} {v u : Value} {n : Nat} {xs : List Value} {fr : Nat × Nat} (ho : w.ownsRow B e size v n xs) (hh : w.heap[gw]? = some (.cells #[u] t fr)) (hne : t ≠ e) : some gw ≠ v.ownBlock := by
  rcases ho.2 with ⟨rfl, _⟩ | ⟨g, cap, cur, rfl, _, hg, _⟩
  · simp [Value.ownBlock]
  · simp only [Value.ownBlock]
    rintro h
    obtain rfl := Option.some.inj h
    rw [hh] at hg
    simp at hg
    exact hne hg.2.1
theorem width_pos (n : Nat) (h : 0 < n) : 0 < 2 ^ (8 * n) - 1 := by
  have : 2 ^ 1 ≤ 2 ^ (8 * n) := Nat.pow_le_pow_right (by omega) (by omega)
  omega
theorem width_step (n i : Nat) (h : 0 < n) (hi : i < 8) : (2 ^ (8 * n - i) - 1) / 2 = 2 ^ (8 * n - (i + 1)) - 1 := by
  have e : 8 * n - i = (8 * n - (i + 1)) + 1 := by omega
  rw [e, Nat.pow_succ]; omega

theorem new_any (w : World) : Calls Tryz.prog 75 #[] w fun e w' => ∃ gw, e = .returned (.pointer (some ⟨gw, 0, none⟩)) ∧ Wr w' w.heap.size gw [] ∧ Below w.heap.size w w' := by
  go_enter Tryz.func75, Tryz.ntmps75
  go_wp2
  go_ret
  exact ⟨_, rfl, ⟨Nat.le_refl _, _, heap_alloc_new w _, World.ownsRow_nil _ _ _ _⟩, (Below.refl _ _).alloc (Nat.le_refl _) _⟩

theorem width8 (w : World) : Calls Tryz.prog 145 #[] w fun e w' => e = .returned (.int .i64 1) ∧ w = w' := by
  go_enter Tryz.func145, Tryz.ntmps145
  have hmx : bits .xor .u8 IntKind.u8.max 0 = ((2 ^ (8 * 1) - 1 : Nat) : Int) := by decide +kernel
  go_wp2
  go_loop [1, 2, 9] (fun n m i => ∃ j : Nat, j ≤ 1 ∧ n = .int .i64 j ∧ m = .int .u8 ((2 ^ (8 * (1 - j)) - 1 : Nat) : Int)) (fun n _ _ => 1 - (intOf n).toNat)
  case atStart => exact ⟨0, by omega, rfl, rfl⟩
  case round =>
    obtain ⟨j, hj, rfl, rfl⟩ := hrel
    by_cases hlt : j < 1
    · have hp := width_pos (1 - j) (by omega)
      have hst := fun i (hi : i < 8) => width_step (1 - j) i (by omega) hi
      have hne : (((2 ^ (8 * (1 - j)) - 1 : Nat) : Int) == 0) = false := by simp; omega
      have hnn : (((2 ^ (8 * (1 - j)) - 1 : Nat) : Int) != 0) = true := by simp; omega
      have hfin : 2 ^ (8 * (1 - j) - 8) - 1 = 2 ^ (8 * (1 - (j + 1))) - 1 := by rw [show 8 * (1 - j) - 8 = 8 * (1 - (j + 1)) by omega]
      have Hst := Lib.hid hst; clear hst
      have Hfin := Lib.hid hfin; clear hfin
      have h0 : 2 ^ (8 * (1 - j)) - 1 = 2 ^ (8 * (1 - j) - 0) - 1 := rfl
      generalize 8 * (1 - j) = q at *
      go_wp2
      go_loop [2, 9] (fun m i => ∃ t : Nat, t ≤ 8 ∧ i = .int .i64 t ∧ m = .int .u8 ((2 ^ (q - t) - 1 : Nat) : Int)) (fun _ i => 8 - (intOf i).toNat)
      case atStart => exact ⟨0, by omega, rfl, rfl⟩
      case round =>
        obtain ⟨t, ht, rfl, rfl⟩ := hrel
        by_cases h8 : t < 8
        · have hs := Hst.out t h8
          generalize 2 ^ (q - t) - 1 = x at *
          go_wp2
          go_round
          case rel => exact ⟨t+1, by omega, by go_num, by rw [← hs]; go_num⟩
          case measure => simp [intOf]; omega
        · obtain rfl : t = 8 := by omega
          rw [Hfin.out]
          go_wp2
          go_round
          case rel => exact ⟨j+1, by omega, by go_num, rfl⟩
          case measure => simp [intOf]; omega
    · obtain rfl : j = 1 := by omega
      go_wp2
      go_ret
      exact ⟨rfl, rfl⟩

theorem width32 (w : World) : Calls Tryz.prog 205 #[] w fun e w' => e = .returned (.int .i64 4) ∧ w = w' := by
  go_enter Tryz.func205, Tryz.ntmps205
  have hmx : bits .xor .u32 IntKind.u32.max 0 = ((2 ^ (8 * 4) - 1 : Nat) : Int) := by decide +kernel
  go_wp2
  go_loop [1, 2, 9] (fun n m i => ∃ j : Nat, j ≤ 4 ∧ n = .int .i64 j ∧ m = .int .u32 ((2 ^ (8 * (4 - j)) - 1 : Nat) : Int)) (fun n _ _ => 4 - (intOf n).toNat)
  case atStart => exact ⟨0, by omega, rfl, rfl⟩
  case round =>
    obtain ⟨j, hj, rfl, rfl⟩ := hrel
    by_cases hlt : j < 4
    · have hp := width_pos (4 - j) (by omega)
      have hst := fun i (hi : i < 8) => width_step (4 - j) i (by omega) hi
      have hne : (((2 ^ (8 * (4 - j)) - 1 : Nat) : Int) == 0) = false := by simp; omega
      have hnn : (((2 ^ (8 * (4 - j)) - 1 : Nat) : Int) != 0) = true := by simp; omega
      have hfin : 2 ^ (8 * (4 - j) - 8) - 1 = 2 ^ (8 * (4 - (j + 1))) - 1 := by rw [show 8 * (4 - j) - 8 = 8 * (4 - (j + 1)) by omega]
      have Hst := Lib.hid hst; clear hst
      have Hfin := Lib.hid hfin; clear hfin
      have h0 : 2 ^ (8 * (4 - j)) - 1 = 2 ^ (8 * (4 - j) - 0) - 1 := rfl
      generalize 8 * (4 - j) = q at *
      go_wp2
      go_loop [2, 9] (fun m i => ∃ t : Nat, t ≤ 8 ∧ i = .int .i64 t ∧ m = .int .u32 ((2 ^ (q - t) - 1 : Nat) : Int)) (fun _ i => 8 - (intOf i).toNat)
      case atStart => exact ⟨0, by omega, rfl, rfl⟩
      case round =>
        obtain ⟨t, ht, rfl, rfl⟩ := hrel
        by_cases h8 : t < 8
        · have hs := Hst.out t h8
          generalize 2 ^ (q - t) - 1 = x at *
          go_wp2
          go_round
          case rel => exact ⟨t+1, by omega, by go_num, by rw [← hs]; go_num⟩
          case measure => simp [intOf]; omega
        · obtain rfl : t = 8 := by omega
          rw [Hfin.out]
          go_wp2
          go_round
          case rel => exact ⟨j+1, by omega, by go_num, rfl⟩
          case measure => simp [intOf]; omega
    · obtain rfl : j = 4 := by omega
      go_wp2
      go_ret
      exact ⟨rfl, rfl⟩

theorem width64 (w : World) : Calls Tryz.prog 148 #[] w fun e w' => e = .returned (.int .i64 8) ∧ w = w' := by
  go_enter Tryz.func148, Tryz.ntmps148
  have hmx : bits .xor .u64 IntKind.u64.max 0 = ((2 ^ (8 * 8) - 1 : Nat) : Int) := by decide +kernel
  go_wp2
  go_loop [1, 2, 9] (fun n m i => ∃ j : Nat, j ≤ 8 ∧ n = .int .i64 j ∧ m = .int .u64 ((2 ^ (8 * (8 - j)) - 1 : Nat) : Int)) (fun n _ _ => 8 - (intOf n).toNat)
  case atStart => exact ⟨0, by omega, rfl, rfl⟩
  case round =>
    obtain ⟨j, hj, rfl, rfl⟩ := hrel
    by_cases hlt : j < 8
    · have hp := width_pos (8 - j) (by omega)
      have hst := fun i (hi : i < 8) => width_step (8 - j) i (by omega) hi
      have hne : (((2 ^ (8 * (8 - j)) - 1 : Nat) : Int) == 0) = false := by simp; omega
      have hnn : (((2 ^ (8 * (8 - j)) - 1 : Nat) : Int) != 0) = true := by simp; omega
      have hfin : 2 ^ (8 * (8 - j) - 8) - 1 = 2 ^ (8 * (8 - (j + 1))) - 1 := by rw [show 8 * (8 - j) - 8 = 8 * (8 - (j + 1)) by omega]
      have Hst := Lib.hid hst; clear hst
      have Hfin := Lib.hid hfin; clear hfin
      have h0 : 2 ^ (8 * (8 - j)) - 1 = 2 ^ (8 * (8 - j) - 0) - 1 := rfl
      generalize 8 * (8 - j) = q at *
      go_wp2
      go_loop [2, 9] (fun m i => ∃ t : Nat, t ≤ 8 ∧ i = .int .i64 t ∧ m = .int .u64 ((2 ^ (q - t) - 1 : Nat) : Int)) (fun _ i => 8 - (intOf i).toNat)
      case atStart => exact ⟨0, by omega, rfl, rfl⟩
      case round =>
        obtain ⟨t, ht, rfl, rfl⟩ := hrel
        by_cases h8 : t < 8
        · have hs := Hst.out t h8
          generalize 2 ^ (q - t) - 1 = x at *
          go_wp2
          go_round
          case rel => exact ⟨t+1, by omega, by go_num, by rw [← hs]; go_num⟩
          case measure => simp [intOf]; omega
        · obtain rfl : t = 8 := by omega
          rw [Hfin.out]
          go_wp2
          go_round
          case rel => exact ⟨j+1, by omega, by go_num, rfl⟩
          case measure => simp [intOf]; omega
    · obtain rfl : j = 8 := by omega
      go_wp2
      go_ret
      exact ⟨rfl, rfl⟩

set_option maxHeartbeats 1000000 in
theorem put64_any (w : World) (B gw : Nat) (l : List UInt8) (n : UInt64) (h : Wr w B gw l) (hb : l.length ≤ 1000000000000) (hB : B ≤ w.heap.size) :
    Calls Tryz.prog 78 #[.pointer (some ⟨gw, 0, none⟩), .int .u64 (n.toNat : Int)] w fun e w' => e = .returned (.tuple #[]) ∧ Wr w' B gw (l ++ be 8 n.toNat) ∧ Below B w w' := by
  go_enter Tryz.func78, Tryz.ntmps78
  go_wp2_with (go_at_call 148; refine (width64 _).mono ?_; rintro e w' ⟨rfl, rfl⟩)
  go_loopw [4] (fun i wr => ∃ j : Nat, j ≤ 8 ∧ i = .int .i64 (7 - (j : Int)) ∧ Wr wr B gw (l ++ (be 8 n.toNat).take j) ∧ Below B w wr) (fun i _ => (intOf i + 1).toNat)
  case atStart => exact ⟨0, by omega, rfl, by simpa using h, Below.refl _ _⟩
  case round =>
    obtain ⟨j, hj, rfl, ⟨hgw, v, hh, ho⟩, hbl⟩ := hrel
    by_cases hlt : j < 8
    · have hsz := hbl.size
      have hc := cell_of_row wr gw 0 _ _ _ hh
      have hf := frozen_of_row wr gw 0 _ _ hh
      have hlt2 := block_lt_of_cell hc
      simp only [List.getElem?_toArray, List.getElem?_cons_zero] at hc
      obtain ⟨q, hq⟩ : ∃ q : Nat, q = 7 - j := ⟨_, rfl⟩
      have hq1 : ((7 : Int) - (j : Int)) = (q : Int) := by omega
      have hqq := Lib.hid hq
      have hq8 : q < 8 := by omega
      have hbt := be_take 8 n.toNat j hlt
      rw [show 8 - 1 - j = q by omega] at hbt
      have HBT := Lib.hid hbt
      have hlen : (l ++ (be 8 n.toNat).take j).length ≤ 1000000000008 := by simp [be_len]; omega
      rw [hq1]
      clear h hq hq1 hbt
      have hw1 : IntKind.i64.wrap (8 * (q : Int)) = 8 * (q : Int) := by simp [IntKind.wrap, IntKind.bits, IntKind.signed]; omega
      have hp0 : (0 : Int) ≤ 8 * (q : Int) := by omega
      have hp1 : 8 * (q : Int) ≤ 64 := by omega
      have hp2 : (8 * (q : Int)).toNat = 8 * q := by omega
      have hwb := wrap_byte n.toNat (8 * q)
      generalize hLL : l ++ (be 8 n.toNat).take j = L at *
      have HLL := Lib.hid hLL; clear hLL
      generalize hcc : UInt8.ofNat (n.toNat / 2 ^ (8 * q)) = c at *
      have HCC := Lib.hid hcc; clear hcc
      go_wp2
      have hca : ∀ o, (wr.alloc o).cell? ⟨gw, 0, none⟩ = some v ∧ (wr.alloc o).frozen? ⟨gw, 0, none⟩ = false := fun o =>
        ⟨by rw [World.cell?_alloc_past (hn := hlt2)]; exact hc, by rw [World.frozen?_alloc_past (hn := hlt2)]; exact hf⟩
      have hne := own_neW ho hh (by decide)
      go_region_law (first
        | (refine S_append8 rfl (.tmp 17) (.tmp 23) 49 (by rfl) sl22 B v _ _ (by rfl) (ho.alloc _) (some ⟨wr.heap.size, 0, none⟩) 1 1 [c] (by rfl) (R8.lit _ 5 _ [c] 1 rfl (by omega) _ rfl) (by omega) (by simp [maxLen]; omega) (by simp; omega) (fun a2 c2 w2 ho2 hg2 hat2 => ?_)
           have hc2 := (hg2.cell_far ⟨gw, 0, none⟩ (by simp; omega) hne).trans (hca _).1
           have hf2 := (hg2.frozen_far ⟨gw, 0, none⟩ (by simp; omega) hne).trans (hca _).2))
      all_goals
        have hh2 : w2.heap[gw]? = some (.cells #[v] 214 (0, 0)) := (hg2.block gw (by simp; omega) hne).trans ((Below.heap_alloc _ _ _ hlt2).trans hh)
        have hne2 := own_neW ho2 hh2 (by decide)
        have hh3 := heap_setCell_same w2 gw 0 _ _ (.slice a2 (L.length + 1) c2) hh2
        have hgs : w2.grownBy (w2.setCell ⟨gw, 0, none⟩ (.slice a2 (L.length + 1) c2)) (some gw) := ⟨rfl, rfl, rfl, by simp, fun k _ hk => heap_setCell_other w2 ⟨gw, 0, none⟩ k _ (fun e => hk (by simp [e]))⟩
        have ho3 := ho2.kept hgs (.inr (fun e => hne2 e.symm))
        have hbl3 : Below B w (w2.setCell ⟨gw, 0, none⟩ (.slice a2 (L.length + 1) c2)) := (((hbl.alloc (by omega) _).drew).grown hg2 (by simp; omega) (fun k hk => (ho.lt k hk).1)).setCell hgw _
        clear hgs hne2 hh2 ho2 hg2 hat2 hc2 hf2 hca hne
        go_wp2
        go_roundw
        case rel =>
          refine ⟨j + 1, by omega, by rw [show ((q : Int) - 1) = 7 - ((j + 1 : Nat) : Int) from by have := hqq.out; omega], ⟨hgw, _, hh3, ?_⟩, hbl3⟩
          rw [HBT.out, ← List.append_assoc, HLL.out]
          simpa using ho3
        case measure => simp [intOf]
    · obtain rfl : j = 8 := by omega
      have hfull : (be 8 n.toNat).take 8 = be 8 n.toNat := List.take_of_length_le (by rw [be_len]; omega)
      rw [hfull] at ho
      have Hh := Lib.hid hh
      clear hh
      go_wp2
      go_end0
      exact ⟨rfl, ⟨hgw, v, Hh.out, ho⟩, hbl⟩

set_option maxHeartbeats 1000000 in
theorem put32_any (w : World) (B gw : Nat) (l : List UInt8) (n : UInt32) (h : Wr w B gw l) (hb : l.length ≤ 1000000000000) (hB : B ≤ w.heap.size) :
    Calls Tryz.prog 147 #[.pointer (some ⟨gw, 0, none⟩), .int .u32 (n.toNat : Int)] w fun e w' => e = .returned (.tuple #[]) ∧ Wr w' B gw (l ++ be 4 n.toNat) ∧ Below B w w' := by
  go_enter Tryz.func147, Tryz.ntmps147
  go_wp2_with (go_at_call 205; refine (width32 _).mono ?_; rintro e w' ⟨rfl, rfl⟩)
  go_loopw [4] (fun i wr => ∃ j : Nat, j ≤ 4 ∧ i = .int .i64 (3 - (j : Int)) ∧ Wr wr B gw (l ++ (be 4 n.toNat).take j) ∧ Below B w wr) (fun i _ => (intOf i + 1).toNat)
  case atStart => exact ⟨0, by omega, rfl, by simpa using h, Below.refl _ _⟩
  case round =>
    obtain ⟨j, hj, rfl, ⟨hgw, v, hh, ho⟩, hbl⟩ := hrel
    by_cases hlt : j < 4
    · have hsz := hbl.size
      have hc := cell_of_row wr gw 0 _ _ _ hh
      have hf := frozen_of_row wr gw 0 _ _ hh
      have hlt2 := block_lt_of_cell hc
      simp only [List.getElem?_toArray, List.getElem?_cons_zero] at hc
      obtain ⟨q, hq⟩ : ∃ q : Nat, q = 3 - j := ⟨_, rfl⟩
      have hq1 : ((3 : Int) - (j : Int)) = (q : Int) := by omega
      have hqq := Lib.hid hq
      have hq8 : q < 8 := by omega
      have hbt := be_take 4 n.toNat j hlt
      rw [show 4 - 1 - j = q by omega] at hbt
      have HBT := Lib.hid hbt
      have hlen : (l ++ (be 4 n.toNat).take j).length ≤ 1000000000008 := by simp [be_len]; omega
      rw [hq1]
      clear h hq hq1 hbt
      have hw1 : IntKind.i64.wrap (8 * (q : Int)) = 8 * (q : Int) := by simp [IntKind.wrap, IntKind.bits, IntKind.signed]; omega
      have hp0 : (0 : Int) ≤ 8 * (q : Int) := by omega
      have hp1 : 8 * (q : Int) ≤ 64 := by omega
      have hp2 : (8 * (q : Int)).toNat = 8 * q := by omega
      have hwb := wrap_byte n.toNat (8 * q)
      have hcv : IntKind.u64.wrap (n.toNat : Int) = (n.toNat : Int) := by
        have := n.toNat_lt
        simp [IntKind.wrap, IntKind.bits, IntKind.signed]; omega
      generalize hLL : l ++ (be 4 n.toNat).take j = L at *
      have HLL := Lib.hid hLL; clear hLL
      generalize hcc : UInt8.ofNat (n.toNat / 2 ^ (8 * q)) = c at *
      have HCC := Lib.hid hcc; clear hcc
      go_wp2
      have hca : ∀ o, (wr.alloc o).cell? ⟨gw, 0, none⟩ = some v ∧ (wr.alloc o).frozen? ⟨gw, 0, none⟩ = false := fun o =>
        ⟨by rw [World.cell?_alloc_past (hn := hlt2)]; exact hc, by rw [World.frozen?_alloc_past (hn := hlt2)]; exact hf⟩
      have hne := own_neW ho hh (by decide)
      go_region_law (first
        | (refine S_append8 rfl (.tmp 17) (.tmp 24) 49 (by rfl) sl22 B v _ _ (by rfl) (ho.alloc _) (some ⟨wr.heap.size, 0, none⟩) 1 1 [c] (by rfl) (R8.lit _ 5 _ [c] 1 rfl (by omega) _ rfl) (by omega) (by simp [maxLen]; omega) (by simp; omega) (fun a2 c2 w2 ho2 hg2 hat2 => ?_)
           have hc2 := (hg2.cell_far ⟨gw, 0, none⟩ (by simp; omega) hne).trans (hca _).1
           have hf2 := (hg2.frozen_far ⟨gw, 0, none⟩ (by simp; omega) hne).trans (hca _).2))
      all_goals
        have hh2 : w2.heap[gw]? = some (.cells #[v] 214 (0, 0)) := (hg2.block gw (by simp; omega) hne).trans ((Below.heap_alloc _ _ _ hlt2).trans hh)
        have hne2 := own_neW ho2 hh2 (by decide)
        have hh3 := heap_setCell_same w2 gw 0 _ _ (.slice a2 (L.length + 1) c2) hh2
        have hgs : w2.grownBy (w2.setCell ⟨gw, 0, none⟩ (.slice a2 (L.length + 1) c2)) (some gw) := ⟨rfl, rfl, rfl, by simp, fun k _ hk => heap_setCell_other w2 ⟨gw, 0, none⟩ k _ (fun e => hk (by simp [e]))⟩
        have ho3 := ho2.kept hgs (.inr (fun e => hne2 e.symm))
        have hbl3 : Below B w (w2.setCell ⟨gw, 0, none⟩ (.slice a2 (L.length + 1) c2)) := (((hbl.alloc (by omega) _).drew).grown hg2 (by simp; omega) (fun k hk => (ho.lt k hk).1)).setCell hgw _
        clear hgs hne2 hh2 ho2 hg2 hat2 hc2 hf2 hca hne
        go_wp2
        go_roundw
        case rel =>
          refine ⟨j + 1, by omega, by rw [show ((q : Int) - 1) = 3 - ((j + 1 : Nat) : Int) from by have := hqq.out; omega], ⟨hgw, _, hh3, ?_⟩, hbl3⟩
          rw [HBT.out, ← List.append_assoc, HLL.out]
          simpa using ho3
        case measure => simp [intOf]
    · obtain rfl : j = 4 := by omega
      have hfull : (be 4 n.toNat).take 4 = be 4 n.toNat := List.take_of_length_le (by rw [be_len]; omega)
      rw [hfull] at ho
      have Hh := Lib.hid hh
      clear hh
      go_wp2
      go_end0
      exact ⟨rfl, ⟨hgw, v, Hh.out, ho⟩, hbl⟩

set_option maxHeartbeats 1000000 in
theorem put8_any (w : World) (B gw : Nat) (l : List UInt8) (n : UInt8) (h : Wr w B gw l) (hb : l.length ≤ 1000000000000) (hB : B ≤ w.heap.size) :
    Calls Tryz.prog 76 #[.pointer (some ⟨gw, 0, none⟩), .int .u8 (n.toNat : Int)] w fun e w' => e = .returned (.tuple #[]) ∧ Wr w' B gw (l ++ be 1 n.toNat) ∧ Below B w w' := by
  go_enter Tryz.func76, Tryz.ntmps76
  go_wp2_with (go_at_call 145; refine (width8 _).mono ?_; rintro e w' ⟨rfl, rfl⟩)
  go_loopw [4] (fun i wr => ∃ j : Nat, j ≤ 1 ∧ i = .int .i64 (0 - (j : Int)) ∧ Wr wr B gw (l ++ (be 1 n.toNat).take j) ∧ Below B w wr) (fun i _ => (intOf i + 1).toNat)
  case atStart => exact ⟨0, by omega, rfl, by simpa using h, Below.refl _ _⟩
  case round =>
    obtain ⟨j, hj, rfl, ⟨hgw, v, hh, ho⟩, hbl⟩ := hrel
    by_cases hlt : j < 1
    · have hsz := hbl.size
      have hc := cell_of_row wr gw 0 _ _ _ hh
      have hf := frozen_of_row wr gw 0 _ _ hh
      have hlt2 := block_lt_of_cell hc
      simp only [List.getElem?_toArray, List.getElem?_cons_zero] at hc
      obtain ⟨q, hq⟩ : ∃ q : Nat, q = 0 - j := ⟨_, rfl⟩
      have hq1 : ((0 : Int) - (j : Int)) = (q : Int) := by omega
      have hqq := Lib.hid hq
      have hq8 : q < 8 := by omega
      have hbt := be_take 1 n.toNat j hlt
      rw [show 1 - 1 - j = q by omega] at hbt
      have HBT := Lib.hid hbt
      have hlen : (l ++ (be 1 n.toNat).take j).length ≤ 1000000000008 := by simp [be_len]; omega
      rw [hq1]
      clear h hq hq1 hbt
      have hw1 : IntKind.i64.wrap (8 * (q : Int)) = 8 * (q : Int) := by simp [IntKind.wrap, IntKind.bits, IntKind.signed]; omega
      have hp0 : (0 : Int) ≤ 8 * (q : Int) := by omega
      have hp1 : 8 * (q : Int) ≤ 64 := by omega
      have hp2 : (8 * (q : Int)).toNat = 8 * q := by omega
      have hwb := wrap_byte n.toNat (8 * q)
      have hcv : IntKind.u64.wrap (n.toNat : Int) = (n.toNat : Int) := by
        have := n.toNat_lt
        simp [IntKind.wrap, IntKind.bits, IntKind.signed]; omega
      generalize hLL : l ++ (be 1 n.toNat).take j = L at *
      have HLL := Lib.hid hLL; clear hLL
      generalize hcc : UInt8.ofNat (n.toNat / 2 ^ (8 * q)) = c at *
      have HCC := Lib.hid hcc; clear hcc
      go_wp2
      have hca : ∀ o, (wr.alloc o).cell? ⟨gw, 0, none⟩ = some v ∧ (wr.alloc o).frozen? ⟨gw, 0, none⟩ = false := fun o =>
        ⟨by rw [World.cell?_alloc_past (hn := hlt2)]; exact hc, by rw [World.frozen?_alloc_past (hn := hlt2)]; exact hf⟩
      have hne := own_neW ho hh (by decide)
      go_region_law (first
        | (refine S_append8 rfl (.tmp 17) (.tmp 24) 49 (by rfl) sl22 B v _ _ (by rfl) (ho.alloc _) (some ⟨wr.heap.size, 0, none⟩) 1 1 [c] (by rfl) (R8.lit _ 5 _ [c] 1 rfl (by omega) _ rfl) (by omega) (by simp [maxLen]; omega) (by simp; omega) (fun a2 c2 w2 ho2 hg2 hat2 => ?_)
           have hc2 := (hg2.cell_far ⟨gw, 0, none⟩ (by simp; omega) hne).trans (hca _).1
           have hf2 := (hg2.frozen_far ⟨gw, 0, none⟩ (by simp; omega) hne).trans (hca _).2))
      all_goals
        have hh2 : w2.heap[gw]? = some (.cells #[v] 214 (0, 0)) := (hg2.block gw (by simp; omega) hne).trans ((Below.heap_alloc _ _ _ hlt2).trans hh)
        have hne2 := own_neW ho2 hh2 (by decide)
        have hh3 := heap_setCell_same w2 gw 0 _ _ (.slice a2 (L.length + 1) c2) hh2
        have hgs : w2.grownBy (w2.setCell ⟨gw, 0, none⟩ (.slice a2 (L.length + 1) c2)) (some gw) := ⟨rfl, rfl, rfl, by simp, fun k _ hk => heap_setCell_other w2 ⟨gw, 0, none⟩ k _ (fun e => hk (by simp [e]))⟩
        have ho3 := ho2.kept hgs (.inr (fun e => hne2 e.symm))
        have hbl3 : Below B w (w2.setCell ⟨gw, 0, none⟩ (.slice a2 (L.length + 1) c2)) := (((hbl.alloc (by omega) _).drew).grown hg2 (by simp; omega) (fun k hk => (ho.lt k hk).1)).setCell hgw _
        clear hgs hne2 hh2 ho2 hg2 hat2 hc2 hf2 hca hne
        go_wp2
        go_roundw
        case rel =>
          refine ⟨j + 1, by omega, by rw [show ((q : Int) - 1) = 0 - ((j + 1 : Nat) : Int) from by have := hqq.out; omega], ⟨hgw, _, hh3, ?_⟩, hbl3⟩
          rw [HBT.out, ← List.append_assoc, HLL.out]
          simpa using ho3
        case measure => simp [intOf]
    · obtain rfl : j = 1 := by omega
      have hfull : (be 1 n.toNat).take 1 = be 1 n.toNat := List.take_of_length_le (by rw [be_len]; omega)
      rw [hfull] at ho
      have Hh := Lib.hid hh
      clear hh
      go_wp2
      go_end0
      exact ⟨rfl, ⟨hgw, v, Hh.out, ho⟩, hbl⟩
def crc (l : List UInt8) : UInt32 := nt (thr 4294967295 l)
theorem thr_append (r : UInt32) (a b : List UInt8) : thr (thr r a) b = thr r (a ++ b) := by simp [thr]
theorem Wr.len {w : World} {B gw : Nat} {l : List UInt8} (h : Wr w B gw l) : gw < w.heap.size := (Array.getElem?_eq_some_iff.1 h.2.choose_spec.1).1
theorem Wr.below {w w' : World} {B gw : Nat} {l : List UInt8} (h : Wr w B gw l) (hb : Below w.heap.size w w') : Wr w' B gw l := by
  have hl := h.len
  obtain ⟨hg, v, hh, ho⟩ := h
  exact ⟨hg, v, (hb.block gw hl).trans hh, ho.kept (row := none) ⟨hb.os, hb.tape, hb.output, hb.size, fun k hk _ => hb.block k hk⟩ (by cases v.ownBlock <;> simp)⟩
theorem HalfTab.below {w w' : World} {B : Nat} (h : HalfTab w) (hb : Below B w w') (h0 : 2 < B) : HalfTab w' := fun i hi => by
  rw [hb.cell (by show 2 < B; exact h0)]; exact h i hi

theorem R8.of_owns' {w : World} {base e : Nat} {a : Option Addr} {n c : Nat} {l : List UInt8} (h : w.ownsRow base e 1 (.slice a n c) n (l.map b8)) (hn : l.length ≤ 281474976710656) : R8 w a n c l :=
  R8.of_owns h (by have := h.1; simp at this; omega)
set_option maxHeartbeats 400000 in
theorem all_any (w : World) (B gw : Nat) (l : List UInt8) (h : Wr w B gw l) (hl : l.length ≤ 1000000000000) :
    Calls Tryz.prog 80 #[.pointer (some ⟨gw, 0, none⟩)] w fun e w' => ∃ a n c, e = .returned (.slice a n c) ∧ w'.ownsRow w.heap.size 5 1 (.slice a n c) n (l.map b8) ∧ Below w.heap.size w w' := by
  obtain ⟨hg, v, hh, ho⟩ := h
  obtain ⟨a, c, rfl, -⟩ := owns_shape ho
  have hc := cell_of_row w gw 0 _ _ _ hh
  have hr := R8.of_owns ho (by omega)
  simp only [List.getElem?_toArray, List.getElem?_cons_zero] at hc
  clear hh
  go_enter Tryz.func80, Tryz.ntmps80
  go_wp2_with (first
    | (at_builtin; refine L_append8 rfl _ _ _ rfl sl22 w.heap.size (.slice none 0 0) 0 [] rfl (World.ownsRow_nil _ _ _ _) _ _ _ l rfl hr (by omega) (by simp [maxLen]; omega) (Nat.le_refl _) (fun a3 c3 w3 ho3 hg3 _ => ?_)))
  go_ret
  simp only [Nat.zero_add, List.nil_append] at ho3 ⊢
  exact ⟨_, _, _, rfl, ho3, (Below.refl _ _).grown hg3 (Nat.le_refl _) (by intro k hk; cases hk)⟩

theorem put64_nat (w : World) (B gw : Nat) (l : List UInt8) (n : Nat) (hn : n < 18446744073709551616) (h : Wr w B gw l) (hb : l.length ≤ 1000000000000) (hB : B ≤ w.heap.size) :
    Calls Tryz.prog 78 #[.pointer (some ⟨gw, 0, none⟩), .int .u64 (n : Int)] w fun e w' => e = .returned (.tuple #[]) ∧ Wr w' B gw (l ++ be 8 n) ∧ Below B w w' := by
  have := put64_any w B gw l (UInt64.ofNat n) h hb hB
  rwa [show (UInt64.ofNat n).toNat = n by simp; omega] at this
theorem put32_nat (w : World) (B gw : Nat) (l : List UInt8) (n : Nat) (hn : n < 4294967296) (h : Wr w B gw l) (hb : l.length ≤ 1000000000000) (hB : B ≤ w.heap.size) :
    Calls Tryz.prog 147 #[.pointer (some ⟨gw, 0, none⟩), .int .u32 (n : Int)] w fun e w' => e = .returned (.tuple #[]) ∧ Wr w' B gw (l ++ be 4 n) ∧ Below B w w' := by
  have := put32_any w B gw l (UInt32.ofNat n) h hb hB
  rwa [show (UInt32.ofNat n).toNat = n by simp; omega] at this
end Go.Proofs.YtoboabkaojfbaaaGreatDoor
