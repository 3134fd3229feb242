import Derived.Test.YtoboabkaojfbaaaGreatDoorQ10
import Derived.Laws.CopyOwn
import Derived.Deep.RegionHeld3
import Derived.IntWalk
import Derived.BigGuardPart
import Derived.BigQuiet
import Derived.Deep.QuietTactic
namespace Go.Proofs.YtoboabkaojfbaaaGreatDoor
open Go Go.RowKit
set_option maxRecDepth 100000
set_option maxHeartbeats 1000000
set_option linter.unusedVariables false
set_option linter.unusedSimpArgs false

/-! Readers of canonical bytes: what goes well. -/
def valN (l : List UInt8) : Nat := l.foldl (fun n c => n * 256 + c.toNat) 0
theorem valN_snoc (l : List UInt8) (c : UInt8) : valN (l ++ [c]) = valN l * 256 + c.toNat := by simp [valN]
theorem valN_lt' : ∀ (l : List UInt8) (n : Nat), l.foldl (fun n c => n * 256 + c.toNat) n < (n + 1) * 256 ^ l.length
  | [], n => by simp
  | c :: l, n => by
    have := valN_lt' l (n * 256 + c.toNat)
    have hc := c.toNat_lt
    refine Nat.lt_of_lt_of_le this ?_
    rw [List.length_cons, Nat.pow_succ, Nat.mul_comm (256 ^ l.length), ← Nat.mul_assoc]
    exact Nat.mul_le_mul_right _ (by omega)
theorem valN_lt (l : List UInt8) : valN l < 256 ^ l.length := by
  have := valN_lt' l 0
  simpa [valN] using this
theorem be_snoc (k n : Nat) : be (k + 1) n = be k (n / 256) ++ [UInt8.ofNat n] := by
  unfold be
  rw [List.range_succ, List.map_append, List.map_singleton]
  congr 1
  · refine List.map_congr_left fun j hj => ?_
    have hj : j < k := List.mem_range.1 hj
    rw [show 8 * (k + 1 - 1 - j) = 8 * (k - 1 - j) + 8 by omega, Nat.pow_add, Nat.mul_comm, ← Nat.div_div_eq_div_mul]
  · rw [show 8 * (k + 1 - 1 - k) = 0 by omega, Nat.pow_zero, Nat.div_one]
theorem valN_be (k : Nat) : ∀ n, n < 256 ^ k → valN (be k n) = n := by
  induction k with
  | zero => intro n h; simp at h; subst h; rfl
  | succ k ih =>
    intro n h
    rw [be_snoc, valN_snoc, ih (n / 256) (by rw [Nat.pow_succ] at h; omega), UInt8.toNat_ofNat']
    omega
def sh8 (x : UInt64) : UInt64 := UInt64.ofNat (x.toNat * 256)
def or8 (x : UInt64) (c : UInt8) : UInt64 := x ||| c.toUInt64
@[go_sem] theorem sh8_u64 (x : UInt64) : (x.toNat : Int) * 256 % 18446744073709551616 = ((sh8 x).toNat : Int) := by
  unfold sh8
  rw [UInt64.toNat_ofNat', Int.natCast_emod, Int.natCast_mul]; rfl
@[go_sem] theorem sh8_wrap (x : UInt64) : IntKind.u64.wrap ((x.toNat : Int) * 256) = ((sh8 x).toNat : Int) := by
  rw [← sh8_u64]; rfl
@[go_sem] theorem wrap_u64_u8 (c : UInt8) : IntKind.u64.wrap (c.toNat : Int) = (c.toNat : Int) := by
  have := c.toNat_lt
  simp [IntKind.wrap, IntKind.bits, IntKind.signed]; omega
theorem ofInt64 (x : UInt64) : BitVec.ofInt 64 (x.toNat : Int) = x.toBitVec := by
  rw [BitVec.ofInt_natCast]; simp
theorem wrap_u64_nat {n : Nat} (h : n < 18446744073709551616) : IntKind.u64.wrap (n : Int) = n := by
  simp [IntKind.wrap, IntKind.bits, IntKind.signed]; omega
@[go_sem] theorem or_u64_u8 (x : UInt64) (c : UInt8) : bits .or .u64 (x.toNat : Int) (c.toNat : Int) = ((or8 x c).toNat : Int) := by
  rw [show (c.toNat : Int) = (c.toUInt64.toNat : Int) by simp]
  simp only [bits, IntKind.bits, ofInt64]
  rw [wrap_u64_nat (BitVec.isLt _)]; rfl
def val64 (l : List UInt8) : UInt64 := l.foldl (fun n c => or8 (sh8 n) c) 0
theorem val64_snoc (l : List UInt8) (c : UInt8) : val64 (l ++ [c]) = or8 (sh8 (val64 l)) c := by simp [val64]
theorem val64_eq' : ∀ (l : List UInt8) (x : UInt64), l.length ≤ 8 → x.toNat < 256 ^ (8 - l.length) → (l.foldl (fun n c => or8 (sh8 n) c) x).toNat = l.foldl (fun n c => n * 256 + c.toNat) x.toNat
  | [], x, _, _ => rfl
  | c :: l, x, hl, hx => by
    rw [List.length_cons] at hl hx
    have hc := c.toNat_lt
    have e : (or8 (sh8 x) c).toNat = x.toNat * 256 + c.toNat := by
      have h3 : 256 ^ (8 - (l.length + 1)) ≤ 256 ^ 7 := Nat.pow_le_pow_right (by omega) (by omega)
      have h7 : 256 ^ 7 = 72057594037927936 := by decide
      unfold or8 sh8
      rw [UInt64.toNat_or, UInt64.toNat_ofNat', UInt8.toNat_toUInt64, Nat.mod_eq_of_lt (by omega)]
      rw [show x.toNat * 256 = x.toNat <<< 8 by rw [Nat.shiftLeft_eq], ← Nat.shiftLeft_add_eq_or_of_lt (by simpa using hc)]
    show (l.foldl _ (or8 (sh8 x) c)).toNat = l.foldl _ (x.toNat * 256 + c.toNat)
    rw [val64_eq' l _ (by omega) ?_, e]
    rw [e]
    have : 256 ^ (8 - l.length) = 256 ^ (8 - (l.length + 1)) * 256 := by rw [← Nat.pow_succ]; congr 1; omega
    omega
theorem val64_eq (l : List UInt8) (h : l.length ≤ 8) : (val64 l).toNat = valN l := val64_eq' l 0 h (Nat.pow_pos (by omega))
theorem valN_take (l : List UInt8) (k : Nat) (c : UInt8) (h : l[k]? = some c) : val64 (l.take (k + 1)) = or8 (sh8 (val64 (l.take k))) c := by
  rw [List.take_add_one, h]; exact val64_snoc _ _
/-- A reader that stands at a place of l, not refused. -/
def RdAt (w : World) (gr : Nat) (l : List UInt8) (p : Nat) : Prop := ∃ a n c, w.heap[gr]? = some (.cells #[.slice a n c, .int .i64 (p : Int), .int .i64 0] 243 (0, 0)) ∧ R8 w a n c l ∧ (∀ x, a = some x → 0 < n → gr ≠ x.block) ∧ n ≤ 1000000000000
theorem RdAt.lt {w : World} {gr p : Nat} {l : List UInt8} (h : RdAt w gr l p) : gr < w.heap.size := by
  obtain ⟨a, n, c, h1, -⟩ := h
  exact (Array.getElem?_eq_some_iff.1 h1).1
theorem RdAt.below {w w' : World} {gr p : Nat} {l : List UInt8} (h : RdAt w gr l p) (hb : Below w.heap.size w w') : RdAt w' gr l p := by
  have hl := h.lt
  obtain ⟨a, n, c, h1, h2, h3, h4⟩ := h
  exact ⟨a, n, c, (hb.block gr hl).trans h1, h2.below hb, h3, h4⟩
/-- The place set. -/
theorem RdAt.moved {w : World} {gr p : Nat} {l : List UInt8} (h : RdAt w gr l p) (q : Nat) : RdAt (w.setCell ⟨gr, 1, none⟩ (.int .i64 (q : Int))) gr l q := by
  obtain ⟨a, n, c, h1, h2, h3, h4⟩ := h
  have := heap_setCell_same w gr 1 _ _ (.int .i64 (q : Int)) h1
  exact ⟨a, n, c, by simpa using this, r8_grown h2 h3 (grown_set (grown_refl w (some gr)) 0 1 _), h3, h4⟩
set_option maxHeartbeats 4000000
theorem read_new (w : World) (a : Option Addr) (n c : Nat) (l : List UInt8) (hr : R8 w a n c l) (hn : n ≤ 1000000000000) :
    Calls Tryz.prog 98 #[.slice a n c] w fun e w' => ∃ gr, e = .returned (.pointer (some ⟨gr, 0, none⟩)) ∧ w.heap.size ≤ gr ∧ RdAt w' gr l 0 ∧ Below w.heap.size w w' := by
  have HR := Lib.hid hr
  have hnl := hr.1
  have HNL := Lib.hid hnl
  clear hr hnl
  go_enter Tryz.func98, Tryz.ntmps98
  go_wp2_with (at_builtin; refine L_append8 rfl _ _ _ rfl sl22 w.heap.size (.slice none 0 0) 0 [] rfl (World.ownsRow_nil _ _ _ _) _ _ _ l rfl HR.out (by omega) (by simp [maxLen]; omega) (Nat.le_refl _) (fun a3 c3 w3 ho3 hg3 _ => ?_)
               have HO3 := Lib.hid ho3; have HG3 := Lib.hid hg3
               clear ho3 hg3)
  go_ret
  have hb3 : Below w.heap.size w w3 := (Below.refl _ _).grown HG3.out (Nat.le_refl _) (by intro k hk; cases hk)
  have ho := HO3.out
  simp only [Nat.zero_add, List.nil_append] at ho ⊢
  have hr3 : R8 w3 a3 n c3 l := R8.of_owns ho (by omega)
  refine ⟨w3.heap.size, rfl, hb3.size, ⟨a3, n, c3, heap_alloc_new w3 _, hr3.below ((Below.refl _ _).alloc (Nat.le_refl _) _), fun x hx h0 => ?_, hn⟩, hb3.alloc hb3.size _⟩
  obtain ⟨b, off, e, hc⟩ := hr3.2.2.2 0 (by have := HNL.out; omega)
  rw [hx] at e
  obtain rfl := Option.some.inj e
  have : b < w3.heap.size := World.block_lt_of_cell? w3 _ hc
  show w3.heap.size ≠ b
  omega

theorem ahead_u8 (w : World) (gr : Nat) (l : List UInt8) (q p : Nat) (h : RdAt w gr l q) (hp : p + 1 ≤ l.length) :
    Calls Tryz.prog 166 #[.pointer (some ⟨gr, 0, none⟩), .int .i64 (p : Int)] w fun e w' => e = .returned (.tuple #[.int .u8 (valN ((l.drop p).take 1) : Nat), .int .i64 ((p : Int) + 1), .bool true]) ∧ w = w' := by
  obtain ⟨a, n, c, hh, hr, -, hn⟩ := h
  have hnl := hr.1
  have k0 : w.cell? ⟨gr, 0, none⟩ = some (.slice a n c) := by rw [cell_of_row _ _ _ _ _ _ hh]; rfl
  have hpn : p + 1 ≤ n := by omega
  have hnc := hr.2.1
  have HM := Lib.hid (hr.mid p (p + 1) (by omega) hpn)
  rw [show p + 1 - p = 1 by omega] at HM
  have hsl0 : ∀ wx, (Instr.slice 49 (.slice a n c) (some (.int .i64 (p : Int))) (some (.int .i64 ((p : Int) + 1))) none).run Tryz.prog wx = .ok (.slice (dropA a p c) 1 (c - p)) wx := fun wx => by
    have := slice_mid (P := Tryz.prog) sl22 wx a n c p (p + 1) (p : Int) ((p : Int) + 1) rfl (by push_cast; rfl) (by omega) (by omega)
    rwa [show p + 1 - p = 1 by omega] at this
  obtain ⟨m, hm⟩ : ∃ m, m = (l.drop p).take 1 := ⟨_, rfl⟩
  rw [← hm] at HM ⊢
  have hml : m.length = 1 := by rw [hm, List.length_take, List.length_drop]; omega
  obtain ⟨a2, ha2⟩ : ∃ a2, a2 = dropA a p c := ⟨_, rfl⟩
  obtain ⟨c2, hc2⟩ : ∃ c2, c2 = c - p := ⟨_, rfl⟩
  rw [← ha2, ← hc2] at HM
  have hsl : ∀ wx, (Instr.slice 49 (.slice a n c) (some (.int .i64 (p : Int))) (some (.int .i64 ((p : Int) + 1))) none).run Tryz.prog wx = .ok (.slice a2 1 c2) wx := fun wx => by rw [ha2, hc2]; exact hsl0 wx
  have hgt : decide ((n : Int) - (p : Int) < 1) = false := by simp; omega
  have hv := valN_lt m
  rw [hml] at hv
  have HV := Lib.hid (show (val64 m).toNat = valN m ∧ valN m < 256 ^ 1 from ⟨val64_eq m (by omega), hv⟩)
  have HML := Lib.hid hml
  have hp48 : p ≤ 1000000000000 := by omega
  have hpI : (p : Int) ≤ (n : Int) := by omega
  clear hr hh hnl hm hml ha2 hc2 hv hsl0
  go_enter Tryz.func166, Tryz.ntmps166
  go_wp2_with (go_at_call 145; ((with_reducible refine (width8 _).mono ?_); rintro e w' ⟨rfl, rfl⟩))
  go_loop [32, 8, 10] (fun v x _ => ∃ j : Nat, j ≤ 1 ∧ v = .int .i64 j ∧ x = .int .u64 ((val64 (m.take j)).toNat : Int)) (fun v _ _ => 1 - (intOf v).toNat)
  case atStart => exact ⟨0, by omega, rfl, rfl⟩
  case round =>
    clear hsl hgt hpI
    obtain ⟨j, hj, rfl, rfl⟩ := hrel
    by_cases hlt : j < 1
    · obtain ⟨b, off, x, rfl, hl, hck⟩ := HM.out.at hlt
      have HS := Lib.hid (valN_take m j x hl)
      have h9 : decide ((j : Int) < 1) = true := by simp; omega
      have HLT := Lib.hid hlt
      clear hl hlt hj
      obtain ⟨y, hy⟩ : ∃ y, y = val64 (m.take j) := ⟨_, rfl⟩
      rw [← hy] at HS ⊢
      clear hy
      have hj8 : j < 1 := HLT.out
      go_wp2_with fail
      go_round
      case rel => exact ⟨j + 1, by omega, by go_num, by rw [HS.out]⟩
      case measure => simp [intOf]; omega
    · obtain rfl : j = 1 := by omega
      have h9 : decide (((1 : Nat) : Int) < 1) = false := by decide
      rw [List.take_of_length_le (by rw [HML.out]; exact Nat.le_refl _), HV.out.1]
      have hvv := HV.out.2
      obtain ⟨v, hv⟩ : ∃ v, v = valN m := ⟨_, rfl⟩
      rw [← hv] at hvv ⊢
      have HVV := Lib.hid hv
      have hw : IntKind.u8.wrap (v : Int) = (v : Int) := by
        simp [IntKind.wrap, IntKind.bits, IntKind.signed]; omega
      clear hlt hj hvv hv
      go_wp2_with fail
      go_ret3
      exact ⟨by rw [HVV.out]; rfl, rfl⟩

theorem ahead_u64 (w : World) (gr : Nat) (l : List UInt8) (q p : Nat) (h : RdAt w gr l q) (hp : p + 8 ≤ l.length) :
    Calls Tryz.prog 172 #[.pointer (some ⟨gr, 0, none⟩), .int .i64 (p : Int)] w fun e w' => e = .returned (.tuple #[.int .u64 (valN ((l.drop p).take 8) : Nat), .int .i64 ((p : Int) + 8), .bool true]) ∧ w = w' := by
  obtain ⟨a, n, c, hh, hr, -, hn⟩ := h
  have hnl := hr.1
  have k0 : w.cell? ⟨gr, 0, none⟩ = some (.slice a n c) := by rw [cell_of_row _ _ _ _ _ _ hh]; rfl
  have hpn : p + 8 ≤ n := by omega
  have hnc := hr.2.1
  have HM := Lib.hid (hr.mid p (p + 8) (by omega) hpn)
  rw [show p + 8 - p = 8 by omega] at HM
  have hsl0 : ∀ wx, (Instr.slice 49 (.slice a n c) (some (.int .i64 (p : Int))) (some (.int .i64 ((p : Int) + 8))) none).run Tryz.prog wx = .ok (.slice (dropA a p c) 8 (c - p)) wx := fun wx => by
    have := slice_mid (P := Tryz.prog) sl22 wx a n c p (p + 8) (p : Int) ((p : Int) + 8) rfl (by push_cast; rfl) (by omega) (by omega)
    rwa [show p + 8 - p = 8 by omega] at this
  obtain ⟨m, hm⟩ : ∃ m, m = (l.drop p).take 8 := ⟨_, rfl⟩
  rw [← hm] at HM ⊢
  have hml : m.length = 8 := by rw [hm, List.length_take, List.length_drop]; omega
  obtain ⟨a2, ha2⟩ : ∃ a2, a2 = dropA a p c := ⟨_, rfl⟩
  obtain ⟨c2, hc2⟩ : ∃ c2, c2 = c - p := ⟨_, rfl⟩
  rw [← ha2, ← hc2] at HM
  have hsl : ∀ wx, (Instr.slice 49 (.slice a n c) (some (.int .i64 (p : Int))) (some (.int .i64 ((p : Int) + 8))) none).run Tryz.prog wx = .ok (.slice a2 8 c2) wx := fun wx => by rw [ha2, hc2]; exact hsl0 wx
  have hgt : decide ((n : Int) - (p : Int) < 8) = false := by simp; omega
  have hv := valN_lt m
  rw [hml] at hv
  have HV := Lib.hid (show (val64 m).toNat = valN m ∧ valN m < 256 ^ 8 from ⟨val64_eq m (by omega), hv⟩)
  have HML := Lib.hid hml
  have hp48 : p ≤ 1000000000000 := by omega
  have hpI : (p : Int) ≤ (n : Int) := by omega
  clear hr hh hnl hm hml ha2 hc2 hv hsl0
  go_enter Tryz.func172, Tryz.ntmps172
  go_wp2_with (go_at_call 148; ((with_reducible refine (width64 _).mono ?_); rintro e w' ⟨rfl, rfl⟩))
  go_loop [32, 8, 10] (fun v x _ => ∃ j : Nat, j ≤ 8 ∧ v = .int .i64 j ∧ x = .int .u64 ((val64 (m.take j)).toNat : Int)) (fun v _ _ => 8 - (intOf v).toNat)
  case atStart => exact ⟨0, by omega, rfl, rfl⟩
  case round =>
    clear hsl hgt hpI
    obtain ⟨j, hj, rfl, rfl⟩ := hrel
    by_cases hlt : j < 8
    · obtain ⟨b, off, x, rfl, hl, hck⟩ := HM.out.at hlt
      have HS := Lib.hid (valN_take m j x hl)
      have h9 : decide ((j : Int) < 8) = true := by simp; omega
      have HLT := Lib.hid hlt
      clear hl hlt hj
      obtain ⟨y, hy⟩ : ∃ y, y = val64 (m.take j) := ⟨_, rfl⟩
      rw [← hy] at HS ⊢
      clear hy
      have hj8 : j < 8 := HLT.out
      go_wp2_with fail
      go_round
      case rel => exact ⟨j + 1, by omega, by go_num, by rw [HS.out]⟩
      case measure => simp [intOf]; omega
    · obtain rfl : j = 8 := by omega
      have h9 : decide (((8 : Nat) : Int) < 8) = false := by decide
      rw [List.take_of_length_le (by rw [HML.out]; exact Nat.le_refl _), HV.out.1]
      have hvv := HV.out.2
      obtain ⟨v, hv⟩ : ∃ v, v = valN m := ⟨_, rfl⟩
      rw [← hv] at hvv ⊢
      have HVV := Lib.hid hv
      have hw : IntKind.u64.wrap (v : Int) = (v : Int) := by
        simp [IntKind.wrap, IntKind.bits, IntKind.signed]; omega
      clear hlt hj hvv hv
      go_wp2_with fail
      go_ret3
      exact ⟨by rw [HVV.out]; rfl, rfl⟩

theorem ahead_u32 (w : World) (gr : Nat) (l : List UInt8) (q p : Nat) (h : RdAt w gr l q) (hp : p + 4 ≤ l.length) :
    Calls Tryz.prog 170 #[.pointer (some ⟨gr, 0, none⟩), .int .i64 (p : Int)] w fun e w' => e = .returned (.tuple #[.int .u32 (valN ((l.drop p).take 4) : Nat), .int .i64 ((p : Int) + 4), .bool true]) ∧ w = w' := by
  obtain ⟨a, n, c, hh, hr, -, hn⟩ := h
  have hnl := hr.1
  have k0 : w.cell? ⟨gr, 0, none⟩ = some (.slice a n c) := by rw [cell_of_row _ _ _ _ _ _ hh]; rfl
  have hpn : p + 4 ≤ n := by omega
  have hnc := hr.2.1
  have HM := Lib.hid (hr.mid p (p + 4) (by omega) hpn)
  rw [show p + 4 - p = 4 by omega] at HM
  have hsl0 : ∀ wx, (Instr.slice 49 (.slice a n c) (some (.int .i64 (p : Int))) (some (.int .i64 ((p : Int) + 4))) none).run Tryz.prog wx = .ok (.slice (dropA a p c) 4 (c - p)) wx := fun wx => by
    have := slice_mid (P := Tryz.prog) sl22 wx a n c p (p + 4) (p : Int) ((p : Int) + 4) rfl (by push_cast; rfl) (by omega) (by omega)
    rwa [show p + 4 - p = 4 by omega] at this
  obtain ⟨m, hm⟩ : ∃ m, m = (l.drop p).take 4 := ⟨_, rfl⟩
  rw [← hm] at HM ⊢
  have hml : m.length = 4 := by rw [hm, List.length_take, List.length_drop]; omega
  obtain ⟨a2, ha2⟩ : ∃ a2, a2 = dropA a p c := ⟨_, rfl⟩
  obtain ⟨c2, hc2⟩ : ∃ c2, c2 = c - p := ⟨_, rfl⟩
  rw [← ha2, ← hc2] at HM
  have hsl : ∀ wx, (Instr.slice 49 (.slice a n c) (some (.int .i64 (p : Int))) (some (.int .i64 ((p : Int) + 4))) none).run Tryz.prog wx = .ok (.slice a2 4 c2) wx := fun wx => by rw [ha2, hc2]; exact hsl0 wx
  have hgt : decide ((n : Int) - (p : Int) < 4) = false := by simp; omega
  have hv := valN_lt m
  rw [hml] at hv
  have HV := Lib.hid (show (val64 m).toNat = valN m ∧ valN m < 256 ^ 4 from ⟨val64_eq m (by omega), hv⟩)
  have HML := Lib.hid hml
  have hp48 : p ≤ 1000000000000 := by omega
  have hpI : (p : Int) ≤ (n : Int) := by omega
  clear hr hh hnl hm hml ha2 hc2 hv hsl0
  go_enter Tryz.func170, Tryz.ntmps170
  go_wp2_with (go_at_call 205; ((with_reducible refine (width32 _).mono ?_); rintro e w' ⟨rfl, rfl⟩))
  go_loop [32, 8, 10] (fun v x _ => ∃ j : Nat, j ≤ 4 ∧ v = .int .i64 j ∧ x = .int .u64 ((val64 (m.take j)).toNat : Int)) (fun v _ _ => 4 - (intOf v).toNat)
  case atStart => exact ⟨0, by omega, rfl, rfl⟩
  case round =>
    clear hsl hgt hpI
    obtain ⟨j, hj, rfl, rfl⟩ := hrel
    by_cases hlt : j < 4
    · obtain ⟨b, off, x, rfl, hl, hck⟩ := HM.out.at hlt
      have HS := Lib.hid (valN_take m j x hl)
      have h9 : decide ((j : Int) < 4) = true := by simp; omega
      have HLT := Lib.hid hlt
      clear hl hlt hj
      obtain ⟨y, hy⟩ : ∃ y, y = val64 (m.take j) := ⟨_, rfl⟩
      rw [← hy] at HS ⊢
      clear hy
      have hj8 : j < 4 := HLT.out
      go_wp2_with fail
      go_round
      case rel => exact ⟨j + 1, by omega, by go_num, by rw [HS.out]⟩
      case measure => simp [intOf]; omega
    · obtain rfl : j = 4 := by omega
      have h9 : decide (((4 : Nat) : Int) < 4) = false := by decide
      rw [List.take_of_length_le (by rw [HML.out]; exact Nat.le_refl _), HV.out.1]
      have hvv := HV.out.2
      obtain ⟨v, hv⟩ : ∃ v, v = valN m := ⟨_, rfl⟩
      rw [← hv] at hvv ⊢
      have HVV := Lib.hid hv
      have hw : IntKind.u32.wrap (v : Int) = (v : Int) := by
        simp [IntKind.wrap, IntKind.bits, IntKind.signed]; omega
      clear hlt hj hvv hv
      go_wp2_with fail
      go_ret3
      exact ⟨by rw [HVV.out]; rfl, rfl⟩

theorem take_u8 (w : World) (gr : Nat) (l : List UInt8) (p : Nat) (h : RdAt w gr l p) (hp : p + 1 ≤ l.length) :
    Calls Tryz.prog 99 #[.pointer (some ⟨gr, 0, none⟩)] w fun e w' => e = .returned (.int .u8 (valN ((l.drop p).take 1) : Nat)) ∧ RdAt w' gr l (p + 1) ∧ w.grownBy w' (some gr) := by
  have HA := Lib.hid (ahead_u8 w gr l p p h hp)
  have HH := Lib.hid h
  obtain ⟨a, n, c, hh, hr, -, hn⟩ := h
  have k1 : w.cell? ⟨gr, 1, none⟩ = some (.int .i64 (p : Int)) := by rw [cell_of_row _ _ _ _ _ _ hh]; rfl
  have k2 : w.cell? ⟨gr, 2, none⟩ = some (.int .i64 0) := by rw [cell_of_row _ _ _ _ _ _ hh]; rfl
  have f1 := frozen_of_row w gr 1 _ _ hh
  have hp48 : p ≤ 1000000000000 := by have := hr.1; omega
  obtain ⟨v, hv⟩ : ∃ v, v = valN ((l.drop p).take 1) := ⟨_, rfl⟩
  rw [← hv] at HA ⊢
  clear hr hh hv
  go_enter Tryz.func99, Tryz.ntmps99
  go_wp2_with (go_at_call 166; ((with_reducible refine HA.out.mono ?_); rintro e w' ⟨rfl, rfl⟩))
  go_ret
  refine ⟨rfl, ?_, grown_set (grown_refl w (some gr)) 0 1 _⟩
  have := HH.out.moved (p + 1)
  push_cast at this
  exact this

theorem take_u64 (w : World) (gr : Nat) (l : List UInt8) (p : Nat) (h : RdAt w gr l p) (hp : p + 8 ≤ l.length) :
    Calls Tryz.prog 103 #[.pointer (some ⟨gr, 0, none⟩)] w fun e w' => e = .returned (.int .u64 (valN ((l.drop p).take 8) : Nat)) ∧ RdAt w' gr l (p + 8) ∧ w.grownBy w' (some gr) := by
  have HA := Lib.hid (ahead_u64 w gr l p p h hp)
  have HH := Lib.hid h
  obtain ⟨a, n, c, hh, hr, -, hn⟩ := h
  have k1 : w.cell? ⟨gr, 1, none⟩ = some (.int .i64 (p : Int)) := by rw [cell_of_row _ _ _ _ _ _ hh]; rfl
  have k2 : w.cell? ⟨gr, 2, none⟩ = some (.int .i64 0) := by rw [cell_of_row _ _ _ _ _ _ hh]; rfl
  have f1 := frozen_of_row w gr 1 _ _ hh
  have hp48 : p ≤ 1000000000000 := by have := hr.1; omega
  obtain ⟨v, hv⟩ : ∃ v, v = valN ((l.drop p).take 8) := ⟨_, rfl⟩
  rw [← hv] at HA ⊢
  clear hr hh hv
  go_enter Tryz.func103, Tryz.ntmps103
  go_wp2_with (go_at_call 172; ((with_reducible refine HA.out.mono ?_); rintro e w' ⟨rfl, rfl⟩))
  go_ret
  refine ⟨rfl, ?_, grown_set (grown_refl w (some gr)) 0 1 _⟩
  have := HH.out.moved (p + 8)
  push_cast at this
  exact this

end Go.Proofs.YtoboabkaojfbaaaGreatDoor
