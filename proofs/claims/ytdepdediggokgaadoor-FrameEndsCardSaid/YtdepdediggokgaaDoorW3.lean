import Derived.Test.YtdepdediggokgaaDoorW2
namespace Go.Proofs.YtdepdediggokgaaDoor
open Go.RowKit
set_option linter.unusedVariables false
def rightB (l : List UInt8) (x : UInt32) : Bool := l.take 4 == (be 4 x.toNat).take l.length
theorem be_get (x k : Nat) (l : List UInt8) (n : Nat) (hl : l.length = n) (h4 : k < 4) (hk : k < n) : ((be 4 x).take l.length)[k]? = some (UInt8.ofNat (x / 2 ^ (8 * (3 - k)))) := by
  rw [List.getElem?_take, if_pos (by omega)]
  simp [be, h4]
set_option maxHeartbeats 400000 in
theorem right_any (w : World) (a : Option Addr) (n c : Nat) (l : List UInt8) (x : UInt32) (h : R8 w a n c l) (r : Bool) (hr : rightB l x = r) :
    Calls Tryd.prog 47 #[.slice a n c, .int .u32 (x.toNat : Int)] w fun e w' => e = .returned (.bool r) ∧ ∃ n, w' = w.drewN n := by
  have hm := h.2.2.1
  have hlen := Lib.hid h.1
  have Hr := Lib.hid hr; clear hr
  rcases Nat.lt_or_ge 4 n with h4 | h4
  · have hmin : min n 4 = 4 := by omega
    go_enter Tryd.func47, Tryd.ntmps47
    go_wp2
    go_loopw [5, 9] (fun _ i wr => ∃ k : Nat, k ≤ 4 ∧ i = .int .i64 k ∧ (∀ j, j < k → (l.take 4)[j]? = ((be 4 x.toNat).take l.length)[j]?) ∧ ∃ m, wr = w.drewN m) (fun _ i _ => 4 - (intOf i).toNat)
    case atStart => exact ⟨0, by omega, rfl, by intro j hj; omega, 0, rfl⟩
    case round =>
      obtain ⟨k, hk, rfl, heq, m, rfl⟩ := hrel
      have Heq := Lib.hid heq; clear heq
      by_cases hlt : k < 4
      · obtain ⟨b, o, y, rfl, hl, hc⟩ := h.at (i := k) (by omega)
        have hbe := be_get x.toNat k l n hlen.out (by omega) (by omega)
        obtain ⟨q, hq⟩ : ∃ q : Nat, q = 3 - k := ⟨_, rfl⟩
        rw [← hq] at hbe
        have hq1 : (24 : Int) - 8 * (k : Int) = 8 * (q : Int) := by omega
        have hw0 : IntKind.i64.wrap (8 * (k : Int)) = 8 * (k : Int) := by simp [IntKind.wrap, IntKind.bits, IntKind.signed]; omega
        have hw1 : IntKind.i64.wrap (24 - 8 * (k : Int)) = 8 * (q : Int) := by simp [IntKind.wrap, IntKind.bits, IntKind.signed]; omega
        have hp0 : (0 : Int) ≤ 8 * (q : Int) := by omega
        have hp1 : 8 * (q : Int) ≤ 32 := by omega
        have hp2 : (8 * (q : Int)).toNat = 8 * q := by omega
        have hwb := wrap_byte x.toNat (8 * q)
        generalize hz : UInt8.ofNat (x.toNat / 2 ^ (8 * q)) = z at *
        have hb := bne_u8 y z
        have hb' := bne_u8' y z
        have HL := Lib.hid hl; clear hl
        have HBE := Lib.hid hbe; clear hbe
        clear hz hq hq1 h hmin
        by_cases hx : y = z
        · subst hx
          have heq' : ∀ j, j < k + 1 → (l.take 4)[j]? = ((be 4 x.toNat).take l.length)[j]? := by
            intro j hj
            by_cases e : j = k
            · rw [e, HBE.out, List.getElem?_take, if_pos (by omega), HL.out]
            · exact Heq.out j (by omega)
          have HQ := Lib.hid heq'
          clear Heq hb hb' heq'
          go_wp2
          go_quiet (fail)
          go_wp2
          go_roundw
          case rel => exact ⟨k+1, by omega, by go_num, HQ.out, _, rfl⟩
          case measure => simp [intOf]; omega
        · have hr' : r = false := by
            rw [← Hr.out]; exact beq_list_false k (by rw [HBE.out, List.getElem?_take, if_pos (by omega), HL.out]; simpa using hx)
          subst hr'
          have hx' : (y == z) = false := by simpa using hx
          rw [hx'] at hb hb'
          clear Heq hx' Hr
          go_wp2
          go_quiet (fail)
          go_wp2
          go_ret
          exact ⟨rfl, _, World.drewN_drewN _ _ _⟩
      · have hr' : r = true := by
          rw [← Hr.out]
          exact beq_list_true (n := 4) (by have := hlen.out; simp; omega) (by have := hlen.out; simp [be_len]; omega) (fun i hi => Heq.out i (by omega))
        subst hr'
        clear Hr Heq h hmin
        go_wp2
        go_ret
        exact ⟨rfl, _, rfl⟩
  · have hmin : min n 4 = n := by omega
    go_enter Tryd.func47, Tryd.ntmps47
    go_wp2
    go_loopw [5, 9] (fun _ i wr => ∃ k : Nat, k ≤ n ∧ i = .int .i64 k ∧ (∀ j, j < k → (l.take 4)[j]? = ((be 4 x.toNat).take l.length)[j]?) ∧ ∃ m, wr = w.drewN m) (fun _ i _ => n - (intOf i).toNat)
    case atStart => exact ⟨0, by omega, rfl, by intro j hj; omega, 0, rfl⟩
    case round =>
      obtain ⟨k, hk, rfl, heq, m, rfl⟩ := hrel
      have Heq := Lib.hid heq; clear heq
      by_cases hlt : k < n
      · obtain ⟨b, o, y, rfl, hl, hc⟩ := h.at (i := k) (by omega)
        have hbe := be_get x.toNat k l n hlen.out (by omega) (by omega)
        obtain ⟨q, hq⟩ : ∃ q : Nat, q = 3 - k := ⟨_, rfl⟩
        rw [← hq] at hbe
        have hq1 : (24 : Int) - 8 * (k : Int) = 8 * (q : Int) := by omega
        have hw0 : IntKind.i64.wrap (8 * (k : Int)) = 8 * (k : Int) := by simp [IntKind.wrap, IntKind.bits, IntKind.signed]; omega
        have hw1 : IntKind.i64.wrap (24 - 8 * (k : Int)) = 8 * (q : Int) := by simp [IntKind.wrap, IntKind.bits, IntKind.signed]; omega
        have hp0 : (0 : Int) ≤ 8 * (q : Int) := by omega
        have hp1 : 8 * (q : Int) ≤ 32 := by omega
        have hp2 : (8 * (q : Int)).toNat = 8 * q := by omega
        have hwb := wrap_byte x.toNat (8 * q)
        generalize hz : UInt8.ofNat (x.toNat / 2 ^ (8 * q)) = z at *
        have hb := bne_u8 y z
        have hb' := bne_u8' y z
        have HL := Lib.hid hl; clear hl
        have HBE := Lib.hid hbe; clear hbe
        clear hz hq hq1 h hmin
        by_cases hx : y = z
        · subst hx
          have heq' : ∀ j, j < k + 1 → (l.take 4)[j]? = ((be 4 x.toNat).take l.length)[j]? := by
            intro j hj
            by_cases e : j = k
            · rw [e, HBE.out, List.getElem?_take, if_pos (by omega), HL.out]
            · exact Heq.out j (by omega)
          have HQ := Lib.hid heq'
          clear Heq hb hb' heq'
          go_wp2
          go_quiet (fail)
          go_wp2
          go_roundw
          case rel => exact ⟨k+1, by omega, by go_num, HQ.out, _, rfl⟩
          case measure => simp [intOf]; omega
        · have hr' : r = false := by
            rw [← Hr.out]; exact beq_list_false k (by rw [HBE.out, List.getElem?_take, if_pos (by omega), HL.out]; simpa using hx)
          subst hr'
          have hx' : (y == z) = false := by simpa using hx
          rw [hx'] at hb hb'
          clear Heq hx' Hr
          go_wp2
          go_quiet (fail)
          go_wp2
          go_ret
          exact ⟨rfl, _, World.drewN_drewN _ _ _⟩
      · have hr' : r = true := by
          rw [← Hr.out]
          exact beq_list_true (n := n) (by have := hlen.out; simp; omega) (by have := hlen.out; simp [be_len]; omega) (fun i hi => Heq.out i (by omega))
        subst hr'
        clear Hr Heq h hmin
        go_wp2
        go_ret
        exact ⟨rfl, _, rfl⟩

def lenK (l : List UInt8) : Nat → Nat
  | 0 => 0
  | k + 1 => lenK l k * 256 + (l.getD (k + 1) 0).toNat
def lenL (l : List UInt8) : Nat := lenK l 4
theorem lenK_lt (l : List UInt8) (k : Nat) : lenK l k < 256 ^ k := by
  induction k with
  | zero => simp [lenK]
  | succ k ih =>
    have := (l.getD (k + 1) 0).toNat_lt
    simp only [lenK, Nat.pow_succ]; omega
theorem or_add (m : Nat) (x : UInt8) (hm : m < 16777216) : bits .or .i64 ((m : Int) * 256) (x.toNat : Int) = ((m * 256 + x.toNat : Nat) : Int) := by
  have hx := x.toNat_lt
  have e : m * 256 ||| x.toNat = m * 256 + x.toNat := by
    have := Nat.shiftLeft_add_eq_or_of_lt (a := m) (i := 8) (b := x.toNat) (by omega)
    rw [Nat.shiftLeft_eq] at this
    exact this.symm
  have h1 : ((m : Int) * 256) = ((m * 256 : Nat) : Int) := by omega
  have e2 : (BitVec.ofNat 64 (m * 256) ||| BitVec.ofNat 64 x.toNat).toNat = m * 256 + x.toNat := by
    rw [BitVec.toNat_or, BitVec.toNat_ofNat, BitVec.toNat_ofNat, Nat.mod_eq_of_lt (by omega), Nat.mod_eq_of_lt (by omega), e]
  have e3 : IntKind.i64.wrap ((m * 256 + x.toNat : Nat) : Int) = ((m * 256 + x.toNat : Nat) : Int) := by
    simp [IntKind.wrap, IntKind.bits, IntKind.signed]; omega
  rw [h1, ← e3, ← e2]
  simp only [bits, IntKind.bits, BitVec.ofInt_natCast]
  rfl
set_option maxHeartbeats 400000 in
theorem length_any (w : World) (a : Option Addr) (n c : Nat) (l : List UInt8) (h : R8 w a n c l) :
    Calls Tryd.prog 46 #[.slice a n c] w fun e w' => e = .returned (.int .i64 ((lenL l : Nat) : Int)) ∧ w = w' := by
  have hm := h.2.2.1
  have hlen := Lib.hid h.1
  go_enter Tryd.func46, Tryd.ntmps46
  go_wp2
  go_loop [3, 4] (fun v i => ∃ k : Nat, k ≤ 4 ∧ i = .int .i64 ((k + 1 : Nat) : Int) ∧ v = .int .i64 ((lenK l k : Nat) : Int)) (fun _ i => 5 - (intOf i).toNat)
  case atStart => exact ⟨0, by omega, rfl, rfl⟩
  case round =>
    obtain ⟨k, hk, rfl, rfl⟩ := hrel
    have hkl := lenK_lt l k
    by_cases hlt : k < 4
    · have hk2 : lenK l k < 16777216 := Nat.lt_of_lt_of_le hkl (by have : 256 ^ k ≤ 256 ^ 3 := Nat.pow_le_pow_right (by omega) (by omega); omega)
      have hst : lenK l (k + 1) = lenK l k * 256 + (l.getD (k + 1) 0).toNat := rfl
      have Hst := Lib.hid hst; clear hst hkl
      by_cases hln : k + 1 < n
      · obtain ⟨b, off, x, rfl, hl, hc⟩ := h.at hln
        have hor := or_add (lenK l k) x hk2
        have hx : x.toNat < 256 := x.toNat_lt
        have hg : l.getD (k + 1) 0 = x := by simp [List.getD, hl]
        have Hg := Lib.hid hg
        clear h hl hg
        generalize lenK l k = m at *
        go_wp2
        go_round
        case rel => exact ⟨k+1, by omega, by go_num, by rw [Hst.out, Hg.out]; go_num⟩
        case measure => simp [intOf]; omega
      · have hg : l.getD (k + 1) 0 = 0 := by have := hlen.out; simp [List.getD, show l.length ≤ k + 1 by omega]
        have Hg := Lib.hid hg
        clear h hg
        generalize lenK l k = m at *
        go_wp2
        go_round
        case rel => exact ⟨k+1, by omega, by go_num, by rw [Hst.out, Hg.out]; simp⟩
        case measure => simp [intOf]; omega
    · obtain rfl : k = 4 := by omega
      clear hkl h
      go_wp2
      go_ret
      exact ⟨rfl, rfl⟩
end Go.Proofs.YtdepdediggokgaaDoor
