import Derived.Test.YtdepdediggokgaaDoorX1
namespace Go.Proofs.YtdepdediggokgaaDoor
open Go.RowKit
set_option linter.unusedVariables false
set_option maxHeartbeats 400000 in
theorem crc_any (w : World) (a : Option Addr) (len cap : Nat) (l : List UInt8) (h : R8 w a len cap l) (ht : HalfTab w) :
    Calls Tryd.prog 11 #[.slice a len cap] w fun e w' => e = .returned (.int .u32 ((nt (thr 4294967295 l)).toNat : Int)) ∧ w = w' := by
  go_enter Tryd.func11, Tryd.ntmps11
  go_wp2_with (go_at_call 29; refine (through_any _ 4294967295 _ _ _ _ h ht).mono ?_; rintro e w' ⟨rfl, rfl⟩)
  go_ret
  exact ⟨rfl, rfl⟩

set_option maxHeartbeats 400000 in
theorem same_any (w : World) (a1 a2 : Option Addr) (n1 n2 c1 c2 : Nat) (l1 l2 : List UInt8) (h1 : R8 w a1 n1 c1 l1) (h2 : R8 w a2 n2 c2 l2) (r : Bool) (hr : (l1 == l2) = r) :
    Calls Tryd.prog 17 #[.slice a1 n1 c1, .slice a2 n2 c2] w fun e w' => e = .returned (.bool r) ∧ ∃ n, w' = w.drewN n := by
  have hm1 : n1 ≤ 281474976710656 := h1.2.2.1
  have hm2 : n2 ≤ 281474976710656 := h2.2.2.1
  have e1 := h1.1
  have e2 := h2.1
  by_cases hn : n1 = n2
  · subst hn
    have Hr := Lib.hid hr; clear hr
    have E1 := Lib.hid e1; have E2 := Lib.hid e2; clear e1 e2
    have hnn : (!((n1 : Int) == (n1 : Int))) = false := by simp
    go_enter Tryd.func17, Tryd.ntmps17
    go_wp2
    go_loopw [5] (fun i wr => ∃ k : Nat, k ≤ n1 ∧ i = .int .i64 k ∧ (∀ j, j < k → l1[j]? = l2[j]?) ∧ ∃ n, wr = w.drewN n) (fun i _ => n1 - (intOf i).toNat)
    case atStart => exact ⟨0, by omega, rfl, by intro j hj; omega, 0, rfl⟩
    case round =>
      obtain ⟨k, hk, rfl, heq, n, rfl⟩ := hrel
      have Heq := Lib.hid heq; clear heq
      by_cases hlt : k < n1
      · obtain ⟨b1, o1, x1, rfl, hl1, hc1⟩ := h1.at hlt
        obtain ⟨b2, o2, x2, rfl, hl2, hc2⟩ := h2.at hlt
        have hb := bne_u8 x1 x2
        have hb' := bne_u8' x1 x2
        clear h1 h2
        by_cases hx : x1 = x2
        · subst hx
          have heq' : ∀ j, j < k + 1 → l1[j]? = l2[j]? := by
            intro j hj
            by_cases e : j = k
            · rw [e, hl1, hl2]
            · exact Heq.out j (by omega)
          have HL := Lib.hid heq'
          clear hl1 hl2 Heq hb hb' heq'
          go_wp2
          go_quiet (fail)
          go_wp2
          go_roundw
          case rel => exact ⟨k+1, by omega, by go_num, HL.out, _, rfl⟩
          case measure => simp [intOf]; omega
        · have hr' : r = false := by
            rw [← Hr.out]; exact beq_list_false k (by rw [hl1, hl2]; simpa using hx)
          subst hr'
          have hx' : (x1 == x2) = false := by simpa using hx
          rw [hx'] at hb hb'
          clear hl1 hl2 Heq hx' Hr
          go_wp2
          go_quiet (fail)
          go_wp2
          go_ret
          exact ⟨rfl, _, World.drewN_drewN _ _ _⟩
      · have hr' : r = true := by
          rw [← Hr.out]; exact beq_list_true E1.out E2.out (fun i hi => Heq.out i (by omega))
        subst hr'
        clear Hr Heq
        go_wp2
        go_ret
        exact ⟨rfl, _, rfl⟩
  · have hr' : r = false := by
      rw [← hr, beq_eq_false_iff_ne]; rintro rfl; omega
    subst hr'
    have hnn : (!((n1 : Int) == (n2 : Int))) = true := by simp; omega
    clear hr h1 h2 e1 e2
    go_enter Tryd.func17, Tryd.ntmps17
    go_wp2
    go_ret
    exact ⟨rfl, 0, rfl⟩

set_option maxHeartbeats 400000 in
theorem intact_any (w : World) (a1 a2 : Option Addr) (n1 n2 c1 c2 : Nat) (l : List UInt8) (m : UInt8) (h1 : R8 w a1 n1 c1 (l ++ List.replicate 80 m)) (h2 : R8 w a2 n2 c2 l) :
    Calls Tryd.prog 13 #[.slice a1 n1 c1, .slice a2 n2 c2, .int .u8 (m.toNat : Int)] w fun e w' => e = .returned (.bool true) ∧ ∃ n, w' = w.drewN n := by
  have hm1 : n1 ≤ 281474976710656 := h1.2.2.1
  have hm2 : n2 ≤ 281474976710656 := h2.2.2.1
  have e1 := h1.1
  have e2 := h2.1
  have hc1 := h1.2.1
  obtain rfl : n1 = n2 + 80 := by simp at e1; omega
  have h3 := h1.take n2 (by omega)
  rw [← e2, List.take_left, e2] at h3
  have E2 := Lib.hid e2; clear e2 e1
  have hn : (!(((n2 + 80 : Nat) : Int) == (n2 : Int) + 80)) = false := by simp
  have hnc : n2 ≤ c1 := by omega
  go_enter Tryd.func13, Tryd.ntmps13
  go_wp2_with (go_at_call 17; refine (same_any _ _ _ _ _ _ _ _ _ h3 h2 true (by simp)).mono ?_; rintro e w' ⟨rfl, nn, rfl⟩)
  go_loop [7] (fun i => ∃ k : Nat, n2 ≤ k ∧ k ≤ n2 + 80 ∧ i = .int .i64 k) (fun i => n2 + 80 - (intOf i).toNat)
  case atStart => exact ⟨n2, by omega, by omega, rfl⟩
  case round =>
    obtain ⟨k, hk1, hk2, rfl⟩ := hrel
    by_cases hlt : k < n2 + 80
    · obtain ⟨b, o, x, rfl, hl, hc⟩ := h1.at hlt
      have hx : x = m := by
        rw [List.getElem?_append_right (by rw [E2.out]; omega), List.getElem?_replicate, if_pos (by rw [E2.out]; omega)] at hl
        exact (Option.some.inj hl).symm
      subst hx
      clear hl h1 h2 h3
      go_wp2
      go_round
      case rel => exact ⟨k+1, by omega, by omega, by go_num⟩
      case measure => simp [intOf]; omega
    · go_wp2
      go_ret
      exact ⟨rfl, _, rfl⟩

def bitS (x : UInt32) : UInt32 := if x % 2 = 1 then (x / 2) ^^^ 3988292384 else x / 2
def bitN : Nat → UInt32 → UInt32
  | 0, x => x
  | n + 1, x => bitS (bitN n x)
def refStep (r : UInt32) (c : UInt8) : UInt32 := bitN 8 (xb r c)
def refThr (r : UInt32) (l : List UInt8) : UInt32 := l.foldl refStep r
theorem refThr_take (r : UInt32) (l : List UInt8) (k : Nat) (c : UInt8) (h : l[k]? = some c) : refThr r (l.take (k+1)) = bitN 8 (xb (refThr r (l.take k)) c) := by
  rw [List.take_add_one, h]; simp [refThr, refStep]
theorem bit_even (x : UInt32) (h : ((x.toNat : Int) % 2 == 1) = false) : (x.toNat : Int) / 2 = ((bitS x).toNat : Int) := by
  have h' : ¬ x % 2 = 1 := by
    intro e
    have := congrArg UInt32.toNat e
    simp at this h; omega
  rw [bitS, if_neg h']; simp
theorem bit_odd (x : UInt32) (h : ((x.toNat : Int) % 2 == 1) = true) : bits .xor .u32 ((x.toNat : Int) / 2 % 4294967296) 3988292384 = ((bitS x).toNat : Int) := by
  have h' : x % 2 = 1 := by
    rw [← UInt32.toNat_inj]
    simp at h ⊢; omega
  rw [bitS, if_pos h', show ((x.toNat : Int) / 2 % 4294967296) = ((x / 2).toNat : Int) by (have := x.toNat_lt; simp; omega), show (3988292384 : Int) = ((3988292384 : UInt32).toNat : Int) from rfl, xor_u32]; rfl
theorem sub_not (x : UInt32) : (4294967295 : Int) - (x.toNat : Int) = ((nt x).toNat : Int) := by
  have := x.toNat_lt
  simp [nt]; omega

set_option maxHeartbeats 400000 in
theorem refcrc_any (w : World) (a : Option Addr) (len cap : Nat) (l : List UInt8) (h : R8 w a len cap l) :
    Calls Tryd.prog 12 #[.slice a len cap] w fun e w' => e = .returned (.int .u32 ((nt (refThr 4294967295 l)).toNat : Int)) ∧ w = w' := by
  have hm : len ≤ 281474976710656 := h.2.2.1
  have hsub := sub_not
  go_enter Tryd.func12, Tryd.ntmps12
  go_wp2
  go_loop [3, 4, 5] (fun x i j => ∃ k : Nat, k ≤ len ∧ i = .int .i64 k ∧ x = .int .u32 ((refThr 4294967295 (l.take k)).toNat : Int)) (fun _ i _ => len - (intOf i).toNat)
  case atStart => exact ⟨0, by omega, rfl, rfl⟩
  case round => 
    obtain ⟨k, hk, rfl, rfl⟩ := hrel
    by_cases hlt : k < len
    · obtain ⟨b, off, c, rfl, hl, hck⟩ := h.at hlt
      have hs := Lib.hid (refThr_take 4294967295 l k c hl).symm
      clear h hl
      generalize refThr 4294967295 (l.take k) = y at *
      go_wp2
      go_loop [3, 5] (fun x j => ∃ n : Nat, n ≤ 8 ∧ j = .int .i64 n ∧ x = .int .u32 ((bitN n (xb y c)).toNat : Int)) (fun _ j => 8 - (intOf j).toNat)
      case atStart => exact ⟨0, by omega, rfl, rfl⟩
      case round =>
        obtain ⟨n, hn, rfl, rfl⟩ := hrel
        by_cases hn8 : n < 8
        · have hb : bitS (bitN n (xb y c)) = bitN (n+1) (xb y c) := rfl
          generalize bitN n (xb y c) = z at *
          cases hz : ((z.toNat : Int) % 2 == 1)
          · have hq := bit_even z hz
            go_wp2
            go_round
            case rel => exact ⟨n+1, by omega, by go_num, by first | rfl | rw [mod_u32] | rw [hq, hb]⟩
            case measure => simp [intOf]; omega
          · have hq := bit_odd z hz
            go_wp2
            go_round
            case rel => exact ⟨n+1, by omega, by go_num, by first | rfl | rw [mod_u32] | rw [hq, hb]⟩
            case measure => simp [intOf]; omega
        · obtain rfl : n = 8 := by omega
          rw [hs.out]
          go_wp2
          go_round
          case rel => exact ⟨k+1, by omega, by go_num, rfl⟩
          case measure => simp [intOf]; omega
    · obtain rfl : k = len := by omega
      have ht : l.take k = l := by rw [← h.1]; simp
      rw [ht]
      go_wp2
      go_ret
      exact ⟨rfl, rfl⟩
end Go.Proofs.YtdepdediggokgaaDoor
