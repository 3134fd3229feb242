import Derived.Test.YteoggphafhcchaaGreatDB
namespace Go.Proofs.YteoggphafhcchaaGreat
open Go Go.RowKit
set_option maxRecDepth 100000
set_option maxHeartbeats 4000000
set_option linter.unusedVariables false
set_option linter.unusedSimpArgs false
theorem within_n (w : World) (x : Int) (hx0 : -9223372036854775808 ≤ x) (hx1 : x ≤ 9223372036854775807) :
    Calls Tryz.prog 5 #[.int .i64 x, .int .i64 4090, .int .i64 4100] w fun e w' => (∃ r : Nat, 4090 ≤ r ∧ r ≤ 4100 ∧ e = .returned (.int .i64 (r : Int))) ∧ w' = w := by
  have hq1 : -(11 : Int) < x.tmod 11 := by
    rcases Int.le_total 0 x with h | h
    · have := Int.tmod_nonneg (11 : Int) h; omega
    · have := Int.tmod_nonneg (11 : Int) (show 0 ≤ -x by omega)
      have h2 := Int.tmod_lt_of_pos (-x) (show (0 : Int) < 11 by omega)
      rw [Int.neg_tmod] at this h2; omega
  have hq2 : x.tmod 11 < 11 := Int.tmod_lt_of_pos x (by omega)
  obtain ⟨q, hq⟩ : ∃ q, q = x.tmod 11 := ⟨_, rfl⟩
  have HQ := Lib.hid hq
  rw [← hq] at hq1 hq2
  have hq' : x.tmod 11 = q := hq.symm
  clear hq
  have hw1 : wrap64 (q + 4100) = q + 4100 := by unfold wrap64; omega
  have hw2 : wrap64 (q + 4100 - 4090) = q + 4100 - 4090 := by unfold wrap64; omega
  have hw3 : wrap64 (q + 4100 - 4090 + 1) = q + 4100 - 4090 + 1 := by unfold wrap64; omega
  have hw4 : wrap64 (4090 + q) = 4090 + q := by unfold wrap64; omega
  have hw5 : wrap64 (4090 + (q + 4100 - 4090 + 1)) = 4090 + (q + 4100 - 4090 + 1) := by unfold wrap64; omega
  cases hd : decide (q < 0)
  · have hn : ¬ q < 0 := of_decide_eq_false hd
    go_enter Tryz.func5, Tryz.ntmps5
    go_wp2
    go_ret
    exact ⟨⟨(4090 + q).toNat, by omega, by omega, by rw [Int.toNat_of_nonneg (by omega)]; rfl⟩, rfl⟩
  · have hn : q < 0 := of_decide_eq_true hd
    go_enter Tryz.func5, Tryz.ntmps5
    go_wp2
    go_ret
    exact ⟨⟨(4090 + (q + 4100 - 4090 + 1)).toNat, by omega, by omega, by rw [Int.toNat_of_nonneg (by omega)]; rfl⟩, rfl⟩
theorem within_i (w : World) (x : Int) (hx0 : -9223372036854775808 ≤ x) (hx1 : x ≤ 9223372036854775807) :
    Calls Tryz.prog 5 #[.int .i64 x, .int .i64 0, .int .i64 4095] w fun e w' => (∃ r : Nat, r ≤ 4095 ∧ e = .returned (.int .i64 (r : Int))) ∧ w' = w := by
  have hq1 : -(4096 : Int) < x.tmod 4096 := by
    rcases Int.le_total 0 x with h | h
    · have := Int.tmod_nonneg (4096 : Int) h; omega
    · have := Int.tmod_nonneg (4096 : Int) (show 0 ≤ -x by omega)
      have h2 := Int.tmod_lt_of_pos (-x) (show (0 : Int) < 4096 by omega)
      rw [Int.neg_tmod] at this h2; omega
  have hq2 : x.tmod 4096 < 4096 := Int.tmod_lt_of_pos x (by omega)
  obtain ⟨q, hq⟩ : ∃ q, q = x.tmod 4096 := ⟨_, rfl⟩
  have HQ := Lib.hid hq
  rw [← hq] at hq1 hq2
  have hq' : x.tmod 4096 = q := hq.symm
  clear hq
  have hw1 : wrap64 (q + 4095) = q + 4095 := by unfold wrap64; omega
  have hw3 : wrap64 (q + 4095 + 1) = q + 4095 + 1 := by unfold wrap64; omega
  have hw4 : wrap64 q = q := by unfold wrap64; omega
  cases hd : decide (q < 0)
  · have hn : ¬ q < 0 := of_decide_eq_false hd
    go_enter Tryz.func5, Tryz.ntmps5
    go_wp2
    go_ret
    exact ⟨⟨q.toNat, by omega, by rw [Int.toNat_of_nonneg (by omega)]; rfl⟩, rfl⟩
  · have hn : q < 0 := of_decide_eq_true hd
    go_enter Tryz.func5, Tryz.ntmps5
    go_wp2
    go_ret
    exact ⟨⟨(q + 4095 + 1).toNat, by omega, by rw [Int.toNat_of_nonneg (by omega)]; rfl⟩, rfl⟩
/-- The i-th of many names. -/
def crowdB (i : Nat) : ByteArray := ⟨#[102, 45, 48 + UInt8.ofNat (i / 1000 % 10), 48 + UInt8.ofNat (i / 100 % 10), 48 + UInt8.ofNat (i / 10 % 10), 48 + UInt8.ofNat (i % 10)]⟩
theorem conv4 (w : World) (b0 b1 b2 b3 : UInt8) (x0 x1 x2 x3 : Int) (h0 : x0 = (b0.toNat : Int)) (h1 : x1 = (b1.toNat : Int)) (h2 : x2 = (b2.toNat : Int)) (h3 : x3 = (b3.toNat : Int)) :
    Sem.run Tryz.prog (convert 50 9 (.slice (some ⟨w.heap.size, 0, none⟩) 4 4)) (w.alloc (.cells #[.int .u8 x0, .int .u8 x1, .int .u8 x2, .int .u8 x3] 5)) = .ok (.string ⟨#[b0, b1, b2, b3]⟩) (w.alloc (.cells #[.int .u8 x0, .int .u8 x1, .int .u8 x2, .int .u8 x3] 5)) := by
  subst h0 h1 h2 h3
  have hb : Go.Lib.Bytes (w.alloc (.cells #[.int .u8 (b0.toNat : Int), .int .u8 (b1.toNat : Int), .int .u8 (b2.toNat : Int), .int .u8 (b3.toNat : Int)] 5)) w.heap.size 0 ⟨#[b0, b1, b2, b3]⟩ := by
    intro i hi
    rw [cell_of_row _ _ _ _ _ _ (heap_alloc_new w _)]
    have : i = 0 ∨ i = 1 ∨ i = 2 ∨ i = 3 := by have : i < 4 := hi; omega
    rcases this with rfl | rfl | rfl | rfl <;> rfl
  exact Go.Lib.run_convert_whole (P := Tryz.prog) _ 50 5 9 (by kernel_rfl) (by kernel_rfl) (by kernel_rfl) _ 0 ⟨#[b0, b1, b2, b3]⟩ hb 4
/-- The shape of a file's name. -/
def okC (c : UInt8) : Bool := (97 ≤ c.toNat && c.toNat ≤ 122) || (48 ≤ c.toNat && c.toNat ≤ 57) || c.toNat == 45 || c.toNat == 46
def legalB (s : ByteArray) : Bool := !(s.data.toList == []) && decide (s.size ≤ 32) && !(s.data.toList.head? == some 46) && s.data.toList.all okC
end Go.Proofs.YteoggphafhcchaaGreat
