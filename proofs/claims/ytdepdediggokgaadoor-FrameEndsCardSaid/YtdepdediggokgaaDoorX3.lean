import Derived.Test.YtdepdediggokgaaDoorX2
namespace Go.Proofs.YtdepdediggokgaaDoor
open Go.RowKit
set_option linter.unusedVariables false

theorem sl22 : Sl Tryd.prog 22 5 (.int .u8 0) 1 1 := ⟨Tryd.underlying22, by kernel_rfl, rfl, by decide⟩
theorem set_b8 (l : List UInt8) (k : Nat) (m : UInt8) : (l.map b8).set k (.int .u8 (m.toNat : Int)) = (l.set k m).map b8 := by rw [List.map_set]; rfl
theorem fill_step (l : List UInt8) (n k : Nat) (m : UInt8) (hl : l.length = n) (h1 : n ≤ k) (h2 : k < n + 80) :
    (l ++ List.replicate (k - n) m ++ List.replicate (n + 80 - k) 0).set k m = l ++ List.replicate (k + 1 - n) m ++ List.replicate (n + 80 - (k + 1)) (0 : UInt8) := by
  rw [List.set_append_right _ _ (by simp; omega), show k - (l ++ List.replicate (k - n) m).length = 0 by simp; omega, show n + 80 - k = (n + 80 - (k + 1)) + 1 by omega,
    List.replicate_succ, List.set_cons_zero, show k + 1 - n = (k - n) + 1 by omega, List.replicate_succ' (n := k - n)]
  simp
theorem made8 (n : Nat) : (madeCells (Value.int IntKind.u8 0).cells (n * 1)).toList = (List.replicate n (0 : UInt8)).map b8 := by
  rw [show (Value.int IntKind.u8 0).cells = #[Value.int IntKind.u8 0] from rfl, toList_madeCells_one]; simp [b8]

set_option maxHeartbeats 400000 in
theorem roomy_any (w : World) (a : Option Addr) (n c : Nat) (l : List UInt8) (m : UInt8) (h : R8 w a n c l) (hn : n ≤ 140737488355328) :
    Calls Tryd.prog 10 #[.slice a n c, .int .u8 (m.toNat : Int)] w fun e w' => ∃ g, e = .returned (.slice (some ⟨g, 0, none⟩) (n+80) (n+80)) ∧
      w'.ownsRow w.heap.size 5 1 (.slice (some ⟨g, 0, none⟩) (n+80) (n+80)) (n+80) ((l ++ List.replicate 80 m).map b8) ∧ Below w.heap.size w w' := by
  have hl := Lib.hid h.1
  obtain ⟨B, hB⟩ : ∃ B, B = w.heap.size := ⟨_, rfl⟩
  have HB := Lib.hid hB
  have hbb : Below B w w := Below.refl _ _
  have hBle : B ≤ w.heap.size := by omega
  clear hB
  go_enter Tryd.func10, Tryd.ntmps10
  go_wp2_with (first
    | (at_make; refine L_make rfl _ _ _ rfl sl22 B .i64 .i64 _ (n+80) rfl rfl (by omega) (by omega) (by simp [maxLen]; omega) (by omega) (fun w1 ho1 hg1 => ?_)
       rw [← HB.out] at ho1 ⊢)
    | (refine L_copy8 rfl _ _ _ rfl sl22 B B (n+80) (n+80) _ rfl ho1 _ _ _ _ rfl (h.belowB (B := B) (by have := HB.out; omega) (hbb.grown hg1 (by have := HB.out; omega) (by intro k hk; cases hk))) (by omega) (fun w2 ho2 hg2 => ?_)))
  have hb1 := hbb.grown hg1 (by omega) (by intro k hk; cases hk)
  have hb2 := hb1.grown hg2 (by have := HB.out; have := hb1.size; omega) (by intro k hk; cases hk; omega)
  rw [made8, ← List.map_drop, ← List.map_append, List.drop_replicate, show n + 80 - n = 80 by omega] at ho2
  clear hb1 ho1 hg2 hg1
  go_loopw [6] (fun i wr => ∃ k : Nat, n ≤ k ∧ k ≤ n + 80 ∧ i = .int .i64 k ∧ Below B w wr ∧ wr.ownsRow B 5 1 (.slice (some ⟨B, 0, none⟩) (n+80) (n+80)) (n+80) ((l ++ List.replicate (k-n) m ++ List.replicate (n+80-k) 0).map b8)) (fun i _ => n + 80 - (intOf i).toNat)
  case atStart => exact ⟨n, by omega, by omega, rfl, hb2, by simpa using ho2⟩
  case round =>
    obtain ⟨k, hk1, hk2, rfl, hb, ho⟩ := hrel
    by_cases hlt : k < n + 80
    · have hc := ho.cellAt k (by omega)
      have hf := ho.frozenAt k
      rw [List.getElem?_map, List.getElem?_eq_getElem (by simp; have := hl.out; omega)] at hc
      simp only [Option.map_some] at hc
      generalize (l ++ List.replicate (k-n) m ++ List.replicate (n+80-k) 0)[k]'_ = q at hc
      have ho' := (ho.stored k (.int .u8 (m.toNat : Int))).1
      rw [set_b8, fill_step l n k m hl.out hk1 hlt] at ho'
      have hb' := hb.setCell (p := ⟨B, k, none⟩) (by simp) (.int .u8 (m.toNat : Int))
      clear ho hb h hb2 ho2
      go_wp2
      go_roundw
      case rel => exact ⟨k+1, by omega, by omega, by go_num, hb', ho'⟩
      case measure => simp [intOf]; omega
    · obtain rfl : k = n + 80 := by omega
      rw [HB.out] at *
      go_wp2
      go_ret
      exact ⟨_, rfl, by simpa using ho, hb⟩
end Go.Proofs.YtdepdediggokgaaDoor
