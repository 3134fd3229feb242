import Derived.Test.YtdepdediggokgaaDoorW7
namespace Go.Proofs.YtdepdediggokgaaDoor
open Go.RowKit
set_option linter.unusedVariables false
def case12b : List UInt8 := [99, 97, 115, 101, 32, 49, 50]
theorem case12b_crc : nt (thr 4294967295 case12b) = 1624758277 := by decide +kernel
theorem nil_crc : nt (thr 4294967295 []) = 0 := by decide +kernel
theorem names_pack : packL 0 [] = [209, 0, 0, 0, 0] ++ be 4 (crc [209, 0, 0, 0, 0]).toNat ++ be 4 (crc (be 8 0)).toNat := by decide +kernel
theorem names_len : (packL 0 []).length = 13 := by decide +kernel
theorem names_end : endF ((packL 0 []).length + 1) 0 (packL 0 []) = (1, 13, 0) := by decide +kernel
theorem names_head : (packL 0 [])[0]? = some 209 := by decide +kernel
set_option maxRecDepth 100000 in
set_option maxHeartbeats 1000000 in
theorem framenames_walk (w : World) (ht0 : HalfTab w ∧ 0 < w.heap.size) : Calls Tryd.prog 7 #[] w fun e w' => e = .returned (.bool true) ∧ Below w.heap.size w w' := by
  obtain ⟨ht, h0⟩ := ht0
  have kc := fun (w : World) (C : Array Value) (n c : Nat) => Lib.run_convert_bytes_const (P := Tryd.prog) w 22 5 C n c Tryd.underlying22 Tryd.underlying5
  have q3 := R8.lit w 5 (7, 8) case12b 7 rfl (by omega) _ rfl
  have hb0 : Below w.heap.size w (w.alloc (.cells (case12b.map b8).toArray 5 (7, 8))) := (Below.refl _ _).alloc (Nat.le_refl _) _
  have H3 := Lib.hid (crc_any _ _ _ _ _ q3 (ht.below hb0 h0))
  have H4 := Lib.hid (crc_any _ _ _ _ _ (R8.nil (w.alloc (.cells (case12b.map b8).toArray 5 (7, 8))) 0) (ht.below hb0 h0))
  rw [case12b_crc] at H3
  rw [nil_crc] at H4
  go_enter Tryd.func7, Tryd.ntmps7
  go_wp2_with fail
  refine H3.out.mono ?_
  rintro e w' ⟨rfl, rfl⟩
  rw [show (((1624758277 : UInt32).toNat : Nat) : Int) = 1624758277 from rfl]
  go_wp2_with fail
  refine H4.out.mono ?_
  rintro e w' ⟨rfl, rfl⟩
  rw [show (((0 : UInt32).toNat : Nat) : Int) = 0 from rfl]
  generalize w.alloc (.cells (case12b.map b8).toArray 5 (7, 8)) = W at *
  clear H3 H4 q3
  have z0 := hb0.size
  go_wp2_with fail
  have P := pack_ok W 0 (by omega) _ _ _ _ (R8.nil W 0) (by omega) (ht.below hb0 h0) (by omega)
  rw [show ((0 : Nat) : Int) = 0 from rfl] at P
  with_reducible refine P.mono ?_
  clear P
  rintro e w1 ⟨a1, m1, c1, rfl, hm1, ho1, hb1⟩
  rw [names_len] at hm1
  subst hm1
  have b1 := hb0.trans (hb1.mono z0)
  have r1 := R8.of_owns ho1 (by omega)
  have z1 := b1.size
  obtain ⟨b, off, x, rfl, hl, hc⟩ := r1.at (i := 0) (by omega)
  rw [names_head] at hl
  obtain rfl := Option.some.inj hl
  rw [show (((209 : UInt8).toNat : Nat) : Int) = 209 from rfl, Nat.add_zero] at hc
  go_wp2_with fail
  have P := end_any w1 0 (by omega) _ _ _ _ r1 (ht.below b1 h0) (by omega) 1 13 0 names_end
  rw [show ((0 : Nat) : Int) = 0 from rfl, show ((1 : Nat) : Int) = 1 from rfl, show ((13 : Nat) : Int) = 13 from rfl] at P
  with_reducible refine P.mono ?_
  clear P
  rintro e w2 ⟨rfl, hb2⟩
  have hc2 := (hb2.cell (p := ⟨b, off, none⟩) (block_lt_of_cell hc)).trans hc
  have Hb2 := Lib.hid (b1.trans (hb2.mono z1))
  clear hb2 hb1 b1 ho1 r1 z1 kc hb0 z0 hl hc
  go_wp2
  go_ret
  exact ⟨rfl, Hb2.out⟩
end Go.Proofs.YtdepdediggokgaaDoor
