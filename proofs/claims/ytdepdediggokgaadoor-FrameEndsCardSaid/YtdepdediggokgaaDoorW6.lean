import Derived.Test.YtdepdediggokgaaDoorW5
namespace Go.Proofs.YtdepdediggokgaaDoor
open Go.RowKit
set_option linter.unusedVariables false
def bstr (l : List UInt8) : ByteArray := ⟨l.toArray⟩
theorem R8.str {w : World} {a : Option Addr} {n c : Nat} {l : List UInt8} (h : R8 w a n c l) : (convert 22 9 (.slice a n c)).run Tryd.prog w = .ok (.string (bstr l)) w := by
  cases a with
  | none =>
    obtain ⟨rfl, rfl⟩ := h.of_none
    exact run_convert_bytes_nil w 22 5 Tryd.underlying22 Tryd.underlying5 0 c 9 Tryd.underlying9
  | some ad =>
    obtain rfl := h.1
    refine run_convert_bytes_back w 22 9 5 ad c l Tryd.underlying22 Tryd.underlying5 Tryd.underlying9 (fun j hj => ?_)
    have := h.cells rfl j (.int .u8 (l[j].toNat : Int)) (by simp [hj, b8])
    exact this
set_option maxRecDepth 100000 in
set_option maxHeartbeats 1000000 in
theorem first_any (w : World) (ht : HalfTab w) (h0 : 0 < w.heap.size) : Calls Tryd.prog 14 #[] w fun e w' => e = .returned (.bool true) ∧ Below w.heap.size w w' := by
  have kc := fun (w : World) (C : Array Value) (n c : Nat) => Lib.run_convert_bytes_const (P := Tryd.prog) w 22 5 C n c Tryd.underlying22 Tryd.underlying5
  have q3 := R8.lit w 5 (2, 3) [97, 98] 2 rfl (by omega) _ rfl
  have hb0 : ∀ o, Below w.heap.size w (w.alloc o) := fun o => (Below.refl _ _).alloc (Nat.le_refl _) o
  have Hb0 := Lib.hid hb0
  clear hb0
  go_enter Tryd.func14, Tryd.ntmps14
  go_wp2_with fail
  have q3' : R8 (w.alloc (.cells #[.int .u8 97, .int .u8 98] 5 (2, 3))) (some ⟨w.heap.size, 0, none⟩) 2 2 [97, 98] := q3
  have hb0 := Hb0.out (.cells #[.int .u8 97, .int .u8 98] 5 (2, 3))
  generalize hW : w.alloc (.cells #[.int .u8 97, .int .u8 98] 5 (2, 3)) = W at *
  clear hW q3
  have z0 := hb0.size
  have P := pack_ok W 3 (by omega) _ _ _ _ q3' (by omega) (ht.below hb0 h0) (by omega)
  rw [show ((3 : Nat) : Int) = 3 from rfl] at P
  with_reducible refine P.mono ?_
  clear P
  rintro e w1 ⟨a1, m1, c1, rfl, hm1, ho1, hb1⟩
  rw [first_len] at hm1
  subst hm1
  have b1 := hb0.trans (hb1.mono z0)
  have r1 := R8.of_owns ho1 (by omega)
  have z1 := b1.size
  go_wp2_with fail
  have P := unpack_ok _ 3 (by omega) _ _ _ _ r1 (ht.below b1 h0) (by omega) 2 first_whole
  rw [show ((3 : Nat) : Int) = 3 from rfl] at P
  with_reducible refine P.mono ?_
  clear P
  rintro e w2 ⟨a2, c2, rfl, ho2, hb2⟩
  rw [first_rec] at ho2
  have r2 := R8.of_owns ho2 (by omega)
  have hstr := r2.str
  rw [show bstr [97, 98] = ⟨#[97, 98]⟩ from rfl] at hstr
  have Hb2 := Lib.hid (b1.trans (hb2.mono z1))
  clear hb2 hb1 b1 ho2 ho1 r1 r2 z1 kc q3' Hb0 hb0 z0
  go_wp2
  go_ret
  exact ⟨rfl, Hb2.out⟩
end Go.Proofs.YtdepdediggokgaaDoor
