import Derived.Test.YtdepdediggokgaaDoorRows
import Derived.Test.YtdepdediggokgaaDoorBase
namespace Go.Proofs.YtdepdediggokgaaDoor
open Go.RowKit
set_option linter.unusedVariables false

def halfL : List UInt32 := [0x00000000, 0x1db71064, 0x3b6e20c8, 0x26d930ac, 0x76dc4190, 0x6b6b51f4, 0x4db26158, 0x5005713c,
  0xedb88320, 0xf00f9344, 0xd6d6a3e8, 0xcb61b38c, 0x9b64c2b0, 0x86d3d2d4, 0xa00ae278, 0xbdbdf21c]
def half (i : UInt32) : UInt32 := halfL.getD i.toNat 0
def nib (r : UInt32) : UInt32 := xr (s4 r) (half (a15 r))
def byteStep (r : UInt32) (c : UInt8) : UInt32 := nib (nib (xb r c))
def thr (r : UInt32) (l : List UInt8) : UInt32 := l.foldl byteStep r
def HalfTab (w : World) : Prop := ∀ i, i < 16 → w.cell? ⟨0, i, none⟩ = some (.int .u32 ((halfL.getD i 0).toNat : Int))
theorem HalfTab.get {w : World} (h : HalfTab w) (x : UInt32) : w.cell? ⟨0, (a15 x).toNat, none⟩ = some (.int .u32 ((half (a15 x)).toNat : Int)) := by
  refine h _ ?_
  have := of_eq_true (a15_lt x)
  omega
theorem thr_take (r : UInt32) (l : List UInt8) (k : Nat) (c : UInt8) (h : l[k]? = some c) : thr r (l.take (k+1)) = nib (nib (xb (thr r (l.take k)) c)) := by
  rw [List.take_add_one, h]; simp [thr, byteStep]
theorem nib_fold (r : UInt32) : xr (s4 r) (half (a15 r)) = nib r := rfl

set_option maxHeartbeats 400000 in
theorem through_any (w : World) (r : UInt32) (a : Option Addr) (len cap : Nat) (l : List UInt8) (h : R8 w a len cap l) (ht : HalfTab w) :
    Calls Tryd.prog 29 #[.int .u32 (r.toNat : Int), .slice a len cap] w fun e w' => e = .returned (.int .u32 ((thr r l).toNat : Int)) ∧ w = w' := by
  have hm : len ≤ 281474976710656 := h.2.2.1
  have ht' := ht.get
  have hnib := nib_fold
  go_enter Tryd.func29, Tryd.ntmps29
  go_wp2
  go_loop [0, 9] (fun x i => ∃ k : Nat, k ≤ len ∧ i = .int .i64 k ∧ x = .int .u32 ((thr r (l.take k)).toNat : Int)) (fun _ i => len - (intOf i).toNat)
  case atStart => exact ⟨0, by omega, rfl, rfl⟩
  case round => 
    obtain ⟨k, hk, rfl, rfl⟩ := hrel
    by_cases hlt : k < len
    · obtain ⟨b, off, c, rfl, hl, hck⟩ := h.at hlt
      have hs := (thr_take r l k c hl).symm
      clear h
      go_wp2
      go_round
      case rel => exact ⟨k+1, by omega, by go_num, rfl⟩
      case measure => simp [intOf]; omega
    · obtain rfl : k = len := by omega
      have ht : l.take k = l := by rw [← h.1]; simp
      rw [ht]
      go_wp2
      go_ret
      exact ⟨rfl, rfl⟩
end Go.Proofs.YtdepdediggokgaaDoor
