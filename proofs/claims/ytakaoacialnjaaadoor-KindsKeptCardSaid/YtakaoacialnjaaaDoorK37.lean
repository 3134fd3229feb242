import Derived.Test.YtakaoacialnjaaaDoorK18
namespace Go.Proofs.YtakaoacialnjaaaDoor
open Go Go.RowKit
set_option linter.unusedVariables false
theorem sl63 : Sl Tryd.prog 63 92 (.agg #[.string ByteArray.empty, .int .i64 0, .bool false]) 3 32 := ⟨by kernel_rfl, by kernel_rfl, rfl, by decide⟩
theorem Nm_len (n : Nm) : (Nm.cs n).length = 3 := rfl
theorem new_cellsN (w : World) (k : Nm) (t : TypeId) (j : Nat) (u : Value) (h : (Nm.cs k)[j]? = some u) : (w.alloc (.cells #[.string k.nm, .int .i64 k.b, .bool k.o] t)).drew.cell? ((⟨w.heap.size, 0, none⟩ : Addr).add j) = some u := by
  rw [Addr.add_lit]
  show (w.alloc (.cells #[.string k.nm, .int .i64 k.b, .bool k.o] t)).cell? _ = _
  rw [cell_of_row _ _ _ _ _ _ (heap_alloc_new w _), Nat.zero_add]
  simpa [Nm.cs] using h
def NmOut (e : Ending) (w w' : World) (r : List Nm) : Prop :=
  ∃ a c, e = .returned (.slice a r.length c) ∧ w'.ownsRow w.heap.size 92 3 (.slice a r.length c) r.length (r.flatMap Nm.cs)
set_option maxRecDepth 100000 in
set_option maxHeartbeats 4000000 in
theorem plain_any (w : World) (a : Option Addr) (n c : Nat) (sc : List Nm) (hr : RS 3 Nm.cs w a n c sc) (hnb : n ≤ 1000000) :
    Calls Tryd.prog 22 #[.slice a n c] w fun e w' => NmOut e w w' sc ∧ Below w.heap.size w w' := by
  have hlen := hr.1
  have HR := Lib.hid hr
  have HL := Lib.hid hlen
  clear hr
  obtain ⟨B, hB⟩ : ∃ B, B = w.heap.size := ⟨_, rfl⟩
  have HBB := Lib.hid hB
  clear hB
  go_enter Tryd.func22, Tryd.ntmps22
  go_wp2_with fail
  go_loopw [3, 4] (fun v i wr => ∃ k : Nat, k ≤ n ∧ i = .int .i64 k ∧ (∃ la lc, v = .slice la k lc) ∧ wr.ownsRow B 92 3 v k ((sc.take k).flatMap Nm.cs) ∧ Below B w wr) (fun _ i _ => n - (intOf i).toNat)
  case atStart => exact ⟨0, by omega, rfl, ⟨none, 0, rfl⟩, by simpa using World.ownsRow_nil _ _ _ _, by rw [HBB.out]; exact Below.refl _ _⟩
  case round =>
    obtain ⟨k, hk, rfl, ⟨la, lc, rfl⟩, ho, hb⟩ := hrel
    have HO := Lib.hid ho
    have HB := Lib.hid hb
    have zr := hb.size
    have hB5 : B ≤ wr.heap.size := by have := HBB.out; omega
    clear ho hb
    by_cases hlt : k < n
    · obtain ⟨nb, no, nd, rfl, hnd, hcl0⟩ := HR.out.at hlt
      have hcl := fun j v hv => (HB.out.cell (p := ⟨nb, no + k * 3 + j, none⟩) (by have := block_lt_of_cell (hcl0 j v hv); rw [HBB.out]; exact this)).trans (hcl0 j v hv)
      have n0 := hcl 0 _ rfl
      have n1 := hcl 1 _ rfl
      have n2 := hcl 2 _ rfl
      simp only [Nat.add_zero] at n0
      have hltI : (k : Int) < (n : Int) := by omega
      have HND := Lib.hid (show (sc.take (k + 1)).flatMap Nm.cs = (sc.take k).flatMap Nm.cs ++ Nm.cs nd by rw [List.take_add_one, hnd]; simp [List.flatMap_append])
      have HK1 := Lib.hid (show (k + 1) * 32 ≤ 140737488355328 by omega)
      have HK2 := Lib.hid (show k + 1 ≤ maxLen by simp [maxLen]; omega)
      clear hcl hcl0 hnd
      go_wp2_with fail
      go_region_law (first
        | (refine S_appendN rfl (.tmp 11) (.tmp 31) 63 (by rfl) sl63 B (.slice la k lc) k ((sc.take k).flatMap Nm.cs) (by rfl) (own_below HO.out (((Below.refl _ _).drew).alloc (Nat.le_refl _) _)) ⟨wr.heap.size, 0, none⟩ 1 1 (Nm.cs nd) (by rfl) rfl (new_cellsN wr nd 92) (by simp [Nm.cs, Value.oneCell']) HK1.out HK2.out (by simp; omega) (fun a6 c6 w6 ho6 hg6 hat6 => ?_)))
      all_goals
        have hb6 : Below B w w6 := (HB.out.drew.alloc hB5 _).grown hg6 (by simp; omega) (fun q hq => by have := (HO.out.lt q hq).1; omega)
        rw [← HND.out] at ho6
        have HO6 := Lib.hid ho6
        have HB6 := Lib.hid hb6
        clear ho6 hb6 hg6 hat6
        go_wp2
        go_roundw
        case rel => exact ⟨k + 1, by omega, by go_num, ⟨a6, c6, rfl⟩, HO6.out, HB6.out⟩
        case measure => simp [intOf]; omega
    · have hltI : ¬ (k : Int) < (n : Int) := by omega
      obtain rfl : k = n := by omega
      go_wp2
      go_ret
      refine ⟨⟨la, lc, by rw [HL.out]; rfl, ?_⟩, by have := HB.out; rwa [HBB.out] at this⟩
      have := HO.out
      rw [List.take_of_length_le (by have := HL.out; omega), HBB.out] at this
      rw [HL.out]; exact this
end Go.Proofs.YtakaoacialnjaaaDoor
