import Derived.Test.YtakaoacialnjaaaDoorK40
namespace Go.Proofs.YtakaoacialnjaaaDoor
open Go Go.RowKit
set_option linter.unusedVariables false
theorem sl24 : Sl Tryd.prog 24 49 (.agg #[.int .i64 0, .string ByteArray.empty, .int .i64 0, .int .i64 0, .string ByteArray.empty, .slice none 0 0, .slice none 0 0]) 7 104 := ⟨by kernel_rfl, by kernel_rfl, rfl, by decide⟩
theorem sl25 : Sl Tryd.prog 25 34 (.agg #[.string ByteArray.empty, .int .i64 0, .bool false]) 3 32 := ⟨by kernel_rfl, by kernel_rfl, rfl, by decide⟩
theorem new_nd (w : World) (k : Nd) (j : Nat) (u : Value) (h : (Nd.cs k)[j]? = some u) : (w.alloc (.cells k.v 49)).cell? ((⟨w.heap.size, 0, none⟩ : Addr).add j) = some u := by
  rw [Addr.add_lit, cell_of_row _ _ _ _ _ _ (heap_alloc_new w _), Nat.zero_add]
  simpa [Nd.v, Nd.cs] using h
theorem new_nm (w : World) (k : Nm) (j : Nat) (u : Value) (h : (Nm.cs k)[j]? = some u) : (w.alloc (.cells #[.string k.nm, .int .i64 k.b, .bool k.o] 34)).cell? ((⟨w.heap.size, 0, none⟩ : Addr).add j) = some u := by
  rw [Addr.add_lit, cell_of_row _ _ _ _ _ _ (heap_alloc_new w _), Nat.zero_add]
  simpa [Nm.cs] using h
theorem new_iv (w : World) (x : Int) (j : Nat) (u : Value) (h : (Iv x)[j]? = some u) : (w.alloc (.cells #[.int .i64 x] 3)).cell? ((⟨w.heap.size, 0, none⟩ : Addr).add j) = some u := by
  rw [Addr.add_lit, cell_of_row _ _ _ _ _ _ (heap_alloc_new w _), Nat.zero_add]
  simpa [Iv] using h
/-- The name of the i-th part. -/
def partName (i : Nat) : ByteArray := ⟨#[UInt8.ofNat (97 + i)]⟩
/-- A literal nothing, or a name. -/
def partNd (i : Nat) (x : Int × Bool) : Nd := if x.1 = 0 then ⟨4, ByteArray.empty, 0, 0, ByteArray.empty, none, 0, 0, none, 0, 0, []⟩ else ⟨5, partName i, 0, 0, ByteArray.empty, none, 0, 0, none, 0, 0, []⟩
def partNm (i : Nat) (x : Int × Bool) : List Nm := if x.1 = 0 then [] else [⟨partName i, x.1, x.2⟩]
end Go.Proofs.YtakaoacialnjaaaDoor
