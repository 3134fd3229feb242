import Derived.Test.YtakaoacialnjaaaDoorK41
import Derived.Lib.SlBytesRow
namespace Go.Proofs.YtakaoacialnjaaaDoor
open Go Go.RowKit
set_option linter.unusedVariables false
theorem conv_part (w : World) (k : Nat) (hk : k ≤ 2) : Sem.run Tryd.prog (convert 76 9 (.slice (some ⟨w.heap.size, 0, none⟩) 1 1)) (w.alloc (.cells #[.int .u8 (97 + (k : Int))] 5)) = .ok (.string (partName k)) (w.alloc (.cells #[.int .u8 (97 + (k : Int))] 5)) := by
  have hb : Go.Lib.Bytes (w.alloc (.cells #[.int .u8 (97 + (k : Int))] 5)) w.heap.size 0 (partName k) := by
    intro i hi
    have h0 : i = 0 := by have : (partName k).size = 1 := rfl; omega
    subst h0
    rw [cell_of_row _ _ _ _ _ _ (heap_alloc_new w _)]
    have : k = 0 ∨ k = 1 ∨ k = 2 := by omega
    rcases this with rfl | rfl | rfl <;> rfl
  exact Go.Lib.run_convert_whole (P := Tryd.prog) _ 76 5 9 (by kernel_rfl) (by kernel_rfl) (by kernel_rfl) _ 0 (partName k) hb 1
def partsNd (l : List (Int × Bool)) (k : Nat) : List Nd := (List.range k).map fun i => partNd i (l.getD i (0, false))
def partsNm (l : List (Int × Bool)) (k : Nat) : List Nm := (List.range k).flatMap fun i => partNm i (l.getD i (0, false))
end Go.Proofs.YtakaoacialnjaaaDoor
