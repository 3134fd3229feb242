import Derived.Test.YtdepdediggokgaaDoorX5
import Derived.Test.YtdepdediggokgaaDoorCards
import Derived.Test.YtdepdediggokgaaDoorTie
import Derived.ProofKit
import Derived.OpenShut
import Derived.Deep.DeepHandedRow
import Derived.Lib.LaidTab
import Derived.SizedLaws
namespace Go.Proofs.YtdepdediggokgaaDoor
open Go.ChangeShapes Go.WideShapes Go.ChangeAt Go.RowKit

theorem own : ownKnob Tryd.prog.godebug = none := by kernel_rfl
theorem laidOut : laidOutB Tryd.prog = true := by kernel_rfl
theorem gTab : Tryd.prog.globalNamed "docket/frame.half" = some 0 := by kernel_rfl
theorem gTabType : (Tryd.prog.globals[0]?).map (·.type) = some 79 := by kernel_rfl
theorem cells79 : Tryd.prog.cellsOf 79 = 16 := by kernel_rfl
theorem cells24 : Tryd.prog.cellsOf 24 = 1 := by kernel_rfl
theorem bytes5 : Tryd.prog.bytesOf 5 = 1 := by kernel_rfl
def halfI : List Int := [0, 498536548, 997073096, 651767980, 1994146192, 1802195444, 1303535960, 1342533948, 3988292384, 4027552580, 3604390888, 3412177804, 2607071920, 2262029012, 2685067896, 3183342108]
theorem table {W : World} (h : laidMetH Tryd.prog [("docket/frame.half", Rows.laid_docket_frame_half)] W) : HalfTab W ∧ 0 < W.heap.size := by
  have ht : Lib.TabIs Tryd.prog W "docket/frame.half" .u32 halfI := Lib.tabIs_of_head (rest := []) gTab gTabType Tryd.underlying79 Tryd.underlying24 cells24 cells79 h
  have hc : HalfTab W := fun i hi => by
    have := ht.cell gTab i hi
    rw [this]
    have e : ∀ i : Fin 16, halfI.getD i.val 0 = ((halfL.getD i.val 0).toNat : Int) := by decide +kernel
    rw [e ⟨i, hi⟩]
  exact ⟨hc, block_lt_of_cell (hc 0 (by decide))⟩

/-- A slice of bytes that came in. -/
theorem open_bytes {W : World} {a : Option Addr} {len cap : Nat} {zs : List Int}
    (h : (a = none ∧ len = 0 ∧ cap = 0 ∧ zs = []) ∨ ∃ x, a = some x ∧ len ≤ cap ∧ cap ≤ maxLen ∧ zs.length = cap ∧ (∀ i, i < zs.length → W.cell? (x.add i) = some (.int .u8 (zs.getD i 0))) ∧ ∀ n ∈ zs, (Lit.int .u8 n).wf = true)
    (hc : len ≤ 281474976710656) : ∃ l, R8 W a len cap l := by
  rcases h with ⟨rfl, rfl, rfl, rfl⟩ | ⟨x, rfl, hl, hm, hz, hcell, hwz⟩
  · exact ⟨[], R8.nil W 0⟩
  · refine ⟨(zs.take len).map (fun z => UInt8.ofNat z.toNat), by simp; omega, hl, hc, fun i hi => ?_⟩
    simp at hi
    have h1 := hcell i (by omega)
    obtain ⟨b, off, spot⟩ := x
    have hspot : spot = none := by
      by_cases h0 : i = 0
      · subst h0
        simpa [Addr.add] using World.cell?_spot h1
      · have h2 := hcell 0 (by omega)
        simpa [Addr.add] using World.cell?_spot h2
    subst hspot
    refine ⟨b, off, rfl, ?_⟩
    rw [Addr.add_lit] at h1
    rw [h1]
    have hg : zs.getD i 0 = zs[i]'(by omega) := by simp [List.getD, show i < zs.length by omega]
    have hw := bounds_u8 (hwz (zs.getD i 0) (by rw [hg]; exact List.getElem_mem _))
    rw [hg] at hw ⊢
    simp only [List.getElem_map, List.getElem_take]
    congr 2
    simp; omega

/-- A world for the witnesses: the settled one, the table holding what its initialiser lays. -/
noncomputable def laidStart (os : Os) : World :=
  { World.holding Tryd.prog os ⟨#[], #[], []⟩ with heap := (World.holding Tryd.prog os ⟨#[], #[], []⟩).heap.modify 0 fun
      | .cells _ t frozen => .cells ((halfI.map (Value.int .u32)).toArray) t frozen
      | o => o }
end Go.Proofs.YtdepdediggokgaaDoor
