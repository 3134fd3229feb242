import Derived.Test.YtcnckjlmldnblaaDoorT1
import Derived.Test.YtcnckjlmldnblaaDoorE8
import Derived.ProofKit
import Derived.OpenShut
import Derived.SliceStrings
namespace Go.Proofs.YtcnckjlmldnblaaDoor
open Go Go.RowKit
set_option linter.unusedVariables false
set_option linter.unusedSimpArgs false
open Go.ChangeShapes Go.WideShapes Go.ChangeAt
section
variable {H : Type} {enc : TypeId × Value → H} {W : World} {fuel : Nat}
theorem open_textsM {cs : List Value} {x : DataW H × List MemPlace} (h : DataW.trod enc Tryd.prog W 0 (fun _ => true) true fuel 23 cs = some x) (hw : ∀ n ∈ x.1.weights Tryd.prog 23, n ≤ reachBytes) :
    ∃ a n c ks, cs = [.slice a n c] ∧ RZ W a n c ks ∧ (∀ m ∈ ks, m.size ≤ maxLen) ∧ n ≤ 8796093022208 := by
  rcases open_strings Tryd.underlying23 Tryd.underlying9 c9 h with ⟨rfl, _⟩ | ⟨x, l, c, zs, rfl, _, hl, hm, hz, rfl, hcell, hwz⟩
  · exact ⟨none, 0, 0, [], rfl, ⟨⟨rfl, Nat.le_refl _, by omega, fun i x h => by simp at h⟩, fun _ => rfl⟩, fun m h => by simp at h, by omega⟩
  · simp only [if_true] at hz
    have := hw _ (by simp only [DataW.weights, Tryd.underlying23]; exact List.mem_cons_self)
    simp only [strs, List.length_map, List.length_take, List.length_drop, by9, reachBytes] at this
    refine ⟨some x, l, c, zs.take l, rfl, ⟨⟨by simp; omega, hl, by omega, fun i y hy => ?_⟩, fun e => by cases e⟩, fun m hm => hwz m (List.mem_of_mem_take hm), by omega⟩
    have hil : i < l := by have := (List.getElem?_eq_some_iff.1 hy).1; simp at this; omega
    obtain ⟨b, off, rfl⟩ := spot_row (fun j hj => ⟨_, hcell j hj⟩) (by omega)
    refine ⟨b, off, rfl, fun j v hv => ?_⟩
    have hj : j = 0 := by have := (List.getElem?_eq_some_iff.1 hv).1; simp [Sv] at this; omega
    subst hj
    have h1 := hcell i (by omega)
    rw [Addr.add_lit] at h1
    rw [Nat.mul_one, Nat.add_zero, h1]
    rw [List.getElem?_take_of_lt hil] at hy
    simp only [Sv, List.getElem?_cons_zero, Option.some.injEq] at hv
    rw [← hv, List.getD_eq_getElem?_getD, hy]; rfl
end
end Go.Proofs.YtcnckjlmldnblaaDoor
