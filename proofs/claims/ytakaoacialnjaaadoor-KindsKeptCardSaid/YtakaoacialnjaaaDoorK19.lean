import Derived.Test.YtakaoacialnjaaaDoorK18
namespace Go.Proofs.YtakaoacialnjaaaDoor
open Go Go.RowKit
set_option linter.unusedVariables false
theorem RS.of_row {α : Type} {s : Nat} (enc : α → List Value) (he : ∀ x, (enc x).length = s) {w : World} {g : Nat} {t : TypeId} {fz : Nat × Nat} (xs : List α) (h : w.heap[g]? = some (.cells (xs.flatMap enc).toArray t fz)) (n c : Nat) (hn : xs.length = n) (hc : n ≤ c) (hs : n ≤ 281474976710656) :
    RS s enc w (some ⟨g, 0, none⟩) n c xs := by
  refine ⟨hn, hc, hs, fun i x hx => ⟨g, 0, rfl, fun j v hv => ?_⟩⟩
  rw [cell_of_row w g _ _ _ _ h, Nat.zero_add]
  simpa using flat_get enc s he xs i x hx j v hv
theorem RS.take {α : Type} {s : Nat} {enc : α → List Value} {w : World} {a : Option Addr} {n c : Nat} {xs : List α} (h : RS s enc w a n c xs) (m : Nat) (hm : m ≤ n) : RS s enc w a m c (xs.take m) := by
  obtain ⟨h1, h2, h3, h4⟩ := h
  refine ⟨by simp; omega, by omega, by omega, fun i x hx => h4 i x ?_⟩
  rw [List.getElem?_take] at hx
  split at hx
  · exact hx
  · cases hx
theorem Nd_len (n : Nd) : n.cs.length = 7 := rfl
theorem Nm_len (n : Nm) : n.cs.length = 3 := rfl
def kFee : ByteArray := ⟨#[102, 101, 101]⟩
def kQ : ByteArray := ⟨#[113]⟩
def kE : ByteArray := ⟨#[]⟩
def kn (g : Nat) (ks : List Int) : List Nd := [⟨5, kFee, 0, 0, kE, none, 0, 0, none, 0, 0, []⟩, ⟨1, kE, 1, 10, kE, none, 0, 0, none, 0, 0, []⟩, ⟨15, kE, 0, 0, kE, none, 0, 0, some ⟨g, 0, none⟩, 2, 2, ks⟩, ⟨24, kQ, 0, 0, kE, none, 0, 0, none, 0, 0, []⟩]
def ksc : List Nm := [⟨kFee, 1, true⟩, ⟨kFee, 3, false⟩, ⟨kQ, 7, false⟩]
theorem kof1 (g : Nat) : ofK ((kn g [0, 1]).take 3) ksc = ([(1, true), (1, false), (2, false)], 0, 0) := by kernel_rfl
theorem kof2 (g : Nat) : ofK (kn g [0, 1]) ksc = ([], 3, 34) := by kernel_rfl
theorem kof3 (g : Nat) : ofK (kn g [0, 0]) ksc = ([], 0, 8) := by kernel_rfl
end Go.Proofs.YtakaoacialnjaaaDoor
