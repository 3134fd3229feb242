import Derived.Test.YtdepdediggokgaaDoorX6
import Derived.Test.YtdepdediggokgaaDoorL8
import Derived.Test.YtdepdediggokgaaDoorBulk
import Derived.Deep.Matrix
namespace Go.Proofs.YtdepdediggokgaaDoor
open Go.ChangeShapes Go.WideShapes Go.ChangeAt Go.RowKit Go.Deep
set_option linter.unusedVariables false
theorem plain_addr {W : World} {x : Addr} {v : Value} (h0 : W.cell? x = some v) : ∃ b off, x = ⟨b, off, none⟩ := by
  obtain ⟨b, off, spot⟩ := x
  have := World.cell?_spot h0
  simp at this
  subst this
  exact ⟨b, off, rfl⟩
/-- A slice of slices of bytes that came in. -/
theorem open_rows {W : World} {a : Addr} {len cap : Nat} {A : Nat → Option Addr} {L C : Nat → Nat} {Z : Nat → List Int} (hl : len ≤ cap) (hlen : len ≤ 281474976710656) (hL : ∀ r, r < len → L r ≤ 281474976710656)
    (hx : ∀ r, r < cap → W.cell? (a.add r) = some (.slice (A r) (L r) (C r)) ∧ L r ≤ C r ∧ C r ≤ maxLen ∧ (Z r).length = C r ∧ (∀ n ∈ Z r, (Lit.int .u8 n).wf = true) ∧ (A r = none → C r = 0) ∧
        ∀ a', A r = some a' → 0 ≤ a'.block ∧ ∀ c, c < C r → W.cell? (a'.add c) = some (.int .u8 ((Z r).getD c 0))) :
    ∃ ps, RR8 W (some a) len cap ps ∧ ps.map List.length = (List.range len).map L := by
  have each : ∀ r, r < len → ∃ l : List UInt8, R8 W (A r) (L r) (C r) l := by
    intro r hr
    obtain ⟨h1, h2, h3, h4, h5, h6, h7⟩ := hx r (by omega)
    refine open_bytes (zs := Z r) ?_ (hL r hr)
    cases hA : A r with
    | none =>
      have hC := h6 hA
      left
      exact ⟨rfl, by omega, hC, List.eq_nil_of_length_eq_zero (by omega)⟩
    | some a' => exact .inr ⟨a', rfl, h2, h3, h4, fun i hi => (h7 a' hA).2 i (by omega), h5⟩
  obtain ⟨f, hf⟩ := choose_lt each
  refine ⟨(List.range len).map f, ⟨(List.range len).map (fun r => .slice (A r) (L r) (C r)), ⟨by simp, hl, hlen, fun i hi => ?_⟩, by simp, fun i v p hv hp => ?_⟩, ?_⟩
  · simp at hi
    obtain ⟨b, off, rfl⟩ := plain_addr (show W.cell? a = some _ by have := (hx 0 (by omega)).1; simpa [Addr.add] using this)
    refine ⟨b, off, rfl, ?_⟩
    have := (hx i (by omega)).1
    rw [Addr.add_lit] at this
    rw [this]; simp
  · have hi : i < len := by have := (List.getElem?_eq_some_iff.1 hv).1; simpa using this
    simp [hi] at hv hp
    subst hv hp
    exact ⟨_, _, _, rfl, hf i hi⟩
  · rw [List.map_map]
    apply List.map_congr_left
    intro r hr
    exact (hf r (List.mem_range.1 hr)).1
theorem bulk_row {H : Type} (A : Option Addr) (L c : Nat) (zs : List Int) (hz : zs.length = c) (hl : L ≤ c) (h0 : A = none → c = 0) : L + 1 ≤ Rows.uptoBulk (intRow (H := H) .u8 A L zs) := by
  cases A with
  | none => have := h0 rfl; simp [intRow, Rows.uptoBulk]; omega
  | some a =>
    have := bulks.slice_le (lits (H := H) .u8 (zs.take L)) (lits (H := H) .u8 (zs.drop L))
    simp only [lits, List.length_map, List.length_take, List.length_drop] at this
    simp only [intRow, lits]
    omega
theorem bulk_rows {H : Type} (n : Nat) (f : Nat → DataW H) (L : Nat → Nat) (h : ∀ r, r < n → L r + 1 ≤ Rows.uptoBulk (f r)) : ((List.range n).map L).sum + n ≤ Rows.uptoBulkAll ((List.range n).map f) := by
  induction n with
  | zero => simp
  | succ n ih =>
    rw [List.range_succ, List.map_append, List.map_append, bulks.append]
    have h1 := ih (fun r hr => h r (by omega))
    have h2 := h n (by omega)
    simp only [List.sum_append, List.map_cons, List.map_nil, List.sum_cons, List.sum_nil, Rows.uptoBulkAll]
    omega
theorem sum_mem (L : Nat → Nat) (n r : Nat) (h : r < n) : L r ≤ ((List.range n).map L).sum := by
  induction n with
  | zero => omega
  | succ n ih =>
    rw [List.range_succ, List.map_append, List.sum_append]
    by_cases e : r = n
    · subst e; simp
    · have := ih (by omega); omega
end Go.Proofs.YtdepdediggokgaaDoor
