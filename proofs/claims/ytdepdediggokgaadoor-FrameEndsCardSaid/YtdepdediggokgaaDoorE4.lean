import Derived.Test.YtdepdediggokgaaDoorE3
namespace Go.Proofs.YtdepdediggokgaaDoor
open Go.RowKit
set_option linter.unusedVariables false
/-- Where the whole frames begin, and how long their records are. -/
def recOF : Nat → Int → List UInt8 → Nat → List (Nat × Nat)
  | 0, _, _, _ => []
  | f + 1, n, l, at_ =>
    if l.length = 0 then []
    else if (wholeI n l).2 = 0 then (at_, (wholeI n l).1) :: recOF f (n + 1) (l.drop ((wholeI n l).1 + 13)) (at_ + ((wholeI n l).1 + 13))
    else []
theorem recOF_recs (L : List UInt8) (f : Nat) (n : Int) (l : List UInt8) (at_ : Nat) (h : l = L.drop at_) : recsF f n l = (recOF f n l at_).map fun p => ((L.drop p.1).drop 9).take p.2 := by
  induction f generalizing n l at_ with
  | zero => rfl
  | succ f ih =>
    simp only [recsF, recOF]
    split
    · rfl
    · split
      · rw [List.map_cons, ← ih (n + 1) _ _ (by rw [h, List.drop_drop]), h]
      · rfl
theorem recOF_len (f : Nat) (n : Int) (l : List UInt8) (at_ : Nat) : (recOF f n l at_).length = (endF f n l).1 := by
  induction f generalizing n l at_ with
  | zero => rfl
  | succ f ih =>
    simp only [recOF, endF]
    split
    · rfl
    · split
      · simp [ih]
      · rfl
/-- What the iterator's loop holds: so far these frames. -/
def OfRel (F : Nat) (n : Int) (l : List UInt8) (k at_ : Nat) (os : List (Nat × Nat)) : Prop :=
  os.length = k ∧ ∃ F', (l.drop at_).length < F' ∧ recOF F n l 0 = os ++ recOF F' (n + k) (l.drop at_) at_
theorem OfRel.start (n : Int) (l : List UInt8) : OfRel (l.length + 1) n l 0 0 [] := ⟨rfl, l.length + 1, by simp, by simp⟩
theorem OfRel.stop {F : Nat} {n : Int} {l : List UInt8} {k at_ : Nat} {os : List (Nat × Nat)} (h : OfRel F n l k at_ os) (he : l.length ≤ at_) : recOF F n l 0 = os := by
  obtain ⟨hk, F', h1, h2⟩ := h
  rw [h2]
  cases F' with
  | zero => omega
  | succ f =>
    have : (l.drop at_).length = 0 := by simp; omega
    simp only [recOF, if_pos this, List.append_nil]
theorem OfRel.refused {F : Nat} {n : Int} {l : List UInt8} {k at_ q e : Nat} {os : List (Nat × Nat)} (h : OfRel F n l k at_ os) (hl : at_ < l.length) (he : e ≠ 0) (hw : wholeI (n + k) (l.drop at_) = (q, e)) : recOF F n l 0 = os := by
  obtain ⟨hk, F', h1, h2⟩ := h
  rw [h2]
  cases F' with
  | zero => omega
  | succ f =>
    have : ¬ (l.drop at_).length = 0 := by simp; omega
    simp only [recOF, if_neg this, hw, if_neg he, List.append_nil]
theorem OfRel.next {F : Nat} {n : Int} {l : List UInt8} {k at_ q : Nat} {os : List (Nat × Nat)} (h : OfRel F n l k at_ os) (hl : at_ < l.length) (hw : wholeI (n + k) (l.drop at_) = (q, 0)) :
    OfRel F n l (k + 1) (at_ + (q + 13)) (os ++ [(at_, q)]) ∧ (recOF F n l 0)[k]? = some (at_, q) := by
  obtain ⟨hk, F', h1, h2⟩ := h
  cases F' with
  | zero => omega
  | succ f =>
    have : ¬ (l.drop at_).length = 0 := by simp; omega
    have h3 : recOF F n l 0 = (os ++ [(at_, q)]) ++ recOF f (n + ((k + 1 : Nat) : Int)) (l.drop (at_ + (q + 13))) (at_ + (q + 13)) := by
      rw [h2]
      simp only [recOF, if_neg this, hw, if_true, List.append_assoc, List.singleton_append]
      rw [show n + (k : Int) + 1 = n + ((k + 1 : Nat) : Int) by omega]
      rw [List.drop_drop (i := q + 13)]
    refine ⟨⟨by simp [hk], f, by simp at h1 ⊢; omega, h3⟩, ?_⟩
    rw [h3, List.append_assoc, List.getElem?_append_right (by omega), hk]
    simp
/-- A record as Rows hands it out. -/
def recV (a : Option Addr) (p : Nat × Nat) : Value := .slice (dropA a (p.1 + 9) (p.1 + 9 + p.2)) p.2 p.2
theorem r8_recV {w : World} {a : Option Addr} {m c : Nat} {l : List UInt8} (h : R8 w a m c l) (p : Nat × Nat) (hp : p.1 + 9 + p.2 ≤ m) : R8 w (dropA a (p.1 + 9) (p.1 + 9 + p.2)) p.2 p.2 (((l.drop p.1).drop 9).take p.2) := by
  have h1 : R8 w a (p.1 + 9 + p.2) (p.1 + 9 + p.2) (l.take (p.1 + 9 + p.2)) := by
    obtain ⟨a1, a2, a3, a4⟩ := h.take (p.1 + 9 + p.2) hp
    exact ⟨a1, Nat.le_refl _, a3, a4⟩
  have h2 := h1.dropA (p.1 + 9) (by omega)
  rw [show p.1 + 9 + p.2 - (p.1 + 9) = p.2 by omega] at h2
  rwa [List.drop_take, show p.1 + 9 + p.2 - (p.1 + 9) = p.2 by omega, ← List.drop_drop] at h2
theorem slice_rec (wx : World) (a : Option Addr) (m c lo q : Nat) (x y z : Int) (hx : x = (lo : Int)) (hy : y = ((lo + q : Nat) : Int)) (hz : z = ((lo + q : Nat) : Int)) (hc : lo + q ≤ c) :
    (Instr.slice 22 (.slice a m c) (some (.int .i64 x)) (some (.int .i64 y)) (some (.int .i64 z))).run Tryd.prog wx = .ok (.slice (dropA a lo (lo + q)) q q) wx := by
  subst hx hy hz
  obtain ⟨h1, h2⟩ := sl22.elem wx
  rw [run_slice_lhm wx 22 a m c h1 .i64 .i64 .i64 lo ((lo + q : Nat) : Int) ((lo + q : Nat) : Int) (by omega) (by omega) (by omega) (by omega), h2]
  have e : ((lo : Int) + (q : Int)).toNat = lo + q := by omega
  simp [Result.andThen, sliced, dropA, e]
end Go.Proofs.YtdepdediggokgaaDoor
