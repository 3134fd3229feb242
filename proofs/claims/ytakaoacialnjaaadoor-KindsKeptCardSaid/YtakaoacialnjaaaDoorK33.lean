import Derived.Test.YtakaoacialnjaaaDoorK25
import Derived.Test.YtakaoacialnjaaaDoorK15
import Derived.Test.YtakaoacialnjaaaDoorK30
import Derived.Test.YtakaoacialnjaaaDoorK31
import Derived.Test.YtakaoacialnjaaaDoorK32
namespace Go.Proofs.YtakaoacialnjaaaDoor
open Go Go.RowKit
set_option linter.unusedVariables false
/-- The eleven kinds. -/
def K11 : List (Int × Bool) := [(0, true), (1, false), (1, true), (2, false), (2, true), (3, false), (3, true), (4, false), (4, true), (5, false), (5, true)]
def binOps : List Int := [9, 10, 13, 14, 15, 16, 17, 18, 19, 20, 21, 22, 28, 31, 32]
theorem tab_two : ∀ op ∈ binOps, ∀ x ∈ K11, ∀ y ∈ K11, finK (lookR (opN op) x.1 y.1 pairT) = finK ((binK op x.1 y.1, false), decide (0 < binK op x.1 y.1)) ∧ ((lookR (opN op) x.1 y.1 pairT).2 = true → (lookR (opN op) x.1 y.1 pairT).1 ∈ K11) := by decide +kernel
theorem tab_join : ∀ x ∈ K11, ∀ y ∈ K11, ((joinedK x y).1.1 = (bothK x y).1 ∨ (bothK x y).2 = false) ∧ (joinedK x y).2 = (bothK x y).2 ∧ ((joinedK x y).1.2 = (x.2 || y.2)) ∧ eqK x y = (eqR x y).2 ∧ ((joinedK x y).2 = true → (joinedK x y).1 ∈ K11 ∧ ((joinedK x y).1.1, y.2) ∈ K11) := by decide +kernel
theorem named_k11 (sc : List Nm) (l : List UInt8) (h : (namedK sc l).2 = true) : (namedK sc l).1 ∈ K11 := by
  unfold namedK at h ⊢
  cases hf : sc.find? (isNm l) with
  | none => rw [hf] at h; cases h
  | some n =>
    rw [hf] at h
    simp only [Bool.and_eq_true, decide_eq_true_eq] at h ⊢
    obtain ⟨nm, b, o⟩ := n
    simp only at h ⊢
    have hb : b = 1 ∨ b = 2 ∨ b = 3 ∨ b = 4 ∨ b = 5 := by omega
    rcases hb with rfl | rfl | rfl | rfl | rfl <;> cases o <;> decide
theorem fin_ok {r : (Int × Bool) × Bool} (h : (finK r).2 = 0) : r.2 = true ∧ (finK r).1 = r.1 := by
  unfold finK at h ⊢
  cases hr : r.2
  · rw [hr] at h; simp at h
  · simp
def kidK (ks : List (Int × Bool)) (kids : List Nat) : List (Int × Bool) := kids.map fun k => ks.getD k (0, false)
theorem l0_at (ks : List (Int × Bool)) (kids : List Nat) (i : Nat) (h : i < kids.length) : l0 (kidK ks kids) i = atK ks kids i := by
  simp [l0, kidK, atK, List.getD_eq_getElem?_getD, h]
theorem getD_k11 {ks : List (Int × Bool)} (h : ∀ k ∈ ks, k ∈ K11) {i : Nat} (hi : i < ks.length) : ks.getD i (0, false) ∈ K11 := by
  rw [List.getD_eq_getElem?_getD, List.getElem?_eq_getElem hi]; exact h _ (List.getElem_mem hi)
/-- What the reference's one tells of a node that is no name is what look tells. -/
theorem one_look (sc : List Nm) (ks : List (Int × Bool)) (hks : ∀ k ∈ ks, k ∈ K11) (op : Int) (nm : List UInt8) (kids : List Nat) (hk : ∀ k ∈ kids, k < ks.length) (h5 : op ≠ 5) (h24 : op ≠ 24) (hop : kidsN op ≠ -2) (hn : kidsN op = -1 ∨ (kids.length : Int) = kidsN op) :
    lookK sc ks op nm kids = finK (oneR op (kidK ks kids)) := by
  have hat : ∀ i, i < kids.length → atK ks kids i ∈ K11 := fun i hi => getD_k11 hks (by rw [List.getD_eq_getElem?_getD, List.getElem?_eq_getElem hi]; exact hk _ (List.getElem_mem hi))
  unfold lookK oneR
  by_cases c1 : op = 1 ∨ op = 30
  · rw [if_pos c1, if_pos c1]; rfl
  rw [if_neg c1, if_neg c1]
  by_cases c2 : op = 2 ∨ op = 25 ∨ op = 26
  · rw [if_pos c2, if_pos (show op = 2 ∨ op = 25 ∨ op = 26 ∨ op = 24 by omega)]; rfl
  rw [if_neg c2, if_neg (show ¬ (op = 2 ∨ op = 25 ∨ op = 26 ∨ op = 24) by omega)]
  by_cases c3 : op = 3
  · rw [if_pos c3, if_pos c3]; rfl
  rw [if_neg c3, if_neg c3]
  by_cases c29 : op = 29
  · rw [if_pos c29, if_pos c29]; rfl
  rw [if_neg c29, if_neg c29]
  by_cases c4 : op = 4
  · rw [if_pos c4, if_pos c4]; rfl
  rw [if_neg c4, if_neg c4, if_neg h5, if_neg h24]
  by_cases c6 : op = 6
  · rw [if_pos c6, if_pos c6]
    have e : (kidK ks kids).all (fun k => k.1 == 3) = kids.all (textK ks) := by simp only [kidK, List.all_map]; rfl
    unfold setR
    rw [e]
    cases kids.all (textK ks) <;> rfl
  rw [if_neg c6, if_neg c6]
  by_cases c7 : op = 7 ∨ op = 8 ∨ op = 27
  · rw [if_pos c7]
    have hl : 0 < kids.length := by
      have e : kidsN op = 1 := by rcases c7 with rfl | rfl | rfl <;> rfl
      rw [e] at hn; omega
    rw [l0_at ks kids 0 hl]
    rcases c7 with rfl | rfl | rfl <;> rfl
  rw [if_neg c7, if_neg (show ¬ op = 7 by omega), if_neg (show ¬ op = 8 by omega), if_neg (show ¬ op = 27 by omega)]
  by_cases c23 : op = 23
  · rw [if_pos c23, if_pos c23]
    have hl : 2 < kids.length := by
      have e : kidsN op = 3 := by rw [c23]; rfl
      rw [e] at hn; omega
    rw [l0_at ks kids 0 (by omega), l0_at ks kids 1 (by omega), l0_at ks kids 2 hl]
    obtain ⟨t1, t2, t3, -, -⟩ := tab_join _ (hat 1 (by omega)) _ (hat 2 hl)
    rw [t2, ← t3]
    cases hb : (bothK (atK ks kids 1) (atK ks kids 2)).2
    · rfl
    · rcases t1 with t1 | t1
      · rw [← t1]
      · rw [hb] at t1; cases t1
  rw [if_neg c23, if_neg c23]
  have hl : 1 < kids.length := by
    simp only [kidsN] at hop hn
    rw [if_neg c23, if_neg c6, if_neg c7] at hop hn
    by_cases ho : op < 1 ∨ 34 ≤ op
    · rw [if_pos ho] at hop; exact absurd rfl hop
    · rw [if_neg ho, if_neg (by omega)] at hn; omega
  have hx := hat 0 (by omega)
  have hy := hat 1 hl
  rw [l0_at ks kids 0 (by omega), l0_at ks kids 1 hl]
  generalize atK ks kids 0 = x at *
  generalize atK ks kids 1 = y at *
  unfold twoK
  obtain ⟨t1, t2, t3, t4, -⟩ := tab_join x hx y hy
  by_cases c33 : op = 33
  · rw [if_pos c33, if_neg (show ¬ (op = 11 ∨ op = 12) by omega), if_pos c33]
    rw [t2]
    cases hb : (bothK x y).2
    · rfl
    · rcases t1 with t1 | t1
      · rw [t1]
      · rw [hb] at t1; cases t1
  by_cases c11 : op = 11 ∨ op = 12
  · rw [if_pos c11, if_neg c33, if_pos c11, t4]; rfl
  rw [if_neg c11, if_neg c33, if_neg c33, if_neg c11]
  have hmem : op ∈ binOps := by
    have hr : 1 ≤ op ∧ op < 34 := by
      simp only [kidsN] at hop
      by_cases ho : op < 1 ∨ 34 ≤ op
      · rw [if_pos ho] at hop; exact absurd rfl hop
      · omega
    have : op = 9 ∨ op = 10 ∨ op = 13 ∨ op = 14 ∨ op = 15 ∨ op = 16 ∨ op = 17 ∨ op = 18 ∨ op = 19 ∨ op = 20 ∨ op = 21 ∨ op = 22 ∨ op = 28 ∨ op = 31 ∨ op = 32 := by omega
    rcases this with rfl | rfl | rfl | rfl | rfl | rfl | rfl | rfl | rfl | rfl | rfl | rfl | rfl | rfl | rfl <;> decide
  exact (tab_two op hmem x hx y hy).1
theorem mem_bool : ((2, false) : Int × Bool) ∈ K11 := by decide
theorem mem_num : ((1, false) : Int × Bool) ∈ K11 := by decide
theorem mem_set : ((5, false) : Int × Bool) ∈ K11 := by decide
/-- What look tells is one of the eleven kinds. -/
theorem look_k11 (sc : List Nm) (ks : List (Int × Bool)) (hks : ∀ k ∈ ks, k ∈ K11) (op : Int) (nm : List UInt8) (kids : List Nat) (hk : ∀ k ∈ kids, k < ks.length) (hop : kidsN op ≠ -2) (hn : kidsN op = -1 ∨ (kids.length : Int) = kidsN op)
    (h0 : (lookK sc ks op nm kids).2 = 0) : (lookK sc ks op nm kids).1 ∈ K11 := by
  have hat : ∀ i, i < kids.length → atK ks kids i ∈ K11 := fun i hi => getD_k11 hks (by rw [List.getD_eq_getElem?_getD, List.getElem?_eq_getElem hi]; exact hk _ (List.getElem_mem hi))
  have fk : ∀ r : (Int × Bool) × Bool, (r.2 = true → r.1 ∈ K11) → (finK r).2 = 0 → (finK r).1 ∈ K11 := by
    intro r hr h
    obtain ⟨h1, h2⟩ := fin_ok h
    rw [h2]; exact hr h1
  unfold lookK at h0 ⊢
  by_cases c1 : op = 1 ∨ op = 30
  · rw [if_pos c1]; decide
  rw [if_neg c1] at h0 ⊢
  by_cases c2 : op = 2 ∨ op = 25 ∨ op = 26
  · rw [if_pos c2]; decide
  rw [if_neg c2] at h0 ⊢
  by_cases c3 : op = 3
  · rw [if_pos c3]; decide
  rw [if_neg c3] at h0 ⊢
  by_cases c29 : op = 29
  · rw [if_pos c29]; decide
  rw [if_neg c29] at h0 ⊢
  by_cases c4 : op = 4
  · rw [if_pos c4]; decide
  rw [if_neg c4] at h0 ⊢
  by_cases c5 : op = 5
  · rw [if_pos c5] at h0 ⊢
    cases hb : (namedK sc nm).2
    · rw [hb] at h0; simp at h0
    · exact named_k11 sc nm hb
  rw [if_neg c5] at h0 ⊢
  by_cases c24 : op = 24
  · rw [if_pos c24] at h0 ⊢
    cases hb : (namedK sc nm).2
    · rw [hb] at h0; simp at h0
    · exact mem_bool
  rw [if_neg c24] at h0 ⊢
  by_cases c6 : op = 6
  · rw [if_pos c6] at h0 ⊢; exact fk _ (fun _ => mem_set) h0
  rw [if_neg c6] at h0 ⊢
  by_cases c7 : op = 7 ∨ op = 8 ∨ op = 27
  · rw [if_pos c7] at h0 ⊢; exact fk _ (fun _ => by rcases c7 with rfl | rfl | rfl <;> first | exact mem_num | exact mem_bool) h0
  rw [if_neg c7] at h0 ⊢
  by_cases c23 : op = 23
  · rw [if_pos c23] at h0 ⊢
    have hl : 2 < kids.length := by
      have e : kidsN op = 3 := by rw [c23]; rfl
      rw [e] at hn; omega
    exact fk _ (fun h => ((tab_join _ (hat 1 (by omega)) _ (hat 2 hl)).2.2.2.2 (by simp only [Bool.and_eq_true] at h; exact h.1)).1) h0
  rw [if_neg c23] at h0 ⊢
  have hl : 1 < kids.length := by
    simp only [kidsN] at hop hn
    rw [if_neg c23, if_neg c6, if_neg c7] at hop hn
    by_cases ho : op < 1 ∨ 34 ≤ op
    · rw [if_pos ho] at hop; exact absurd rfl hop
    · rw [if_neg ho, if_neg (by omega)] at hn; omega
  have hx := hat 0 (by omega)
  have hy := hat 1 hl
  generalize atK ks kids 0 = x at *
  generalize atK ks kids 1 = y at *
  refine fk _ ?_ h0
  unfold twoK
  by_cases c11 : op = 11 ∨ op = 12
  · rw [if_pos c11]; exact fun _ => mem_bool
  rw [if_neg c11]
  by_cases c33 : op = 33
  · rw [if_pos c33]; exact fun h => ((tab_join x hx y hy).2.2.2.2 h).2
  rw [if_neg c33]
  have hmem : op ∈ binOps := by
    have hr : 1 ≤ op ∧ op < 34 := by
      simp only [kidsN] at hop
      by_cases ho : op < 1 ∨ 34 ≤ op
      · rw [if_pos ho] at hop; exact absurd rfl hop
      · omega
    have : op = 9 ∨ op = 10 ∨ op = 13 ∨ op = 14 ∨ op = 15 ∨ op = 16 ∨ op = 17 ∨ op = 18 ∨ op = 19 ∨ op = 20 ∨ op = 21 ∨ op = 22 ∨ op = 28 ∨ op = 31 ∨ op = 32 := by omega
    rcases this with rfl | rfl | rfl | rfl | rfl | rfl | rfl | rfl | rfl | rfl | rfl | rfl | rfl | rfl | rfl <;> decide
  exact (tab_two op hmem x hx y hy).2
end Go.Proofs.YtakaoacialnjaaaDoor
