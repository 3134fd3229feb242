import Derived.Test.YtakaoacialnjaaaDoorK33
namespace Go.Proofs.YtakaoacialnjaaaDoor
open Go Go.RowKit
set_option linter.unusedVariables false
theorem l0_some {l : List (Int × Bool)} {i : Nat} {x : Int × Bool} (h : l[i]? = some x) : l0 l i = x := by
  simp [l0, List.getD_eq_getElem?_getD, h]
/-- The reference's one, over kids' kinds in the number that is right. -/
theorem refone_any (w : World) (op : Int) (a : Option Addr) (n c : Nat) (l : List (Int × Bool)) (h : RS 2 Kd w a n c l) (h5 : op ≠ 5) (hop : kidsN op ≠ -2) (hn : kidsN op = -1 ∨ (n : Int) = kidsN op) :
    Calls Tryd.prog 40 #[.int .i64 op, .slice a n c] w fun e w' => KindOut e (oneR op l) ∧ Below w.heap.size w w' := by
  have hlen := h.1
  have hr : 1 ≤ op ∧ op < 34 := by
    simp only [kidsN] at hop
    by_cases ho : op < 1 ∨ 34 ≤ op
    · rw [if_pos ho] at hop; exact absurd rfl hop
    · omega
  by_cases hc : op = 1 ∨ op = 30 ∨ op = 2 ∨ op = 25 ∨ op = 26 ∨ op = 24 ∨ op = 3 ∨ op = 29 ∨ op = 4
  · rcases hc with rfl | rfl | rfl | rfl | rfl | rfl | rfl | rfl | rfl
    · exact oc1 w a n c
    · exact oc30 w a n c
    · exact oc2 w a n c
    · exact oc25 w a n c
    · exact oc26 w a n c
    · exact oc24 w a n c
    · exact oc3 w a n c
    · exact oc29 w a n c
    · exact oc4 w a n c
  by_cases h6 : op = 6
  · subst h6; exact oset w a n c l h
  by_cases h7 : op = 7 ∨ op = 8 ∨ op = 27
  · have h1 : 0 < l.length := by
      have e : kidsN op = 1 := by rcases h7 with rfl | rfl | rfl <;> rfl
      rw [e] at hn; omega
    have hx : l[0]? = some (l[0].1, l[0].2) := List.getElem?_eq_getElem h1
    rcases h7 with rfl | rfl | rfl
    · rw [show oneR 7 l = ((1, false), (l0 l 0).1 == 1) from rfl, l0_some hx]; exact op7 w a n c _ _ l h hx
    · rw [show oneR 8 l = ((2, false), (l0 l 0).1 == 2) from rfl, l0_some hx]; exact op8 w a n c _ _ l h hx
    · rw [show oneR 27 l = ((1, false), (l0 l 0).1 == 3 || (l0 l 0).1 == 5) from rfl, l0_some hx]; exact op27 w a n c _ _ l h hx
  by_cases h23 : op = 23
  · subst h23
    have h3 : 2 < l.length := by
      have e : kidsN 23 = 3 := rfl
      rw [e] at hn; omega
    have hx : l[0]? = some (l[0].1, l[0].2) := List.getElem?_eq_getElem (by omega)
    have hy : l[1]? = some (l[1].1, l[1].2) := List.getElem?_eq_getElem (by omega)
    have hz : l[2]? = some (l[2].1, l[2].2) := List.getElem?_eq_getElem (by omega)
    rw [show oneR 23 l = ifR (l0 l 0) (l0 l 1) (l0 l 2) from rfl, l0_some hx, l0_some hy, l0_some hz]; exact oif w a n c _ _ _ _ _ _ l h hx hy hz
  have h2 : 1 < l.length := by
    simp only [kidsN] at hop hn
    rw [if_neg h23, if_neg h6, if_neg h7] at hop hn
    rw [if_neg (by omega), if_neg (by omega)] at hn; omega
  have hx : l[0]? = some (l[0].1, l[0].2) := List.getElem?_eq_getElem (by omega)
  have hy : l[1]? = some (l[1].1, l[1].2) := List.getElem?_eq_getElem (by omega)
  by_cases h33 : op = 33
  · subst h33
    rw [show oneR 33 l = defR (l0 l 0) (l0 l 1) from rfl, l0_some hx, l0_some hy]; exact odef w a n c _ _ _ _ l h hx hy
  by_cases h11 : op = 11
  · subst h11
    rw [show oneR 11 l = eqR (l0 l 0) (l0 l 1) from rfl, l0_some hx, l0_some hy]; exact oeq11 w a n c _ _ _ _ l h hx hy
  by_cases h12 : op = 12
  · subst h12
    rw [show oneR 12 l = eqR (l0 l 0) (l0 l 1) from rfl, l0_some hx, l0_some hy]; exact oeq12 w a n c _ _ _ _ l h hx hy
  have hb : op = 9 ∨ op = 10 ∨ op = 13 ∨ op = 14 ∨ op = 15 ∨ op = 16 ∨ op = 17 ∨ op = 18 ∨ op = 19 ∨ op = 20 ∨ op = 21 ∨ op = 22 ∨ op = 28 ∨ op = 31 ∨ op = 32 := by omega
  have e : oneR op l = ((binK op (l0 l 0).1 (l0 l 1).1, false), decide (0 < binK op (l0 l 0).1 (l0 l 1).1)) := by rcases hb with rfl | rfl | rfl | rfl | rfl | rfl | rfl | rfl | rfl | rfl | rfl | rfl | rfl | rfl | rfl <;> rfl
  rw [e, l0_some hx, l0_some hy]
  exact obin w op hb a n c _ _ _ _ l h hx hy
end Go.Proofs.YtakaoacialnjaaaDoor
