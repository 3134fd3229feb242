import Derived.Test.YtakaoacialnjaaaDoorK24
import Derived.Test.YtakaoacialnjaaaDoorK17
namespace Go.Proofs.YtakaoacialnjaaaDoor
open Go Go.RowKit
set_option linter.unusedVariables false
def BothOut (e : Ending) (r : Int × Bool) : Prop := e = .returned (.tuple #[.int .i64 r.1, .bool r.2])
set_option maxHeartbeats 2000000 in
theorem both_any (w : World) (xb yb : Int) (xo yo : Bool) :
    Calls Tryd.prog 54 #[.agg #[.int .i64 xb, .bool xo], .agg #[.int .i64 yb, .bool yo]] w fun e w' => BothOut e (bothK (xb, xo) (yb, yo)) ∧ Below w.heap.size w w' := by
  have hb : Below w.heap.size w ((w.alloc (.cells #[.int .i64 xb, .bool xo] 72)).alloc (.cells #[.int .i64 yb, .bool yo] 72)) := ((Below.refl _ _).alloc (Nat.le_refl _) _).alloc (by simp) _
  obtain ⟨w3, hw3, x0, x1, y0, y1, HB⟩ : ∃ w3 : World, w3 = ((w.alloc (.cells #[.int .i64 xb, .bool xo] 72)).alloc (.cells #[.int .i64 yb, .bool yo] 72)) ∧ w3.cell? ⟨w.heap.size, 0, none⟩ = some (.int .i64 xb) ∧ w3.cell? ⟨w.heap.size, 1, none⟩ = some (.bool xo) ∧
      w3.cell? ⟨w.heap.size + 1, 0, none⟩ = some (.int .i64 yb) ∧ w3.cell? ⟨w.heap.size + 1, 1, none⟩ = some (.bool yo) ∧ Hid (Below w.heap.size w w3) := by
    refine ⟨_, rfl, ?_, ?_, ?_, ?_, Lib.hid hb⟩ <;> simp [go_sem]
  have hz := HB.out.size
  clear hb
  cases h1 : (xb == 0)
  · cases h2 : (yb == 0)
    · cases h3 : (xb == yb)
      · have H := Lib.hid (show bothK (xb, xo) (yb, yo) = (0, false) by simp only [bothK]; simp at h1 h2 h3; rw [if_neg h1, if_neg (by omega)])
        go_enter Tryd.func54, Tryd.ntmps54
        go_wp2_with fail
        rw [← hw3]
        with_reducible refine (empty_any w3 xb xo).mono ?_
        rintro e w4 ⟨he, hb4⟩
        rw [h1] at he
        subst he
        replace x0 := (hb4.cell (p := ⟨w.heap.size, 0, none⟩) (block_lt_of_cell x0)).trans x0
        replace y0 := (hb4.cell (p := ⟨w.heap.size + 1, 0, none⟩) (block_lt_of_cell y0)).trans y0
        replace y1 := (hb4.cell (p := ⟨w.heap.size + 1, 1, none⟩) (block_lt_of_cell y1)).trans y1
        have HB4 := Lib.hid (HB.out.trans (hb4.mono hz))
        clear hw3 hb4 x1
        go_wp2_with fail
        with_reducible refine (empty_any w4 yb yo).mono ?_
        rintro e w5 ⟨he, hb5⟩
        rw [h2] at he
        subst he
        replace x0 := (hb5.cell (p := ⟨w.heap.size, 0, none⟩) (block_lt_of_cell x0)).trans x0
        replace y0 := (hb5.cell (p := ⟨w.heap.size + 1, 0, none⟩) (block_lt_of_cell y0)).trans y0
        have HB5 := Lib.hid (HB4.out.trans (hb5.mono HB4.out.size))
        clear hb5 y1
        go_wp2
        go_ret2
        exact ⟨by rw [H.out]; rfl, HB5.out⟩
      · have H := Lib.hid (show bothK (xb, xo) (yb, yo) = (xb, true) by simp only [bothK]; simp at h1 h2 h3; rw [if_neg h1, if_pos (.inr h3)])
        go_enter Tryd.func54, Tryd.ntmps54
        go_wp2_with fail
        rw [← hw3]
        with_reducible refine (empty_any w3 xb xo).mono ?_
        rintro e w4 ⟨he, hb4⟩
        rw [h1] at he
        subst he
        replace x0 := (hb4.cell (p := ⟨w.heap.size, 0, none⟩) (block_lt_of_cell x0)).trans x0
        replace y0 := (hb4.cell (p := ⟨w.heap.size + 1, 0, none⟩) (block_lt_of_cell y0)).trans y0
        replace y1 := (hb4.cell (p := ⟨w.heap.size + 1, 1, none⟩) (block_lt_of_cell y1)).trans y1
        have HB4 := Lib.hid (HB.out.trans (hb4.mono hz))
        clear hw3 hb4 x1
        go_wp2_with fail
        with_reducible refine (empty_any w4 yb yo).mono ?_
        rintro e w5 ⟨he, hb5⟩
        rw [h2] at he
        subst he
        replace x0 := (hb5.cell (p := ⟨w.heap.size, 0, none⟩) (block_lt_of_cell x0)).trans x0
        replace y0 := (hb5.cell (p := ⟨w.heap.size + 1, 0, none⟩) (block_lt_of_cell y0)).trans y0
        have HB5 := Lib.hid (HB4.out.trans (hb5.mono HB4.out.size))
        clear hb5 y1
        go_wp2
        go_ret2
        exact ⟨by rw [H.out]; rfl, HB5.out⟩
    · have H := Lib.hid (show bothK (xb, xo) (yb, yo) = (xb, true) by simp only [bothK]; simp at h1 h2; rw [if_neg h1, if_pos (.inl h2)])
      go_enter Tryd.func54, Tryd.ntmps54
      go_wp2_with fail
      rw [← hw3]
      with_reducible refine (empty_any w3 xb xo).mono ?_
      rintro e w4 ⟨he, hb4⟩
      rw [h1] at he
      subst he
      replace x0 := (hb4.cell (p := ⟨w.heap.size, 0, none⟩) (block_lt_of_cell x0)).trans x0
      replace y0 := (hb4.cell (p := ⟨w.heap.size + 1, 0, none⟩) (block_lt_of_cell y0)).trans y0
      replace y1 := (hb4.cell (p := ⟨w.heap.size + 1, 1, none⟩) (block_lt_of_cell y1)).trans y1
      have HB4 := Lib.hid (HB.out.trans (hb4.mono hz))
      clear hw3 hb4 x1
      go_wp2_with fail
      with_reducible refine (empty_any w4 yb yo).mono ?_
      rintro e w5 ⟨he, hb5⟩
      rw [h2] at he
      subst he
      replace x0 := (hb5.cell (p := ⟨w.heap.size, 0, none⟩) (block_lt_of_cell x0)).trans x0
      replace y0 := (hb5.cell (p := ⟨w.heap.size + 1, 0, none⟩) (block_lt_of_cell y0)).trans y0
      have HB5 := Lib.hid (HB4.out.trans (hb5.mono HB4.out.size))
      clear hb5 y1
      go_wp2
      go_ret2
      exact ⟨by rw [H.out]; rfl, HB5.out⟩
  · have H := Lib.hid (show bothK (xb, xo) (yb, yo) = (yb, true) by simp only [bothK]; simp at h1; rw [if_pos h1])
    go_enter Tryd.func54, Tryd.ntmps54
    go_wp2_with fail
    rw [← hw3]
    with_reducible refine (empty_any w3 xb xo).mono ?_
    rintro e w4 ⟨he, hb4⟩
    rw [h1] at he
    subst he
    replace y0 := (hb4.cell (p := ⟨w.heap.size + 1, 0, none⟩) (block_lt_of_cell y0)).trans y0
    have HB4 := Lib.hid (HB.out.trans (hb4.mono hz))
    clear hw3 hb4 x1 x0 y1
    go_wp2
    go_ret2
    exact ⟨by rw [H.out]; rfl, HB4.out⟩
end Go.Proofs.YtakaoacialnjaaaDoor
