import Derived.Test.YtakaoacialnjaaaDoorK20
namespace Go.Proofs.YtakaoacialnjaaaDoor
open Go Go.RowKit
set_option linter.unusedVariables false
theorem keepg {w w' : World} (hb : Below w.heap.size w w') {b o : Nat} {v : Value} (h : w.cell? ⟨b, o, none⟩ = some v) : w'.cell? ⟨b, o, none⟩ = some v := (hb.cell (p := ⟨b, o, none⟩) (block_lt_of_cell h)).trans h
theorem fits_trans (a b c : Int) (ao bo co : Bool) (ha : (a == 0 && !ao) = false) (hb : (b == 0 && !bo) = false) (h1 : fitsB a ao b bo = true) (h2 : fitsB b bo c co = true) : fitsB a ao c co = true := by
  cases ao <;> cases bo <;> cases co <;> simp [fitsB] at * <;> grind
theorem fits_self (a : Int) (ao : Bool) : fitsB a ao a ao = true := by cases ao <;> simp [fitsB]
def zeroB (a : Int) (ao : Bool) : Bool := a == 0 && !ao
set_option maxRecDepth 100000 in
set_option maxHeartbeats 4000000 in
theorem kindsfits_walk (w : World) (a : Int) (ao : Bool) (b : Int) (bo : Bool) (c : Int) (co : Bool) (ht : NoTab w ∧ ResTab w 2 ∧ 2 < w.heap.size) :
    Calls Tryd.prog 8 #[.agg #[.int .i64 a, .bool ao], .agg #[.int .i64 b, .bool bo], .agg #[.int .i64 c, .bool co]] w fun e w' => e = .returned (.bool true) ∧ Below w.heap.size w w' := by
  obtain ⟨t0, t2, t3⟩ := ht
  have HT := Lib.hid t0
  have HR := Lib.hid t2
  have H2 := Lib.hid t3
  clear t0 t2 t3
  go_enter Tryd.func8, Tryd.ntmps8
  go_wp2_with fail
  have bw : Below w.heap.size w (((((w.alloc (.cells #[.int .i64 a, .bool ao] 30)).alloc (.cells #[.int .i64 b, .bool bo] 30)).alloc (.cells #[.int .i64 c, .bool co] 30)).alloc (.cells #[.int .i64 a, .bool ao] 72)).alloc (.cells #[.int .i64 b, .bool bo] 72)) :=
    (((((Below.refl _ _).alloc (Nat.le_refl _) _).alloc (by simp) _).alloc (by simp; omega) _).alloc (by simp; omega) _).alloc (by simp; omega) _
  obtain ⟨w3, hw3, a0, a1, b0, b1, c0, c1, x0, x1, y0, y1, HB3⟩ : ∃ w3 : World, w3 = (((((w.alloc (.cells #[.int .i64 a, .bool ao] 30)).alloc (.cells #[.int .i64 b, .bool bo] 30)).alloc (.cells #[.int .i64 c, .bool co] 30)).alloc (.cells #[.int .i64 a, .bool ao] 72)).alloc (.cells #[.int .i64 b, .bool bo] 72)) ∧
      w3.cell? ⟨w.heap.size, 0, none⟩ = some (.int .i64 a) ∧ w3.cell? ⟨w.heap.size, 1, none⟩ = some (.bool ao) ∧ w3.cell? ⟨w.heap.size + 1, 0, none⟩ = some (.int .i64 b) ∧ w3.cell? ⟨w.heap.size + 1, 1, none⟩ = some (.bool bo) ∧
      w3.cell? ⟨w.heap.size + 1 + 1, 0, none⟩ = some (.int .i64 c) ∧ w3.cell? ⟨w.heap.size + 1 + 1, 1, none⟩ = some (.bool co) ∧ w3.cell? ⟨w.heap.size + 1 + 1 + 1, 0, none⟩ = some (.int .i64 a) ∧ w3.cell? ⟨w.heap.size + 1 + 1 + 1, 1, none⟩ = some (.bool ao) ∧
      w3.cell? ⟨w.heap.size + 1 + 1 + 1 + 1, 0, none⟩ = some (.int .i64 b) ∧ w3.cell? ⟨w.heap.size + 1 + 1 + 1 + 1, 1, none⟩ = some (.bool bo) ∧ Hid (Below w.heap.size w w3) := by
    refine ⟨_, rfl, ?_, ?_, ?_, ?_, ?_, ?_, ?_, ?_, ?_, ?_, Lib.hid bw⟩ <;> simp [go_sem]
  rw [← hw3]
  clear hw3 bw
  have T3 := HT.out.below HB3.out (by have := H2.out; omega)
  have h03 : 0 < w3.heap.size := by have := H2.out; have := HB3.out.size; omega
  go_region_held3 (fun w' => w'.cell? ⟨w.heap.size, 0, none⟩ = some (.int .i64 a) ∧ w'.cell? ⟨w.heap.size, 1, none⟩ = some (.bool ao) ∧ w'.cell? ⟨w.heap.size + 1, 0, none⟩ = some (.int .i64 b) ∧ w'.cell? ⟨w.heap.size + 1, 1, none⟩ = some (.bool bo) ∧ w'.cell? ⟨w.heap.size + 1 + 1 + 1, 0, none⟩ = some (.int .i64 a) ∧ w'.cell? ⟨w.heap.size + 1 + 1 + 1, 1, none⟩ = some (.bool ao) ∧ w'.cell? ⟨w.heap.size + 1 + 1 + 1 + 1, 0, none⟩ = some (.int .i64 b) ∧ w'.cell? ⟨w.heap.size + 1 + 1 + 1 + 1, 1, none⟩ = some (.bool bo))
    (first | exact ⟨a0, a1, b0, b1, x0, x1, y0, y1⟩ | exact ⟨keepg hb28 a0, keepg hb28 a1, keepg hb28 b0, keepg hb28 b1, keepg hb28 x0, keepg hb28 x1, keepg hb28 y0, keepg hb28 y1⟩ | exact ⟨keepg hb29 a0, keepg hb29 a1, keepg hb29 b0, keepg hb29 b1, keepg hb29 x0, keepg hb29 x1, keepg hb29 y0, keepg hb29 y1⟩ | exact ⟨keepg hb29 (keepg hb28 a0), keepg hb29 (keepg hb28 a1), keepg hb29 (keepg hb28 b0), keepg hb29 (keepg hb28 b1), keepg hb29 (keepg hb28 x0), keepg hb29 (keepg hb28 x1), keepg hb29 (keepg hb28 y0), keepg hb29 (keepg hb28 y1)⟩ | exact ⟨keepg hb28 (keepg hb29 a0), keepg hb28 (keepg hb29 a1), keepg hb28 (keepg hb29 b0), keepg hb28 (keepg hb29 b1), keepg hb28 (keepg hb29 x0), keepg hb28 (keepg hb29 x1), keepg hb28 (keepg hb29 y0), keepg hb28 (keepg hb29 y1)⟩)
    (first | (go_at_call 28; refine (fits_any _ a b ao bo ?_ ?_).mono ?_; (first | exact T3 | exact T3.below hb29 h03); (first | exact h03 | exact Nat.lt_of_lt_of_le h03 hb29.size); rintro e w28 ⟨rfl, hb28⟩) | (go_at_call 29; refine (reffits_any _ a b ao bo).mono ?_; rintro e w29 ⟨rfl, hb29⟩))
  have hB := (show Below w3.heap.size w3 w28 from (Below.refl _ _).drew.trans hb28).trans (hb29.mono hb28.size)
  replace a0 := keepg hB a0
  replace a1 := keepg hB a1
  replace b0 := keepg hB b0
  replace b1 := keepg hB b1
  replace c0 := keepg hB c0
  replace c1 := keepg hB c1
  have HB4 := Lib.hid (HB3.out.trans (hB.mono HB3.out.size))
  clear x0 x1 y0 y1 hB hb28 hb29 T3 h03
  generalize w29 = w4 at *
  go_upto_region 5 with (fail)
  go_cut [53] (fun s wx => s = .bool (zeroB a ao || zeroB b bo || zeroB c co) ∧ w4 = wx)
  case first =>
    cases ea : (a == 0) <;> cases eb : (b == 0) <;> cases ec : (c == 0) <;> cases ao <;> cases bo <;> cases co
    all_goals
      go_wp2
      go_meet
      exact ⟨by simp [zeroB, ea, eb, ec], rfl⟩
  case rest =>
    obtain ⟨rfl, rfl⟩ := hcut
    have hB4 := HB4.out.size
    have T4 := HT.out.below HB4.out (by have := H2.out; omega)
    have R4 := HR.out.below HB4.out H2.out H2.out
    have h24 : 2 < w4.heap.size := by have := H2.out; omega
    cases hz : (zeroB a ao || zeroB b bo || zeroB c co)
    · have hza : zeroB a ao = false := by cases h : zeroB a ao <;> simp_all
      have hzb : zeroB b bo = false := by cases h : zeroB b bo <;> simp_all
      have HZA := Lib.hid hza
      have HZB := Lib.hid hzb
      have HFS := Lib.hid (fits_self a ao)
      have HFT := Lib.hid (fun h1 h2 => fits_trans a b c ao bo co HZA.out HZB.out h1 h2)
      clear hz hza hzb
      go_wp2_with fail
      with_reducible refine (fits_any w4 a b ao bo T4 (by omega)).mono ?_
      rintro e w5 ⟨rfl, hb5⟩
      have z5 := hb5.size
      have T5 := T4.below hb5 (by omega)
      have R5 := R4.below hb5 h24 h24
      have HB5 := Lib.hid (HB4.out.trans (hb5.mono hB4))
      replace a0 := keepg hb5 a0
      replace a1 := keepg hb5 a1
      replace b0 := keepg hb5 b0
      replace b1 := keepg hb5 b1
      replace c0 := keepg hb5 c0
      replace c1 := keepg hb5 c1
      clear hb5 T4 R4
      cases h1 : fitsB a ao b bo
      · go_wp2_with fail
        with_reducible refine (fits_any w5 a a ao ao T5 (by omega)).mono ?_
        rintro e w9 ⟨he, hb9⟩
        rw [HFS.out] at he
        subst he
        have z9 := hb9.size
        have T9 := T5.below hb9 (by omega)
        have R9 := R5.below hb9 (by omega) (by omega)
        have HB9 := Lib.hid (HB5.out.trans (hb9.mono (by omega)))
        clear hb9 T5 R5
        go_wp2_with fail
        with_reducible refine (known_any w9 T9 R9 (by omega)).mono ?_
        rintro e w10 ⟨rfl, hb10⟩
        go_wp2
        go_ret
        exact ⟨rfl, HB9.out.trans (hb10.mono (by omega))⟩
      · go_wp2_with fail
        with_reducible refine (fits_any w5 b c bo co T5 (by omega)).mono ?_
        rintro e w6 ⟨rfl, hb6⟩
        have z6 := hb6.size
        have T6 := T5.below hb6 (by omega)
        have R6 := R5.below hb6 (by omega) (by omega)
        have HB6 := Lib.hid (HB5.out.trans (hb6.mono (by omega)))
        replace a0 := keepg hb6 a0
        replace a1 := keepg hb6 a1
        replace c0 := keepg hb6 c0
        replace c1 := keepg hb6 c1
        clear hb6 T5 R5 b0 b1
        cases h2 : fitsB b bo c co
        · go_wp2_with fail
          with_reducible refine (fits_any w6 a a ao ao T6 (by omega)).mono ?_
          rintro e w9 ⟨he, hb9⟩
          rw [HFS.out] at he
          subst he
          have z9 := hb9.size
          have T9 := T6.below hb9 (by omega)
          have R9 := R6.below hb9 (by omega) (by omega)
          have HB9 := Lib.hid (HB6.out.trans (hb9.mono (by omega)))
          clear hb9 T6 R6
          go_wp2_with fail
          with_reducible refine (known_any w9 T9 R9 (by omega)).mono ?_
          rintro e w10 ⟨rfl, hb10⟩
          go_wp2
          go_ret
          exact ⟨rfl, HB9.out.trans (hb10.mono (by omega))⟩
        · have h3 := HFT.out h1 h2
          go_wp2_with fail
          with_reducible refine (fits_any w6 a c ao co T6 (by omega)).mono ?_
          rintro e w7 ⟨he, hb7⟩
          rw [h3] at he
          subst he
          have z7 := hb7.size
          have T7 := T6.below hb7 (by omega)
          have R7 := R6.below hb7 (by omega) (by omega)
          have HB7 := Lib.hid (HB6.out.trans (hb7.mono (by omega)))
          replace a0 := keepg hb7 a0
          replace a1 := keepg hb7 a1
          clear hb7 T6 R6 h3
          go_wp2_with fail
          with_reducible refine (fits_any w7 a a ao ao T7 (by omega)).mono ?_
          rintro e w9 ⟨he, hb9⟩
          rw [HFS.out] at he
          subst he
          have z9 := hb9.size
          have T9 := T7.below hb9 (by omega)
          have R9 := R7.below hb9 (by omega) (by omega)
          have HB9 := Lib.hid (HB7.out.trans (hb9.mono (by omega)))
          clear hb9 T7 R7
          go_wp2_with fail
          with_reducible refine (known_any w9 T9 R9 (by omega)).mono ?_
          rintro e w10 ⟨rfl, hb10⟩
          go_wp2
          go_ret
          exact ⟨rfl, HB9.out.trans (hb10.mono (by omega))⟩
    · go_wp2_with fail
      with_reducible refine (known_any w4 T4 R4 h24).mono ?_
      rintro e w5 ⟨rfl, hb5⟩
      go_wp2
      go_ret
      exact ⟨rfl, HB4.out.trans (hb5.mono hB4)⟩
end Go.Proofs.YtakaoacialnjaaaDoor
