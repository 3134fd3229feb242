import Derived.Test.YtakaoacialnjaaaDoorK45
import Derived.Deep.RegionHeld3
namespace Go.Proofs.YtakaoacialnjaaaDoor
open Go Go.RowKit
set_option linter.unusedVariables false
set_option linter.unusedSimpArgs false
theorem keepA {w : World} {b o : Nat} {v : Value} (ob : Obj) (h : w.cell? ⟨b, o, none⟩ = some v) : (w.drew.alloc ob).cell? ⟨b, o, none⟩ = some v := ((((Below.refl _ _).drew).alloc (Nat.le_refl _) ob).cell (p := ⟨b, o, none⟩) (block_lt_of_cell h)).trans h
theorem K11_len : K11.length = 11 := rfl
set_option maxRecDepth 100000 in
set_option maxHeartbeats 4000000 in
theorem kindstable_walk (w : World) (ht : (NoTab w ∧ ResTab w 2 ∧ 2 < w.heap.size) ∧ ResTab w 1) :
    Calls Tryd.prog 3 #[] w fun e w' => e = .returned (.bool true) ∧ Below w.heap.size w w' := by
  have HT := Lib.hid ht
  clear ht
  go_enter Tryd.func3, Tryd.ntmps3
  go_wp2_with fail
  with_reducible refine (all_any w).mono ?_
  rintro e w1 ⟨⟨la, lc, rfl, ho⟩, hb1⟩
  rw [K11_len] at ho ⊢
  have HE1 := Lib.hid (show Env w1 la lc by
    obtain ⟨⟨t0, t2, t3⟩, t1⟩ := HT.out
    exact ⟨RS.of_owns ho (by decide) Kd_len (by decide), t0.below hb1 (by omega), t2.below hb1 t3 t3, t1.below hb1 (by omega) (by omega), by have := hb1.size; omega⟩)
  have HB1 := Lib.hid hb1
  clear ho hb1
  go_wp2_with fail
  go_loopw [2] (fun i wr => ∃ k : Nat, k ≤ 11 ∧ i = .int .i64 k ∧ Env wr la lc ∧ Below w.heap.size w wr) (fun i _ => 11 - (intOf i).toNat)
  case atStart => exact ⟨0, by omega, rfl, HE1.out, HB1.out⟩
  case round =>
    obtain ⟨k, hk, rfl, hE, hb⟩ := hrel
    obtain ⟨wk, rfl⟩ : ∃ wk : World, wk = wr := ⟨_, rfl⟩
    have HE := Lib.hid hE
    have HB := Lib.hid hb
    clear hE hb
    by_cases hlt : k < 11
    · have hltI : (k : Int) < 11 := by omega
      go_wp2_with fail
      go_loopw [3] (fun i wr => ∃ q : Nat, 6 ≤ q ∧ q ≤ 9 ∧ i = .int .i64 q ∧ Env wr la lc ∧ Below w.heap.size w wr) (fun i _ => 9 - (intOf i).toNat)
      case atStart => exact ⟨6, by omega, by omega, rfl, HE.out, HB.out⟩
      case round =>
        obtain ⟨q, hq6, hq9, rfl, hE, hb⟩ := hrel
        have HE2 := Lib.hid hE
        have HB2 := Lib.hid hb
        clear hE hb
        by_cases hq : q ≤ 8
        · have hqI : (q : Int) ≤ 8 := by omega
          obtain ⟨lb2, lo2, ⟨xb2, xo2⟩, hla2, -, hcl2⟩ := HE2.out.l.at hlt
          have x20 := hcl2 0 _ rfl
          have x21 := hcl2 1 _ rfl
          simp only [Nat.add_zero] at x20
          clear hcl2

          subst hla2
          go_wp2_with fail
          with_reducible refine (over_any (wr.alloc (.cells #[.int .i64 xb2, .bool xo2] 30)) q (some ⟨wr.heap.size, 0, none⟩) 1 1 [(xb2, xo2)] (rs_new1 wr xb2 xo2) (by decide)).mono ?_
          rintro e wa2 ⟨hov, hba⟩
          obtain ⟨na, nc, va, m, vc, ns, sc, rfl, hlp⟩ := hov.use 2 rfl (by show (1 : Nat) ≤ 3; decide)
          have HL2 := Lib.hid hlp
          have hbb : Below wr.heap.size wr wa2 := ((Below.refl _ _).alloc (Nat.le_refl _) _).trans (hba.mono (by simp))
          have HEa2 := Lib.hid (HE2.out.below hbb)
          have HBa2 := Lib.hid (HB2.out.trans (hbb.mono HB2.out.size))
          clear hov hba hbb hlp
          go_wp2_with fail
          with_reducible refine (lean_pre HL2.out HEa2.out).mono ?_
          rintro e wb2 ⟨rfl, hbb⟩
          have HEb2 := Lib.hid (HEa2.out.below hbb)
          have HBb2 := Lib.hid (HBa2.out.trans (hbb.mono HBa2.out.size))
          clear hbb

          go_wp2_with fail
          go_roundw
          case rel => exact ⟨q + 1, by omega, by omega, by go_num, HEb2.out, HBb2.out⟩
          case measure => simp [intOf]; omega
        · have hqI : ¬ (q : Int) ≤ 8 := by omega
          obtain ⟨lb3, lo3, ⟨xb3, xo3⟩, hla3, -, hcl3⟩ := HE2.out.l.at hlt
          have x30 := hcl3 0 _ rfl
          have x31 := hcl3 1 _ rfl
          simp only [Nat.add_zero] at x30
          clear hcl3

          have HLA := Lib.hid hla3
          subst hla3
          go_wp2_with fail
          with_reducible refine (over_any (wr.alloc (.cells #[.int .i64 xb3, .bool xo3] 30)) 27 (some ⟨wr.heap.size, 0, none⟩) 1 1 [(xb3, xo3)] (rs_new1 wr xb3 xo3) (by decide)).mono ?_
          rintro e wa3 ⟨hov, hba⟩
          obtain ⟨na, nc, va, m, vc, ns, sc, rfl, hlp⟩ := hov.use 2 rfl (by show (1 : Nat) ≤ 3; decide)
          have HL3 := Lib.hid hlp
          have hbb : Below wr.heap.size wr wa3 := ((Below.refl _ _).alloc (Nat.le_refl _) _).trans (hba.mono (by simp))
          have HEa3 := Lib.hid (HE2.out.below hbb)
          have HBa3 := Lib.hid (HB2.out.trans (hbb.mono HB2.out.size))
          clear hov hba hbb hlp
          go_wp2_with fail
          with_reducible refine (lean_pre HL3.out HEa3.out).mono ?_
          rintro e wb3 ⟨rfl, hbb⟩
          have HEb3 := Lib.hid (HEa3.out.below hbb)
          have HBb3 := Lib.hid (HBa3.out.trans (hbb.mono HBa3.out.size))
          clear hbb

          go_wp2_with fail
          go_loopw [8] (fun i wr => ∃ j : Nat, j ≤ 11 ∧ i = .int .i64 j ∧ Env wr (some ⟨lb3, lo3, none⟩) lc ∧ Below w.heap.size w wr) (fun i _ => 11 - (intOf i).toNat)
          case atStart => exact ⟨0, by omega, rfl, HEb3.out, HBb3.out⟩
          case round =>
            obtain ⟨j, hj, rfl, hE, hb⟩ := hrel
            obtain ⟨wj, rfl⟩ : ∃ wj : World, wj = wr := ⟨_, rfl⟩
            have HE4 := Lib.hid hE
            have HB4 := Lib.hid hb
            clear hE hb
            by_cases hjl : j < 11
            · have hjI : (j : Int) < 11 := by omega
              go_wp2_with fail
              go_loopw [9] (fun i wr => ∃ q : Nat, 6 ≤ q ∧ q ≤ 34 ∧ i = .int .i64 q ∧ Env wr (some ⟨lb3, lo3, none⟩) lc ∧ Below w.heap.size w wr) (fun i _ => 34 - (intOf i).toNat)
              case atStart => exact ⟨6, by omega, by omega, rfl, HE4.out, HB4.out⟩
              case round =>
                obtain ⟨q, hq6, hq9, rfl, hE, hb⟩ := hrel
                have HE5 := Lib.hid hE
                have HB5 := Lib.hid hb
                clear hE hb
                by_cases hq : q ≤ 33
                · have hqI : (q : Int) ≤ 33 := by omega
                  obtain ⟨lb5, lo5, ⟨xb5, xo5⟩, hla5, -, hcl5⟩ := HE5.out.l.at hlt
                  have x50 := hcl5 0 _ rfl
                  have x51 := hcl5 1 _ rfl
                  simp only [Nat.add_zero] at x50
                  clear hcl5

                  cases hla5
                  obtain ⟨lb6, lo6, ⟨xb6, xo6⟩, hla6, -, hcl6⟩ := HE5.out.l.at hjl
                  have x60 := hcl6 0 _ rfl
                  have x61 := hcl6 1 _ rfl
                  simp only [Nat.add_zero] at x60
                  clear hcl6

                  cases hla6
                  go_wp2_with fail
                  go_region_held3 (fun w' => w'.cell? ⟨lb3, lo3 + k * 2, none⟩ = some (.int .i64 xb5) ∧ w'.cell? ⟨lb3, lo3 + k * 2 + 1, none⟩ = some (.bool xo5) ∧ w'.cell? ⟨lb3, lo3 + j * 2, none⟩ = some (.int .i64 xb6) ∧ w'.cell? ⟨lb3, lo3 + j * 2 + 1, none⟩ = some (.bool xo6))
                    (first | exact ⟨x50, x51, x60, x61⟩ | exact ⟨keepA _ x50, keepA _ x51, keepA _ x60, keepA _ x61⟩ | exact ⟨keepg hba (keepA _ x50), keepg hba (keepA _ x51), keepg hba (keepA _ x60), keepg hba (keepA _ x61)⟩)
                    (first | (go_at_call 10; refine (over_any (wr.drew.alloc (.cells #[.int .i64 xb5, .bool xo5, .int .i64 xb6, .bool xo6] 30)) q _ 2 2 [(xb5, xo5), (xb6, xo6)] (rs_new2 wr.drew xb5 xo5 xb6 xo6) (by decide)).mono ?_; rintro e wa5 ⟨hov, hba⟩; obtain ⟨na, nc, va, m, vc, ns, sc, rfl, hlp⟩ := hov.use 3 rfl (by show (2 : Nat) ≤ 3; decide)))
                  have HL5 := Lib.hid hlp
                  have hbb : Below wr.heap.size wr wa5 := (((Below.refl _ _).drew).alloc (Nat.le_refl _) _).trans (hba.mono (by simp))
                  have HEa5 := Lib.hid (HE5.out.below hbb)
                  have HBa5 := Lib.hid (HB5.out.trans (hbb.mono HB5.out.size))
                  clear hov hba hbb hlp
                  go_wp2_with fail
                  with_reducible refine (lean_pre HL5.out HEa5.out).mono ?_
                  rintro e wb5 ⟨rfl, hbb⟩
                  have HEb5 := Lib.hid (HEa5.out.below hbb)
                  have HBb5 := Lib.hid (HBa5.out.trans (hbb.mono HBa5.out.size))
                  clear hbb

                  go_wp2_with fail
                  go_roundw
                  case rel => exact ⟨q + 1, by omega, by omega, by go_num, HEb5.out, HBb5.out⟩
                  case measure => simp [intOf]; omega
                · have hqI : ¬ (q : Int) ≤ 33 := by omega
                  go_wp2_with fail
                  go_loopw [10] (fun i wr => ∃ q : Nat, q ≤ 11 ∧ i = .int .i64 q ∧ Env wr (some ⟨lb3, lo3, none⟩) lc ∧ Below w.heap.size w wr) (fun i _ => 11 - (intOf i).toNat)
                  case atStart => exact ⟨0, by omega, rfl, HE5.out, HB5.out⟩
                  case round =>
                    obtain ⟨q, hq9, rfl, hE, hb⟩ := hrel
                    have HE7 := Lib.hid hE
                    have HB7 := Lib.hid hb
                    clear hE hb
                    by_cases hq : q < 11
                    · have hqI : (q : Int) < 11 := by omega
                      obtain ⟨lb7, lo7, ⟨xb7, xo7⟩, hla7, -, hcl7⟩ := HE7.out.l.at hq
                      have x70 := hcl7 0 _ rfl
                      have x71 := hcl7 1 _ rfl
                      simp only [Nat.add_zero] at x70
                      clear hcl7

                      cases hla7
                      obtain ⟨lb8, lo8, ⟨xb8, xo8⟩, hla8, -, hcl8⟩ := HE7.out.l.at hlt
                      have x80 := hcl8 0 _ rfl
                      have x81 := hcl8 1 _ rfl
                      simp only [Nat.add_zero] at x80
                      clear hcl8

                      cases hla8
                      obtain ⟨lb9, lo9, ⟨xb9, xo9⟩, hla9, -, hcl9⟩ := HE7.out.l.at hjl
                      have x90 := hcl9 0 _ rfl
                      have x91 := hcl9 1 _ rfl
                      simp only [Nat.add_zero] at x90
                      clear hcl9

                      cases hla9
                      go_wp2_with fail
                      go_region_held3 (fun w' => w'.cell? ⟨lb3, lo3 + q * 2, none⟩ = some (.int .i64 xb7) ∧ w'.cell? ⟨lb3, lo3 + q * 2 + 1, none⟩ = some (.bool xo7) ∧ w'.cell? ⟨lb3, lo3 + k * 2, none⟩ = some (.int .i64 xb8) ∧ w'.cell? ⟨lb3, lo3 + k * 2 + 1, none⟩ = some (.bool xo8) ∧ w'.cell? ⟨lb3, lo3 + j * 2, none⟩ = some (.int .i64 xb9) ∧ w'.cell? ⟨lb3, lo3 + j * 2 + 1, none⟩ = some (.bool xo9))
                        (first | exact ⟨x70, x71, x80, x81, x90, x91⟩ | exact ⟨keepA _ x70, keepA _ x71, keepA _ x80, keepA _ x81, keepA _ x90, keepA _ x91⟩ | exact ⟨keepg hba (keepA _ x70), keepg hba (keepA _ x71), keepg hba (keepA _ x80), keepg hba (keepA _ x81), keepg hba (keepA _ x90), keepg hba (keepA _ x91)⟩)
                        (first | (go_at_call 10; refine (over_any (wr.drew.alloc (.cells #[.int .i64 xb7, .bool xo7, .int .i64 xb8, .bool xo8, .int .i64 xb9, .bool xo9] 30)) 23 _ 3 3 [(xb7, xo7), (xb8, xo8), (xb9, xo9)] (rs_new3 wr.drew xb7 xo7 xb8 xo8 xb9 xo9) (by decide)).mono ?_; rintro e wa7 ⟨hov, hba⟩; obtain ⟨na, nc, va, m, vc, ns, sc, rfl, hlp⟩ := hov.use 4 rfl (by show (3 : Nat) ≤ 3; decide)))
                      have HL7 := Lib.hid hlp
                      have hbb : Below wr.heap.size wr wa7 := (((Below.refl _ _).drew).alloc (Nat.le_refl _) _).trans (hba.mono (by simp))
                      have HEa7 := Lib.hid (HE7.out.below hbb)
                      have HBa7 := Lib.hid (HB7.out.trans (hbb.mono HB7.out.size))
                      clear hov hba hbb hlp
                      go_wp2_with fail
                      with_reducible refine (lean_pre HL7.out HEa7.out).mono ?_
                      rintro e wb7 ⟨rfl, hbb⟩
                      have HEb7 := Lib.hid (HEa7.out.below hbb)
                      have HBb7 := Lib.hid (HBa7.out.trans (hbb.mono HBa7.out.size))
                      clear hbb

                      go_wp2_with fail
                      go_roundw
                      case rel => exact ⟨q + 1, by omega, by go_num, HEb7.out, HBb7.out⟩
                      case measure => simp [intOf]; omega
                    · have hqI : ¬ (q : Int) < 11 := by omega
                      go_wp2_with fail
                      go_roundw
                      case rel => exact ⟨j + 1, by omega, by go_num, HE7.out, HB7.out⟩
                      case measure => simp [intOf]; omega
            · have hjI : ¬ (j : Int) < 11 := by omega
              go_wp2_with fail
              go_roundw
              case rel => exact ⟨k + 1, by omega, by go_num, HE4.out, HB4.out⟩
              case measure => simp [intOf]; omega
    · have hltI : ¬ (k : Int) < 11 := by omega
      go_wp2_with fail
      with_reducible refine (known_any wk HE.out.t HE.out.r2 HE.out.h2).mono ?_
      rintro e w10 ⟨rfl, hb10⟩
      go_wp2
      go_ret
      exact ⟨rfl, HB.out.trans (hb10.mono HB.out.size)⟩
end Go.Proofs.YtakaoacialnjaaaDoor
