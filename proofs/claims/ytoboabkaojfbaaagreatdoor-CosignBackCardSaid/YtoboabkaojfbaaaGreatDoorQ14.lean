import Derived.Test.YtoboabkaojfbaaaGreatDoorQ13
namespace Go.Proofs.YtoboabkaojfbaaaGreatDoor
open Go Go.RowKit
set_option maxRecDepth 100000
set_option maxHeartbeats 4000000
set_option linter.unusedVariables false
set_option linter.unusedSimpArgs false
/-! octet.Reader, whatever it is asked: what is still to be read, and why no more. -/
def RdG (w : World) (B gr : Nat) (s : Rs) : Prop := ∃ a n c l p, w.heap[gr]? = some (.cells #[.slice a n c, .int .i64 ((p : Nat) : Int), .int .i64 (s.2 : Int)] 243 (0, 0)) ∧ R8 w a n c l ∧ (∀ x, a = some x → 0 < n → gr ≠ x.block) ∧ n ≤ 1000000000000 ∧ p ≤ l.length ∧ s.1 = l.drop p ∧ ∀ x, a = some x → 0 < n → x.block < B
theorem RdG.lt {w : World} {B gr : Nat} {s : Rs} (h : RdG w B gr s) : gr < w.heap.size := by
  obtain ⟨a, n, c, l, p, h1, -⟩ := h
  exact (Array.getElem?_eq_some_iff.1 h1).1
theorem RdG.below {w w' : World} {B gr : Nat} {s : Rs} (h : RdG w B gr s) (hb : Below w.heap.size w w') : RdG w' B gr s := by
  have hl := h.lt
  obtain ⟨a, n, c, l, p, h1, h2, h3, h4⟩ := h
  exact ⟨a, n, c, l, p, (hb.block gr hl).trans h1, h2.below hb, h3, h4⟩
theorem RdG.at0 {w : World} {B gr : Nat} {r : List UInt8} (h : RdG w B gr (r, 0)) : ∃ l p, RdAt w gr l p ∧ p ≤ l.length ∧ r = l.drop p := by
  obtain ⟨a, n, c, l, p, h1, h2, h3, h4, h5, h6, h7⟩ := h
  exact ⟨l, p, ⟨a, n, c, h1, h2, h3, h4⟩, h5, h6⟩
/-- The place moved on. -/
theorem RdG.moved {w : World} {B gr : Nat} {a : Option Addr} {n c p : Nat} {l : List UInt8} (h1 : w.heap[gr]? = some (.cells #[.slice a n c, .int .i64 ((p : Nat) : Int), .int .i64 0] 243 (0, 0))) (h2 : R8 w a n c l) (h3 : ∀ x, a = some x → 0 < n → gr ≠ x.block) (h4 : n ≤ 1000000000000) (h7 : ∀ x, a = some x → 0 < n → x.block < B) (k : Nat) (hk : p + k ≤ l.length) :
    RdG (w.setCell ⟨gr, 1, none⟩ (.int .i64 ((p : Int) + (k : Int)))) B gr ((l.drop p).drop k, 0) := by
  have := heap_setCell_same w gr 1 _ _ (.int .i64 ((p : Int) + (k : Int))) h1
  exact ⟨a, n, c, l, p + k, by simpa using this, r8_grown h2 h3 (grown_set (grown_refl w (some gr)) 0 1 _), h3, h4, hk, by rw [List.drop_drop], h7⟩
/-- Why no more, set. -/
theorem RdG.no {w : World} {B gr : Nat} {r : List UInt8} {q : Nat} (h : RdG w B gr (r, q)) (e : Nat) : RdG (w.setCell ⟨gr, 2, none⟩ (.int .i64 (e : Int))) B gr (r, e) := by
  obtain ⟨a, n, c, l, p, h1, h2, h3, h4, h5, h6, h7⟩ := h
  have := heap_setCell_same w gr 2 _ _ (.int .i64 (e : Int)) h1
  exact ⟨a, n, c, l, p, by simpa using this, r8_grown h2 h3 (grown_set (grown_refl w (some gr)) 0 2 _), h3, h4, h5, h6, h7⟩
theorem RdG.drewN {w : World} {B gr : Nat} {s : Rs} (h : RdG w B gr s) (k : Nat) : RdG (w.drewN k) B gr s := h.below (below_drewN (Below.refl _ _) k)
/-- New memory written over is none of a reader's. -/
theorem RdG.far {w w' : World} {B gr k : Nat} {s : Rs} (h : RdG w B gr s) (hg : w.grownBy w' (some k)) (hk : B ≤ k) (hne : gr ≠ k) : RdG w' B gr s := by
  have hl := h.lt
  obtain ⟨a, n, c, l, p, h1, h2, h3, h4, h5, h6, h7⟩ := h
  exact ⟨a, n, c, l, p, (hg.block gr hl (fun e => hne (Option.some.inj e))).trans h1, r8_grown h2 (fun x hx h0 => by have := h7 x hx h0; omega) hg, h3, h4, h5, h6, h7⟩
theorem refuse_any (w : World) (B gr : Nat) (r : List UInt8) (e : Nat) (h : RdG w B gr (r, 0)) :
    Calls Tryz.prog 167 #[.pointer (some ⟨gr, 0, none⟩), .int .i64 (e : Int)] w fun x w' => x = .returned (.tuple #[]) ∧ RdG w' B gr (r, e) ∧ w.grownBy w' (some gr) := by
  have HH := Lib.hid h
  obtain ⟨a, n, c, l, p, hh, -⟩ := h
  have k2 : w.cell? ⟨gr, 2, none⟩ = some (.int .i64 0) := by rw [cell_of_row _ _ _ _ _ _ hh]; rfl
  have f2 := frozen_of_row w gr 2 _ _ hh
  clear hh
  go_enter Tryz.func167, Tryz.ntmps167
  go_wp2_with fail
  go_end0
  exact ⟨rfl, HH.out.no e, grown_set (grown_refl w (some gr)) 0 2 _⟩
theorem refuse8 (w : World) (B gr : Nat) (r : List UInt8) (h : RdG w B gr (r, 0)) :
    Calls Tryz.prog 167 #[.pointer (some ⟨gr, 0, none⟩), .int .i64 8] w fun x w' => x = .returned (.tuple #[]) ∧ RdG w' B gr (r, 8) ∧ w.grownBy w' (some gr) := refuse_any w B gr r 8 h
theorem refuse6 (w : World) (B gr : Nat) (r : List UInt8) (h : RdG w B gr (r, 0)) :
    Calls Tryz.prog 167 #[.pointer (some ⟨gr, 0, none⟩), .int .i64 6] w fun x w' => x = .returned (.tuple #[]) ∧ RdG w' B gr (r, 6) ∧ w.grownBy w' (some gr) := refuse_any w B gr r 6 h
theorem why_any (w : World) (B gr : Nat) (s : Rs) (h : RdG w B gr s) :
    Calls Tryz.prog 102 #[.pointer (some ⟨gr, 0, none⟩)] w fun x w' => x = .returned (.int .i64 (s.2 : Int)) ∧ w' = w := by
  obtain ⟨a, n, c, l, p, hh, -⟩ := h
  have k2 : w.cell? ⟨gr, 2, none⟩ = some (.int .i64 (s.2 : Int)) := by rw [cell_of_row _ _ _ _ _ _ hh]; rfl
  clear hh
  go_enter Tryz.func102, Tryz.ntmps102
  go_wp2_with fail
  go_ret
  exact ⟨rfl, rfl⟩
theorem bound_any (w : World) (n : Nat) (h : n ≤ 2147483647) : Calls Tryz.prog 146 #[.int .i64 (n : Int), .int .i64 2147483647] w fun x w' => x = .returned (.int .i64 (n : Int)) ∧ w' = w := by
  have e1 : min (max (n : Int) 0) 2147483647 = (n : Int) := by omega
  go_enter Tryz.func146, Tryz.ntmps146
  go_wp2_with fail
  go_ret
  exact ⟨by simp; omega, rfl⟩
/-- What is ahead is too short. -/
theorem ahead8_no (w : World) (gr : Nat) (l : List UInt8) (q p : Nat) (h : RdAt w gr l q) (hp : p ≤ l.length) (hs : l.length < p + 1) :
    Calls Tryz.prog 166 #[.pointer (some ⟨gr, 0, none⟩), .int .i64 (p : Int)] w fun e w' => e = .returned (.tuple #[.int .u8 0, .int .i64 (p : Int), .bool false]) ∧ w = w' := by
  obtain ⟨a, n, c, hh, hr, -, hn⟩ := h
  have hnl := hr.1
  have k0 : w.cell? ⟨gr, 0, none⟩ = some (.slice a n c) := by rw [cell_of_row _ _ _ _ _ _ hh]; rfl
  have hgt : decide ((n : Int) - (p : Int) < 1) = true := by simp; omega
  have hp48 : p ≤ 1000000000000 := by omega
  have hpI : (p : Int) ≤ (n : Int) := by omega
  clear hr hh hnl
  go_enter Tryz.func166, Tryz.ntmps166
  go_wp2_with (go_at_call 145; ((with_reducible refine (width8 _).mono ?_); rintro e w' ⟨rfl, rfl⟩))
  go_ret3
  exact ⟨rfl, rfl⟩
theorem ahead64_no (w : World) (gr : Nat) (l : List UInt8) (q p : Nat) (h : RdAt w gr l q) (hp : p ≤ l.length) (hs : l.length < p + 8) :
    Calls Tryz.prog 172 #[.pointer (some ⟨gr, 0, none⟩), .int .i64 (p : Int)] w fun e w' => e = .returned (.tuple #[.int .u64 0, .int .i64 (p : Int), .bool false]) ∧ w = w' := by
  obtain ⟨a, n, c, hh, hr, -, hn⟩ := h
  have hnl := hr.1
  have k0 : w.cell? ⟨gr, 0, none⟩ = some (.slice a n c) := by rw [cell_of_row _ _ _ _ _ _ hh]; rfl
  have hgt : decide ((n : Int) - (p : Int) < 8) = true := by simp; omega
  have hp48 : p ≤ 1000000000000 := by omega
  have hpI : (p : Int) ≤ (n : Int) := by omega
  clear hr hh hnl
  go_enter Tryz.func172, Tryz.ntmps172
  go_wp2_with (go_at_call 148; ((with_reducible refine (width64 _).mono ?_); rintro e w' ⟨rfl, rfl⟩))
  go_ret3
  exact ⟨rfl, rfl⟩
theorem ahead32_no (w : World) (gr : Nat) (l : List UInt8) (q p : Nat) (h : RdAt w gr l q) (hp : p ≤ l.length) (hs : l.length < p + 4) :
    Calls Tryz.prog 170 #[.pointer (some ⟨gr, 0, none⟩), .int .i64 (p : Int)] w fun e w' => e = .returned (.tuple #[.int .u32 0, .int .i64 (p : Int), .bool false]) ∧ w = w' := by
  obtain ⟨a, n, c, hh, hr, -, hn⟩ := h
  have hnl := hr.1
  have k0 : w.cell? ⟨gr, 0, none⟩ = some (.slice a n c) := by rw [cell_of_row _ _ _ _ _ _ hh]; rfl
  have hgt : decide ((n : Int) - (p : Int) < 4) = true := by simp; omega
  have hp48 : p ≤ 1000000000000 := by omega
  have hpI : (p : Int) ≤ (n : Int) := by omega
  clear hr hh hnl
  go_enter Tryz.func170, Tryz.ntmps170
  go_wp2_with (go_at_call 205; ((with_reducible refine (width32 _).mono ?_); rintro e w' ⟨rfl, rfl⟩))
  go_ret3
  exact ⟨rfl, rfl⟩
/-- A reader that reads no more answers nothing. -/
theorem take8_gone (w : World) (B gr : Nat) (s : Rs) (h : RdG w B gr s) (hs : s.2 ≠ 0) : Calls Tryz.prog 99 #[.pointer (some ⟨gr, 0, none⟩)] w fun e w' => e = .returned (.int .u8 0) ∧ w' = w := by
  obtain ⟨a, n, c, l, p, hh, -⟩ := h
  have k2 : w.cell? ⟨gr, 2, none⟩ = some (.int .i64 (s.2 : Int)) := by rw [cell_of_row _ _ _ _ _ _ hh]; rfl
  have hz : ((s.2 : Int) == 0) = false := by simp; omega
  clear hh
  go_enter Tryz.func99, Tryz.ntmps99
  go_wp2_with fail
  go_ret
  exact ⟨rfl, rfl⟩
theorem take64_gone (w : World) (B gr : Nat) (s : Rs) (h : RdG w B gr s) (hs : s.2 ≠ 0) : Calls Tryz.prog 103 #[.pointer (some ⟨gr, 0, none⟩)] w fun e w' => e = .returned (.int .u64 0) ∧ w' = w := by
  obtain ⟨a, n, c, l, p, hh, -⟩ := h
  have k2 : w.cell? ⟨gr, 2, none⟩ = some (.int .i64 (s.2 : Int)) := by rw [cell_of_row _ _ _ _ _ _ hh]; rfl
  have hz : ((s.2 : Int) == 0) = false := by simp; omega
  clear hh
  go_enter Tryz.func103, Tryz.ntmps103
  go_wp2_with fail
  go_ret
  exact ⟨rfl, rfl⟩
theorem take8_short (w : World) (B gr : Nat) (r : List UInt8) (h : RdG w B gr (r, 0)) (hs : r.length < 1) : Calls Tryz.prog 99 #[.pointer (some ⟨gr, 0, none⟩)] w fun e w' => e = .returned (.int .u8 0) ∧ RdG w' B gr (r, 8) ∧ w.grownBy w' (some gr) := by
  have HF := Lib.hid (refuse8 w B gr r h)
  obtain ⟨l, p, h1, hp, hr⟩ := h.at0
  have HA := Lib.hid (ahead8_no w gr l p p h1 hp (by rw [hr, List.length_drop] at hs; omega))
  obtain ⟨a, n, c, hh, -⟩ := h1
  have k1 : w.cell? ⟨gr, 1, none⟩ = some (.int .i64 (p : Int)) := by rw [cell_of_row _ _ _ _ _ _ hh]; rfl
  have k2 : w.cell? ⟨gr, 2, none⟩ = some (.int .i64 0) := by rw [cell_of_row _ _ _ _ _ _ hh]; rfl
  clear hh h hr hs hp
  go_enter Tryz.func99, Tryz.ntmps99
  go_wp2_with (first
    | (go_at_call 166; ((with_reducible refine HA.out.mono ?_); rintro e w' ⟨rfl, rfl⟩))
    | (go_at_call 167; ((with_reducible refine HF.out.mono ?_); rintro e w' ⟨rfl, h2, h3⟩; have H2 := Lib.hid h2; have H3 := Lib.hid h3; clear h2 h3)))
  go_ret
  exact ⟨rfl, H2.out, H3.out⟩
theorem take64_short (w : World) (B gr : Nat) (r : List UInt8) (h : RdG w B gr (r, 0)) (hs : r.length < 8) : Calls Tryz.prog 103 #[.pointer (some ⟨gr, 0, none⟩)] w fun e w' => e = .returned (.int .u64 0) ∧ RdG w' B gr (r, 8) ∧ w.grownBy w' (some gr) := by
  have HF := Lib.hid (refuse8 w B gr r h)
  obtain ⟨l, p, h1, hp, hr⟩ := h.at0
  have HA := Lib.hid (ahead64_no w gr l p p h1 hp (by rw [hr, List.length_drop] at hs; omega))
  obtain ⟨a, n, c, hh, -⟩ := h1
  have k1 : w.cell? ⟨gr, 1, none⟩ = some (.int .i64 (p : Int)) := by rw [cell_of_row _ _ _ _ _ _ hh]; rfl
  have k2 : w.cell? ⟨gr, 2, none⟩ = some (.int .i64 0) := by rw [cell_of_row _ _ _ _ _ _ hh]; rfl
  clear hh h hr hs hp
  go_enter Tryz.func103, Tryz.ntmps103
  go_wp2_with (first
    | (go_at_call 172; ((with_reducible refine HA.out.mono ?_); rintro e w' ⟨rfl, rfl⟩))
    | (go_at_call 167; ((with_reducible refine HF.out.mono ?_); rintro e w' ⟨rfl, h2, h3⟩; have H2 := Lib.hid h2; have H3 := Lib.hid h3; clear h2 h3)))
  go_ret
  exact ⟨rfl, H2.out, H3.out⟩
theorem take8_ok (w : World) (B gr : Nat) (r : List UInt8) (h : RdG w B gr (r, 0)) (hs : 1 ≤ r.length) : Calls Tryz.prog 99 #[.pointer (some ⟨gr, 0, none⟩)] w fun e w' => e = .returned (.int .u8 (valN (r.take 1) : Nat)) ∧ RdG w' B gr (r.drop 1, 0) ∧ w.grownBy w' (some gr) := by
  obtain ⟨a, n, c, l, p, hh, h2, h3, h4, h5, h6, h7⟩ := h
  simp only at h6
  subst h6
  rw [List.length_drop] at hs
  have HA := Lib.hid (ahead_u8 w gr l p p ⟨a, n, c, hh, h2, h3, h4⟩ (by omega))
  have HM := Lib.hid (RdG.moved hh h2 h3 h4 h7 1 (by omega))
  have k1 : w.cell? ⟨gr, 1, none⟩ = some (.int .i64 (p : Int)) := by rw [cell_of_row _ _ _ _ _ _ hh]; rfl
  have k2 : w.cell? ⟨gr, 2, none⟩ = some (.int .i64 0) := by rw [cell_of_row _ _ _ _ _ _ hh]; rfl
  have f1 := frozen_of_row w gr 1 _ _ hh
  have hp48 : p ≤ 1000000000000 := by have := h2.1; omega
  obtain ⟨v, hv⟩ : ∃ v, v = valN ((l.drop p).take 1) := ⟨_, rfl⟩
  rw [← hv] at HA ⊢
  clear h2 h3 h4 h5 h7 hh hv hs
  go_enter Tryz.func99, Tryz.ntmps99
  go_wp2_with (go_at_call 166; ((with_reducible refine HA.out.mono ?_); rintro e w' ⟨rfl, rfl⟩))
  go_ret
  exact ⟨rfl, HM.out, grown_set (grown_refl w (some gr)) 0 1 _⟩
theorem take8_any (w : World) (B gr : Nat) (s : Rs) (h : RdG w B gr s) : Calls Tryz.prog 99 #[.pointer (some ⟨gr, 0, none⟩)] w fun e w' => e = .returned (.int .u8 ((rTake 1 s).1 : Nat)) ∧ RdG w' B gr (rTake 1 s).2 ∧ w.grownBy w' (some gr) := by
  obtain ⟨r, q⟩ := s
  by_cases hq : q = 0
  · subst hq
    by_cases hl : r.length < 1
    · refine (take8_short w B gr r h hl).mono ?_
      rintro e w' ⟨rfl, h2, h3⟩
      unfold rTake
      rw [if_neg (by simp), if_pos hl]
      exact ⟨rfl, h2, h3⟩
    · refine (take8_ok w B gr r h (by omega)).mono ?_
      rintro e w' ⟨rfl, h2, h3⟩
      unfold rTake
      rw [if_neg (by simp), if_neg hl]
      exact ⟨rfl, h2, h3⟩
  · refine (take8_gone w B gr (r, q) h hq).mono ?_
    rintro e w' ⟨rfl, rfl⟩
    unfold rTake
    rw [if_pos (by simpa using hq)]
    exact ⟨rfl, h, grown_refl _ _⟩
theorem take64_ok (w : World) (B gr : Nat) (r : List UInt8) (h : RdG w B gr (r, 0)) (hs : 8 ≤ r.length) : Calls Tryz.prog 103 #[.pointer (some ⟨gr, 0, none⟩)] w fun e w' => e = .returned (.int .u64 (valN (r.take 8) : Nat)) ∧ RdG w' B gr (r.drop 8, 0) ∧ w.grownBy w' (some gr) := by
  obtain ⟨a, n, c, l, p, hh, h2, h3, h4, h5, h6, h7⟩ := h
  simp only at h6
  subst h6
  rw [List.length_drop] at hs
  have HA := Lib.hid (ahead_u64 w gr l p p ⟨a, n, c, hh, h2, h3, h4⟩ (by omega))
  have HM := Lib.hid (RdG.moved hh h2 h3 h4 h7 8 (by omega))
  have k1 : w.cell? ⟨gr, 1, none⟩ = some (.int .i64 (p : Int)) := by rw [cell_of_row _ _ _ _ _ _ hh]; rfl
  have k2 : w.cell? ⟨gr, 2, none⟩ = some (.int .i64 0) := by rw [cell_of_row _ _ _ _ _ _ hh]; rfl
  have f1 := frozen_of_row w gr 1 _ _ hh
  have hp48 : p ≤ 1000000000000 := by have := h2.1; omega
  obtain ⟨v, hv⟩ : ∃ v, v = valN ((l.drop p).take 8) := ⟨_, rfl⟩
  rw [← hv] at HA ⊢
  clear h2 h3 h4 h5 h7 hh hv hs
  go_enter Tryz.func103, Tryz.ntmps103
  go_wp2_with (go_at_call 172; ((with_reducible refine HA.out.mono ?_); rintro e w' ⟨rfl, rfl⟩))
  go_ret
  exact ⟨rfl, HM.out, grown_set (grown_refl w (some gr)) 0 1 _⟩
theorem take64_any (w : World) (B gr : Nat) (s : Rs) (h : RdG w B gr s) : Calls Tryz.prog 103 #[.pointer (some ⟨gr, 0, none⟩)] w fun e w' => e = .returned (.int .u64 ((rTake 8 s).1 : Nat)) ∧ RdG w' B gr (rTake 8 s).2 ∧ w.grownBy w' (some gr) := by
  obtain ⟨r, q⟩ := s
  by_cases hq : q = 0
  · subst hq
    by_cases hl : r.length < 8
    · refine (take64_short w B gr r h hl).mono ?_
      rintro e w' ⟨rfl, h2, h3⟩
      unfold rTake
      rw [if_neg (by simp), if_pos hl]
      exact ⟨rfl, h2, h3⟩
    · refine (take64_ok w B gr r h (by omega)).mono ?_
      rintro e w' ⟨rfl, h2, h3⟩
      unfold rTake
      rw [if_neg (by simp), if_neg hl]
      exact ⟨rfl, h2, h3⟩
  · refine (take64_gone w B gr (r, q) h hq).mono ?_
    rintro e w' ⟨rfl, rfl⟩
    unfold rTake
    rw [if_pos (by simpa using hq)]
    exact ⟨rfl, h, grown_refl _ _⟩
end Go.Proofs.YtoboabkaojfbaaaGreatDoor
namespace Go.Proofs.YtoboabkaojfbaaaGreatDoor
open Go Go.RowKit
set_option maxRecDepth 100000
set_option maxHeartbeats 4000000
set_option linter.unusedVariables false
set_option linter.unusedSimpArgs false
/-! octet.Reader's Raw and Digest, whatever they are asked. -/
theorem raw_ok (w : World) (B gr : Nat) (r : List UInt8) (m : Nat) (h : RdG w B gr (r, 0)) (hm : m ≤ r.length) :
    Calls Tryz.prog 171 #[.pointer (some ⟨gr, 0, none⟩), .int .i64 (m : Int)] w fun e w' => ∃ a2 n2 c2, e = .returned (.slice a2 n2 c2) ∧ R8 w' a2 n2 c2 (r.take m) ∧ RdG w' B gr (r.drop m, 0) ∧ w.grownBy w' (some gr) ∧ (∀ x, a2 = some x → w.heap.size ≤ x.block) := by
  obtain ⟨a, n, c, l, p, hh, hr, hap, hn, hpl, hrl, hB⟩ := h
  simp only at hrl
  subst hrl
  rw [List.length_drop] at hm
  have HBB := Lib.hid hB
  have hnl := hr.1
  have k0 : w.cell? ⟨gr, 0, none⟩ = some (.slice a n c) := by rw [cell_of_row _ _ _ _ _ _ hh]; rfl
  have k1 : w.cell? ⟨gr, 1, none⟩ = some (.int .i64 (p : Int)) := by rw [cell_of_row _ _ _ _ _ _ hh]; rfl
  have k2 : w.cell? ⟨gr, 2, none⟩ = some (.int .i64 0) := by rw [cell_of_row _ _ _ _ _ _ hh]; rfl
  have f1 := frozen_of_row w gr 1 _ _ hh
  have hgl := (Array.getElem?_eq_some_iff.1 hh).1
  have hw1 : IntKind.i64.wrap ((n : Int) - (p : Int)) = (n : Int) - (p : Int) := IntWalk.i64_in _ (by omega)
  have hgt : decide ((n : Int) - (p : Int) < (m : Int)) = false := by simp; omega
  have h0 : decide ((m : Int) < 0) = false := by simp
  have HR := Lib.hid hr
  have HAP := Lib.hid hap
  have HB := Lib.hid (show p + m ≤ n ∧ n ≤ 1000000000000 ∧ n = l.length from ⟨by omega, hn, by omega⟩)
  have hw2 : IntKind.i64.wrap ((p : Int) + (m : Int)) = (p : Int) + (m : Int) := IntWalk.i64_in _ (by omega)
  have HHH := Lib.hid hh
  clear hr hap hh hnl hn hm hpl hB
  go_enter Tryz.func171, Tryz.ntmps171
  go_upto_region 3 with (fail)
  go_quiet (fail)
  clear hw1 hgt k2
  go_upto_region 7 with (fail)
  clear hw2 h0
  obtain ⟨q, hq⟩ : ∃ q, q = p + m := ⟨_, rfl⟩
  have hpq : (p : Int) + (m : Int) = (q : Int) := by omega
  rw [hpq]
  have hh1 := heap_setCell_same (w.drewN nq) gr 1 _ _ (.int .i64 (q : Int)) HHH.out
  have hg1 : w.grownBy ((w.drewN nq).setCell ⟨gr, 1, none⟩ (.int .i64 (q : Int))) (some gr) := grown_set (grown_refl w (some gr)) nq 1 _
  generalize (w.drewN nq).setCell ⟨gr, 1, none⟩ (.int .i64 (q : Int)) = w1 at *
  have hh1 : w1.heap[gr]? = some (.cells #[.slice a n c, .int .i64 (q : Int), .int .i64 0] 243 (0, 0)) := by simpa using hh1
  have l0 : w1.cell? ⟨gr, 0, none⟩ = some (.slice a n c) := by rw [cell_of_row _ _ _ _ _ _ hh1]; rfl
  have l1 : w1.cell? ⟨gr, 1, none⟩ = some (.int .i64 (q : Int)) := by rw [cell_of_row _ _ _ _ _ _ hh1]; rfl
  have hr1 := r8_grown HR.out HAP.out hg1
  have HM := Lib.hid (hr1.mid p q (by omega) (by have := HB.out; omega))
  rw [show q - p = m by omega] at HM
  have hs0 : ∀ wx, (Instr.slice 49 (.slice a n c) (some (.int .i64 (p : Int))) (some (.int .i64 (q : Int))) none).run Tryz.prog wx = .ok (.slice (dropA a p c) (q - p) (c - p)) wx := fun wx => slice_mid (P := Tryz.prog) sl22 wx a n c p q (p : Int) (q : Int) rfl rfl (by omega) (by have := HR.out.2.1; have := HB.out; omega)
  obtain ⟨a2, ha2⟩ : ∃ a2, a2 = dropA a p c := ⟨_, rfl⟩
  obtain ⟨c2, hc2⟩ : ∃ c2, c2 = c - p := ⟨_, rfl⟩
  rw [← ha2, ← hc2] at HM
  have hsl : ∀ wx, (Instr.slice 49 (.slice a n c) (some (.int .i64 (p : Int))) (some (.int .i64 (q : Int))) none).run Tryz.prog wx = .ok (.slice a2 m c2) wx := fun wx => by
    have := hs0 wx
    rwa [show q - p = m by omega, ← ha2, ← hc2] at this
  have hw3 : IntKind.i64.wrap ((q : Int) - (m : Int)) = (p : Int) := by rw [← hpq, Int.add_sub_cancel]; exact IntWalk.i64_in _ (by have := HB.out; omega)
  have HQ := Lib.hid hq
  have HH1 := Lib.hid hh1
  have HG1 := Lib.hid hg1
  have HZ := Lib.hid (show w.heap.size ≤ w1.heap.size from hg1.size)
  clear hs0 ha2 hc2 hpq hq hh1 hg1 hr1 k0 k1 f1
  refine wp_region_held_drew (S := fun w => w.cell? ⟨gr, 0, none⟩ = some (.slice a n c) ∧ w.cell? ⟨gr, 1, none⟩ = some (.int .i64 (q : Int))) (by kernel_rfl) ⟨l0, l1⟩ (fun hHeld => ?_)
  apply wpT 0
  apply wpT 1
  apply wpT 2
  apply wpT 3
  apply wpT 4
  apply wpT 5
  apply wpT 6
  apply wpT 7
  apply wpT 8
  apply wpT 9
  apply wpT 10
  apply wpT 11
  apply wpT 12
  apply wpT 13
  apply wpT 14
  apply wpR 15
  intro K hK
  have hm12 : m ≤ 1000000000000 := by have := HB.out; omega
  refine S_append8 rfl (.const (.slice none 0 0)) (.tmp 50) 49 (by rfl) sl22 w1.drew.heap.size (.slice none 0 0) 0 [] (by rfl) (World.ownsRow_nil _ _ _ _) a2 m c2 ((l.drop p).take m) (by rfl) (show R8 w1.drew a2 m c2 ((l.drop p).take m) from HM.out) (by omega) (by simp [maxLen]; omega) (Nat.le_refl _) (fun a3 c3 w3 ho3 hg3 hat3 => ?_)
  have hb3 : Below w1.heap.size w1 w3 := ((Below.refl w1.heap.size w1).drew).grown hg3 (Nat.le_refl _) (by intro k hk; cases hk)
  have m0 := keepR hb3 l0
  have m1 := keepR hb3 l1
  have HO3 := Lib.hid ho3
  have HB3 := Lib.hid hb3
  clear hg3 hat3 ho3 hb3 hsl hw3
  refine hK.out _ _ ⟨m0, m1⟩ (fun hHeld => ?_)
  clear hK K
  (try simp only [Act.put, List.setIfInBounds_toArray, List.set_cons_zero, List.set_cons_succ, List.getElem_toArray, List.getElem_cons_succ, List.getElem_cons_zero])
  apply wpT 16
  refine wpAnyH_done (by kernel_rfl) ?_ _
  go_wp2_with fail
  go_ret
  have ho := HO3.out
  simp only [Nat.zero_add, List.nil_append] at ho ⊢
  have hd : w1.drew.heap.size = w1.heap.size := rfl
  refine ⟨a3, m, c3, rfl, R8.of_owns ho (by omega), ?_, ?_, fun x hx => ?_⟩
  · have h2 : RdG w1 B gr (l.drop q, 0) := ⟨a, n, c, l, q, HH1.out, r8_grown HR.out HAP.out HG1.out, HAP.out, HB.out.2.1, by have := HB.out; have := HQ.out; omega, rfl, HBB.out⟩
    rw [← HQ.out]
    exact h2.below HB3.out
  · exact grown_trans HG1.out ⟨HB3.out.os, HB3.out.tape, HB3.out.output, HB3.out.size, fun k hk _ => HB3.out.block k hk⟩
  · have h0 := ho.2
    rcases h0 with ⟨hv, -⟩ | ⟨g, cap, cur, hv, hb0, -⟩
    · have := (Value.slice.inj hv).1; rw [hx] at this; cases this
    · have := (Value.slice.inj hv).1; rw [hx] at this; cases this; have := HZ.out; have h9 : w1.heap.size ≤ g := hb0; show w.heap.size ≤ g; omega
theorem r8_none (w : World) : R8 w none 0 0 [] := ⟨rfl, Nat.le_refl _, by simp [maxLen], fun i h => absurd h (by simp)⟩
theorem raw_gone (w : World) (B gr : Nat) (s : Rs) (m : Nat) (h : RdG w B gr s) (hs : s.2 ≠ 0) : Calls Tryz.prog 171 #[.pointer (some ⟨gr, 0, none⟩), .int .i64 (m : Int)] w fun e w' => e = .returned (.slice none 0 0) ∧ w' = w := by
  obtain ⟨a, n, c, l, p, hh, -⟩ := h
  have k2 : w.cell? ⟨gr, 2, none⟩ = some (.int .i64 (s.2 : Int)) := by rw [cell_of_row _ _ _ _ _ _ hh]; rfl
  have hz : ((s.2 : Int) == 0) = false := by simp; omega
  clear hh
  go_enter Tryz.func171, Tryz.ntmps171
  go_wp2_with fail
  go_ret
  exact ⟨rfl, rfl⟩
theorem raw_short (w : World) (B gr : Nat) (r : List UInt8) (m : Nat) (h : RdG w B gr (r, 0)) (hm : r.length < m) (hm2 : m ≤ 9223372036854775807) :
    Calls Tryz.prog 171 #[.pointer (some ⟨gr, 0, none⟩), .int .i64 (m : Int)] w fun e w' => e = .returned (.slice none 0 0) ∧ RdG w' B gr (r, 8) ∧ w.grownBy w' (some gr) := by
  have HF := Lib.hid (fun k => refuse8 (w.drewN k) B gr r (h.drewN k))
  obtain ⟨l, p, h1, hpl, rfl⟩ := h.at0
  rw [List.length_drop] at hm
  obtain ⟨a, n, c, hh, hr, hap, hn⟩ := h1
  have hnl := hr.1
  have k0 : w.cell? ⟨gr, 0, none⟩ = some (.slice a n c) := by rw [cell_of_row _ _ _ _ _ _ hh]; rfl
  have k1 : w.cell? ⟨gr, 1, none⟩ = some (.int .i64 (p : Int)) := by rw [cell_of_row _ _ _ _ _ _ hh]; rfl
  have k2 : w.cell? ⟨gr, 2, none⟩ = some (.int .i64 0) := by rw [cell_of_row _ _ _ _ _ _ hh]; rfl
  have hw1 : IntKind.i64.wrap ((n : Int) - (p : Int)) = (n : Int) - (p : Int) := IntWalk.i64_in _ (by omega)
  have hgt : decide ((n : Int) - (p : Int) < (m : Int)) = true := by simp; omega
  have h0 : decide ((m : Int) < 0) = false := by simp
  clear hr hap hh hnl hn hm hpl h
  go_enter Tryz.func171, Tryz.ntmps171
  go_upto_region 3 with (fail)
  go_quiet (fail)
  go_wp2_with (go_at_call 167; ((with_reducible refine (HF.out _).mono ?_); rintro e w' ⟨rfl, h2, h3⟩; have H2 := Lib.hid h2; have H3 := Lib.hid h3; clear h2 h3))
  go_ret
  exact ⟨rfl, H2.out, ⟨H3.out.os, H3.out.tape, H3.out.output, H3.out.size, H3.out.block⟩⟩
theorem raw_g (w : World) (B gr : Nat) (s : Rs) (m : Nat) (h : RdG w B gr s) (hm : m ≤ 9223372036854775807) :
    Calls Tryz.prog 171 #[.pointer (some ⟨gr, 0, none⟩), .int .i64 (m : Int)] w fun e w' => ∃ a2 n2 c2, e = .returned (.slice a2 n2 c2) ∧ R8 w' a2 n2 c2 (rRaw m s).1 ∧ RdG w' B gr (rRaw m s).2 ∧ w.grownBy w' (some gr) ∧ (∀ x, a2 = some x → w.heap.size ≤ x.block) := by
  obtain ⟨r, q⟩ := s
  by_cases hq : q = 0
  · subst hq
    by_cases hl : r.length < m
    · refine (raw_short w B gr r m h hl hm).mono ?_
      rintro e w' ⟨rfl, h2, h3⟩
      unfold rRaw
      rw [if_neg (by simp), if_pos hl]
      exact ⟨none, 0, 0, rfl, r8_none _, h2, h3, fun x hx => by cases hx⟩
    · refine (raw_ok w B gr r m h (by omega)).mono ?_
      rintro e w' ⟨a2, n2, c2, rfl, h2, h3, h4, h5⟩
      unfold rRaw
      rw [if_neg (by simp), if_neg hl]
      exact ⟨a2, n2, c2, rfl, h2, h3, h4, h5⟩
  · refine (raw_gone w B gr (r, q) m h hq).mono ?_
    rintro e w' ⟨rfl, rfl⟩
    unfold rRaw
    rw [if_pos (by simpa using hq)]
    exact ⟨none, 0, 0, rfl, r8_none _, h, grown_refl _ _, fun x hx => by cases hx⟩
theorem rRaw_le (m : Nat) (s : Rs) : (rRaw m s).1.length ≤ m := by
  unfold rRaw
  split
  · exact Nat.zero_le _
  · split
    · exact Nat.zero_le _
    · show (s.1.take m).length ≤ m
      rw [List.length_take]; omega
end Go.Proofs.YtoboabkaojfbaaaGreatDoor
