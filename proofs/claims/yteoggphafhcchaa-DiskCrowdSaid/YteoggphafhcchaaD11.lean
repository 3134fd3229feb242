import Derived.Test.YteoggphafhcchaaD10
namespace Go.Proofs.Yteoggphafhcchaa
open Go Go.RowKit
set_option maxRecDepth 100000
set_option maxHeartbeats 400000
set_option linter.unusedVariables false
set_option linter.unusedSimpArgs false
open Go.Maps Go.WideMaps
theorem legal_ne {s : ByteArray} (h : legalB s = true) : (s.toList == []) = false := by
  cases hd : s.toList with
  | nil =>
    have h1 : s.data.toList = s.toList := by simp [ByteArray.toList_eq]
    rw [hd] at h1
    unfold legalB at h
    rw [h1] at h
    simp at h
  | cons => rfl
abbrev crB : ByteArray := ⟨#[67, 114, 101, 97, 116, 101]⟩
theorem create_here (w : World) (B gd : Nat) (d : Dk) (q n : Nat) (D : DataW Unit) (h : St w B gd d q n D) (hB : B ≤ w.heap.size) (s : ByteArray) (hs : s.size ≤ maxLen) (hl : legalB s = true) (g : Nat) (hat : at? D s = .lit (.int .i64 g)) :
    Calls Try.prog 8 #[.pointer (some ⟨gd, 0, none⟩), .string s] w fun e w' => (∃ v, e = .returned v ∧ IsFault w' v crB s 33) ∧ Below w.heap.size w w' := by
  obtain ⟨w1, hw1⟩ : ∃ w1, w1 = (w.alloc (boxD gd)).alloc (boxN s) := ⟨_, rfl⟩
  have hb1 : Below w.heap.size w w1 := by rw [hw1]; exact ((Below.refl _ _).alloc (Nat.le_refl _) _).alloc (by simp) _
  have g0 : w1.heap[w.heap.size]? = some (boxD gd) := by rw [hw1]; exact heap_alloc2_old w _ _
  have g1 : w1.heap[w.heap.size + 1]? = some (boxN s) := by rw [hw1]; exact heap_alloc2_new w _ _
  have z1 : w.heap.size + 1 < w1.heap.size := by rw [hw1]; simp
  have hS1 := h.below hb1
  have HS1 := Lib.hid hS1
  have HB1 := Lib.hid hb1
  have G0 := Lib.hid g0
  have G1 := Lib.hid g1
  have k0 := cell0 g0
  have k1 := cell0 g1
  have HNE := Lib.hid (legal_ne hl)
  clear h hb1 g0 g1 hS1
  go_enter Try.func8, Try.ntmps8
  go_upto_region 1 with (fail)
  rw [← hw1]
  clear hw1
  go_wp2_with fail
  with_reducible refine (ask_one (w1.alloc (.cells #[.string s] 9)) gd d (HS1.out.below (bel1 _ _)).g HS1.out.pw w1.heap.size 0 1 s hs (cell0 (heap_alloc_new w1 _)) n D (HS1.out.below (bel1 _ _)).m).mono ?_
  rintro e w3 ⟨hask, hb3, -⟩
  have hb13 : Below w1.heap.size w1 w3 := (bel1 w1 _).trans (hb3.mono (by simp))
  have HS3 := Lib.hid (HS1.out.below hb13)
  have HB13 := Lib.hid hb13
  have HBB3 := Lib.hid (HB1.out.trans (hb13.mono (by omega)))
  have hg0 := (hb13.block w.heap.size (by omega)).trans G0.out
  have hg1 := (hb13.block (w.heap.size + 1) (by omega)).trans G1.out
  have HG0 := Lib.hid hg0
  have HG1 := Lib.hid hg1
  have m0 := cell0 hg0
  have m1 := cell0 hg1
  have z3 : w1.heap.size ≤ w3.heap.size := hb13.size
  have he : e = .returned (.tuple #[.pointer (some ⟨g, 0, none⟩), .int .i64 0]) := by
    rcases hask with ⟨h1, -⟩ | ⟨-, h2, h3⟩ | ⟨-, g', h2, h3⟩
    · rw [hl] at h1; cases h1
    · rw [hat] at h2; cases h2
    · rw [hat] at h2
      have h4 : (g : Int) = g' := by simpa using h2
      obtain rfl : g = g' := by omega
      exact h3
  obtain ⟨-, -, -, -, -, -, c6, -⟩ := Dk.cells HS3.out.g
  have hln : ∀ ty, (Builtin.len_ #[37] ty #[.map (some d.nb)]).run Try.prog w3 = .ok (.int .i64 (Maps.size D)) w3 := fun ty => HS3.out.m.len Try.underlying37 ty
  subst he
  clear k0 k1 hb13 hb3 hask hg0 hg1
  go_wp2_with fail
  with_reducible refine (told_any w3 crB s 33).mono ?_
  rintro e w4 ⟨ht, hb4⟩
  have HB4 := Lib.hid (HBB3.out.trans (hb4.mono (by omega)))
  have HTL := Lib.hid ht
  clear hb4 ht m0 m1
  rcases HTL.out with ⟨h0, -⟩ | ⟨-, v, rfl, hv⟩
  · cases h0
  · go_wp2_with fail
    go_ret
    exact ⟨⟨v, rfl, hv⟩, HB4.out⟩
theorem create_full (w : World) (B gd : Nat) (d : Dk) (q n : Nat) (D : DataW Unit) (h : St w B gd d q n D) (hB : B ≤ w.heap.size) (s : ByteArray) (hs : s.size ≤ maxLen) (hl : legalB s = true) (hat : at? D s = .nil) (hsz : 4096 ≤ Maps.size D) :
    Calls Try.prog 8 #[.pointer (some ⟨gd, 0, none⟩), .string s] w fun e w' => (∃ v, e = .returned v ∧ IsFault w' v crB s 31) ∧ Below w.heap.size w w' := by
  have hszI : (4096 : Int) ≤ (Maps.size D : Int) := by omega
  obtain ⟨w1, hw1⟩ : ∃ w1, w1 = (w.alloc (boxD gd)).alloc (boxN s) := ⟨_, rfl⟩
  have hb1 : Below w.heap.size w w1 := by rw [hw1]; exact ((Below.refl _ _).alloc (Nat.le_refl _) _).alloc (by simp) _
  have g0 : w1.heap[w.heap.size]? = some (boxD gd) := by rw [hw1]; exact heap_alloc2_old w _ _
  have g1 : w1.heap[w.heap.size + 1]? = some (boxN s) := by rw [hw1]; exact heap_alloc2_new w _ _
  have z1 : w.heap.size + 1 < w1.heap.size := by rw [hw1]; simp
  have hS1 := h.below hb1
  have HS1 := Lib.hid hS1
  have HB1 := Lib.hid hb1
  have G0 := Lib.hid g0
  have G1 := Lib.hid g1
  have k0 := cell0 g0
  have k1 := cell0 g1
  have HNE := Lib.hid (legal_ne hl)
  clear h hb1 g0 g1 hS1
  go_enter Try.func8, Try.ntmps8
  go_upto_region 1 with (fail)
  rw [← hw1]
  clear hw1
  go_wp2_with fail
  with_reducible refine (ask_one (w1.alloc (.cells #[.string s] 9)) gd d (HS1.out.below (bel1 _ _)).g HS1.out.pw w1.heap.size 0 1 s hs (cell0 (heap_alloc_new w1 _)) n D (HS1.out.below (bel1 _ _)).m).mono ?_
  rintro e w3 ⟨hask, hb3, -⟩
  have hb13 : Below w1.heap.size w1 w3 := (bel1 w1 _).trans (hb3.mono (by simp))
  have HS3 := Lib.hid (HS1.out.below hb13)
  have HB13 := Lib.hid hb13
  have HBB3 := Lib.hid (HB1.out.trans (hb13.mono (by omega)))
  have hg0 := (hb13.block w.heap.size (by omega)).trans G0.out
  have hg1 := (hb13.block (w.heap.size + 1) (by omega)).trans G1.out
  have HG0 := Lib.hid hg0
  have HG1 := Lib.hid hg1
  have m0 := cell0 hg0
  have m1 := cell0 hg1
  have z3 : w1.heap.size ≤ w3.heap.size := hb13.size
  have he : e = .returned (.tuple #[.pointer none, .int .i64 32]) := by
    rcases hask with ⟨h1, -⟩ | ⟨-, h2, h3⟩ | ⟨-, g', h2, h3⟩
    · rw [hl] at h1; cases h1
    · exact h3
    · rw [hat] at h2; cases h2
  obtain ⟨-, -, -, -, -, -, c6, -⟩ := Dk.cells HS3.out.g
  have hln : ∀ ty, (Builtin.len_ #[37] ty #[.map (some d.nb)]).run Try.prog w3 = .ok (.int .i64 (Maps.size D)) w3 := fun ty => HS3.out.m.len Try.underlying37 ty
  subst he
  clear k0 k1 hb13 hb3 hask hg0 hg1
  go_wp2_with fail
  with_reducible refine (told_any w3 crB s 31).mono ?_
  rintro e w4 ⟨ht, hb4⟩
  have HB4 := Lib.hid (HBB3.out.trans (hb4.mono (by omega)))
  have HTL := Lib.hid ht
  clear hb4 ht m0 m1
  rcases HTL.out with ⟨h0, -⟩ | ⟨-, v, rfl, hv⟩
  · cases h0
  · go_wp2_with fail
    go_ret
    exact ⟨⟨v, rfl, hv⟩, HB4.out⟩
theorem create_new (w : World) (B gd : Nat) (d : Dk) (q n : Nat) (D : DataW Unit) (h : St w B gd d q n D) (hB : B ≤ w.heap.size) (hq : q ≤ 1000) (hn : n < 1000000) (s : ByteArray) (hs : s.size ≤ maxLen) (hl : legalB s = true) (hat : at? D s = .nil) (hsz : Maps.size D < 4096) (hff : wrap64 (d.files + 1) = d.files + 1) (ha : wrap64 (d.acts + 1) = d.acts + 1) :
    Calls Try.prog 8 #[.pointer (some ⟨gd, 0, none⟩), .string s] w fun e w' => e = .returned .nilIface ∧ (∃ (g : Nat) (d' : Dk), St w' B gd d' (q + 1) (n + 1) (D.put (kL s) (.lit (.int .i64 g))) ∧ d'.acts = d.acts + 1 ∧ (d.files ≤ d'.files ∧ d'.files ≤ d.files + 1)) ∧ Below B w w' := by
  have hszI : ¬ (4096 : Int) ≤ (Maps.size D : Int) := by omega
  obtain ⟨w1, hw1⟩ : ∃ w1, w1 = (w.alloc (boxD gd)).alloc (boxN s) := ⟨_, rfl⟩
  have hb1 : Below w.heap.size w w1 := by rw [hw1]; exact ((Below.refl _ _).alloc (Nat.le_refl _) _).alloc (by simp) _
  have g0 : w1.heap[w.heap.size]? = some (boxD gd) := by rw [hw1]; exact heap_alloc2_old w _ _
  have g1 : w1.heap[w.heap.size + 1]? = some (boxN s) := by rw [hw1]; exact heap_alloc2_new w _ _
  have z1 : w.heap.size + 1 < w1.heap.size := by rw [hw1]; simp
  have hS1 := h.below hb1
  have HS1 := Lib.hid hS1
  have HB1 := Lib.hid hb1
  have G0 := Lib.hid g0
  have G1 := Lib.hid g1
  have k0 := cell0 g0
  have k1 := cell0 g1
  have HNE := Lib.hid (legal_ne hl)
  clear h hb1 g0 g1 hS1
  go_enter Try.func8, Try.ntmps8
  go_upto_region 1 with (fail)
  rw [← hw1]
  clear hw1
  go_wp2_with fail
  with_reducible refine (ask_one (w1.alloc (.cells #[.string s] 9)) gd d (HS1.out.below (bel1 _ _)).g HS1.out.pw w1.heap.size 0 1 s hs (cell0 (heap_alloc_new w1 _)) n D (HS1.out.below (bel1 _ _)).m).mono ?_
  rintro e w3 ⟨hask, hb3, -⟩
  have hb13 : Below w1.heap.size w1 w3 := (bel1 w1 _).trans (hb3.mono (by simp))
  have HS3 := Lib.hid (HS1.out.below hb13)
  have HB13 := Lib.hid hb13
  have HBB3 := Lib.hid (HB1.out.trans (hb13.mono (by omega)))
  have hg0 := (hb13.block w.heap.size (by omega)).trans G0.out
  have hg1 := (hb13.block (w.heap.size + 1) (by omega)).trans G1.out
  have HG0 := Lib.hid hg0
  have HG1 := Lib.hid hg1
  have m0 := cell0 hg0
  have m1 := cell0 hg1
  have z3 : w1.heap.size ≤ w3.heap.size := hb13.size
  have he : e = .returned (.tuple #[.pointer none, .int .i64 32]) := by
    rcases hask with ⟨h1, -⟩ | ⟨-, h2, h3⟩ | ⟨-, g', h2, h3⟩
    · rw [hl] at h1; cases h1
    · exact h3
    · rw [hat] at h2; cases h2
  obtain ⟨-, -, -, -, -, -, c6, -⟩ := Dk.cells HS3.out.g
  have hln : ∀ ty, (Builtin.len_ #[37] ty #[.map (some d.nb)]).run Try.prog w3 = .ok (.int .i64 (Maps.size D)) w3 := fun ty => HS3.out.m.len Try.underlying37 ty
  subst he
  clear k0 k1 hb13 hb3 hask hg0 hg1
  go_wp2_with fail
  refine (begin_create w3 gd d HS3.out.g HS3.out.pl ha (.pointer (some ⟨w.heap.size, 0, none⟩)) (.pointer (some ⟨w.heap.size + 1, 0, none⟩)) (.func (.func 26) #[] #[]) (fun w' => (∃ (g : Nat) (d' : Dk), St w' B gd d' (q + 1) (n + 1) (D.put (kL s) (.lit (.int .i64 g))) ∧ d'.acts = d.acts + 1 ∧ (d.files ≤ d'.files ∧ d'.files ≤ d.files + 1)) ∧ Below B w w' ∧ w'.heap[w.heap.size + 1]? = some (boxN s)) ?_).mono ?_
  · intro w4 hb4
    have hS4 := HS3.out.below hb4
    obtain ⟨hS5, hO5⟩ := hS4.acts (d.acts + 1)
    have x0 : w.heap.size ≠ gd := fun e => by have := HS3.out.g; rw [← e, HG0.out] at this; simp at this
    have x1 : w.heap.size + 1 ≠ gd := fun e => by have := HS3.out.g; rw [← e, HG1.out] at this; simp at this
    have y0 := (hb4.block w.heap.size (by omega)).trans HG0.out
    have y1 := (hb4.block (w.heap.size + 1) (by omega)).trans HG1.out
    have n0 := map_ne hS4.m y0
    have n1 := map_ne hS4.m y1
    have u0 := keepo hO5 x0 n0 y0 (by decide)
    have u1 := keepo hO5 x1 n1 y1 (by decide)
    have hBz : B ≤ (w4.setCell ⟨gd, 0, none⟩ (.int .i64 (d.acts + 1))).heap.size := by have := hb4.size; simp; omega
    refine (create1_any _ B gd _ q n D hS5 hBz hq hn s hs HNE.out hff w.heap.size (w.heap.size + 1) u0 u1).mono ?_
    rintro e w6 ⟨rfl, g, ⟨d', hd, e1, e2, e3⟩, hot, hbl⟩
    refine ⟨rfl, ⟨g, d', hd, e1, e3⟩, ?_, keepo hot x1 n1 u1 (by decide)⟩
    exact (((HBB3.out.trans (hb4.mono (by omega))).mono hB).setCell (p := ⟨gd, 0, none⟩) HS3.out.hB _).trans hbl
  · rintro e w4 ⟨rfl, hst, hbl, hbx⟩
    have HST := Lib.hid hst
    have HBL := Lib.hid hbl
    have n1 := cell0 hbx
    have hBz : B ≤ w4.heap.size := by have := hbl.size; omega
    clear hst hbl hbx m0 m1 c6 hln
    go_wp2_with fail
    refine (told_any w4 crB s 0).mono ?_
    rintro e w5 ⟨ht, hb5⟩
    have HB5 := Lib.hid hb5
    have HTL := Lib.hid ht
    clear hb5 ht n1
    rcases HTL.out with ⟨-, rfl⟩ | ⟨h0, -⟩
    · go_wp2_with fail
      go_ret
      obtain ⟨g, d', hd, e1, e2⟩ := HST.out
      exact ⟨rfl, ⟨g, d', hd.below HB5.out, e1, e2⟩, HBL.out.trans (HB5.out.mono hBz)⟩
    · exact absurd rfl h0

end Go.Proofs.Yteoggphafhcchaa
