import Derived.Test.YteoggphafhcchaaD11
namespace Go.Proofs.Yteoggphafhcchaa
open Go Go.RowKit
set_option maxRecDepth 100000
set_option maxHeartbeats 1000000
set_option linter.unusedVariables false
set_option linter.unusedSimpArgs false
open Go.Maps Go.WideMaps
abbrev reB : ByteArray := ⟨#[82, 101, 109, 111, 118, 101]⟩
abbrev rnB : ByteArray := ⟨#[82, 101, 110, 97, 109, 101]⟩
theorem ne_empty {s : ByteArray} (h : (s.toList == []) = false) : s.toList.isEmpty = false := by
  cases hd : s.toList with
  | nil => rw [hd] at h; cases h
  | cons => rfl
theorem remove1_any (w : World) (B gd : Nat) (d : Dk) (q n : Nat) (D : DataW Unit) (h : St w B gd d q n D) (hB : B ≤ w.heap.size) (hq : q ≤ 1000) (s : ByteArray) (hs : s.size ≤ maxLen) (hs0 : (s.toList == []) = false) (g : Nat) (hg : at? D s = .lit (.int .i64 g)) (he : at? D ByteArray.empty = .nil) (bd bn : Nat) (hbd : w.heap[bd]? = some (boxD gd)) (hbn : w.heap[bn]? = some (boxN s)) :
    Calls Try.prog 29 #[.pointer (some ⟨bd, 0, none⟩), .pointer (some ⟨bn, 0, none⟩)] w fun e w' => e = .returned (.tuple #[]) ∧ Done w w' B gd d (q + 1) n (D.del (kL s)) := by
  have k0 := cell0 hbd
  have k1 := cell0 hbn
  have HC := Lib.hid (show Calls Try.prog 25 #[.pointer (some ⟨gd, 0, none⟩), .agg #[.string s, .string { data := #[] }, .pointer none]] w _ from change_drop w B gd d q n D h hB hq s hs (ne_empty hs0) g hg he)
  clear h hbd hbn hg he
  go_enter Try.func29, Try.ntmps29
  go_wp2_with fail
  with_reducible refine HC.out.mono ?_
  rintro e w3 ⟨rfl, ⟨c, hst⟩, hot, hbl⟩
  clear k0 k1
  go_wp2_with fail
  go_end0
  exact ⟨rfl, ⟨_, hst, rfl, rfl, ⟨Int.le_refl _, by show d.files ≤ d.files + 1; omega⟩⟩, hot, hbl⟩
theorem rename1_any (w : World) (B gd : Nat) (d : Dk) (q n : Nat) (D : DataW Unit) (h : St w B gd d q n D) (hB : B ≤ w.heap.size) (hq : q ≤ 1000) (hn : n < 1000000) (f t : ByteArray) (hf : f.size ≤ maxLen) (ht : t.size ≤ maxLen) (ht0 : (t.toList == []) = false) (htf : (t.toList == f.toList) = false) (g g2 : Nat) (hg : at? D f = .lit (.int .i64 g)) (hg2 : at? D t = .lit (.int .i64 g2)) (bd bn bm : Nat) (hbd : w.heap[bd]? = some (boxD gd)) (hbn : w.heap[bn]? = some (boxN f)) (hbm : w.heap[bm]? = some (boxN t)) :
    Calls Try.prog 28 #[.pointer (some ⟨bd, 0, none⟩), .pointer (some ⟨bn, 0, none⟩), .pointer (some ⟨bm, 0, none⟩)] w fun e w' => e = .returned (.tuple #[]) ∧ Done w w' B gd d (q + 1) (n + 1) ((D.del (kL f)).put (kL t) (.lit (.int .i64 g))) := by
  have k0 := cell0 hbd
  have k1 := cell0 hbn
  have k2 := cell0 hbm
  have HC := Lib.hid (change_move w B gd d q n D h hB hq hn f t hf ht ht0 htf g g2 hg hg2)
  clear h hbd hbn hbm hg hg2
  go_enter Try.func28, Try.ntmps28
  go_wp2_with fail
  with_reducible refine HC.out.mono ?_
  rintro e w3 ⟨rfl, ⟨c, hst⟩, hot, hbl⟩
  clear k0 k1 k2
  go_wp2_with fail
  go_end0
  exact ⟨rfl, ⟨_, hst, rfl, rfl, ⟨Int.le_refl _, by show d.files ≤ d.files + 1; omega⟩⟩, hot, hbl⟩
theorem ask_two (w : World) (gd : Nat) (d : Dk) (hg : w.heap[gd]? = some d.box) (hp : d.power = true) (b o c : Nat) (s t : ByteArray) (hs : s.size ≤ maxLen) (ht : t.size ≤ maxLen) (hc : w.cell? ⟨b, o, none⟩ = some (.string s)) (hc1 : w.cell? ⟨b, o + 1, none⟩ = some (.string t)) (n : Nat) (D : DataW Unit) (hm : w.ownsMap Try.prog 9 ptrR d.nb n D) (hl : legalB s = true) (hl2 : legalB t = true) (g : Nat) (hat : at? D s = .lit (.int .i64 g)) :
    Calls Try.prog 22 #[.pointer (some ⟨gd, 0, none⟩), .slice (some ⟨b, o, none⟩) 2 c] w fun e w' => e = .returned (.tuple #[.pointer (some ⟨g, 0, none⟩), .int .i64 0]) ∧ Below w.heap.size w w' := by
  obtain ⟨-, -, -, -, -, c5, c6, -⟩ := Dk.cells hg
  rw [hp] at c5
  have HM := Lib.hid hm
  have hlk : ∀ nq : Nat, (Instr.lookup 37 (.map (some d.nb)) (.string s) false).run Try.prog (w.drewN nq) = .ok (.pointer (some ⟨g, 0, none⟩)) (w.drewN nq) := fun nq => by
    have := (look_ptr (show (w.drewN nq).ownsMap Try.prog 9 ptrR d.nb n D from hm) hs).1
    rw [hat] at this; exact this
  clear hg hm hat
  go_enter Try.func22, Try.ntmps22
  go_wp2_with fail
  refine wp_loop_rounds 3 ?_
  rw [rounds_succ]
  go_wp2_with (go_at_call 32; refine (legal_any _ _ hs).mono ?_; rintro e w' ⟨rfl, rfl⟩; rw [hl])
  rw [rounds_succ]
  go_wp2_with (go_at_call 32; refine (legal_any _ _ ht).mono ?_; rintro e w' ⟨rfl, rfl⟩; rw [hl2])
  rw [rounds_succ]
  go_wp2_with fail
  go_quiet (fail)
  have hbq : ∀ wx : World, Below wx.heap.size wx (wx.drewN nq) := fun wx => below_drewN (Below.refl _ _) nq
  clear hlk
  go_wp2
  go_returns
  exact ⟨rfl, hbq _⟩
theorem remove_any (w : World) (B gd : Nat) (d : Dk) (q n : Nat) (D : DataW Unit) (h : St w B gd d q n D) (hB : B ≤ w.heap.size) (hq : q ≤ 1000) (s : ByteArray) (hs : s.size ≤ maxLen) (hl : legalB s = true) (g : Nat) (hat : at? D s = .lit (.int .i64 g)) (hem : at? D ByteArray.empty = .nil) (ha : wrap64 (d.acts + 1) = d.acts + 1) :
    Calls Try.prog 11 #[.pointer (some ⟨gd, 0, none⟩), .string s] w fun e w' => e = .returned .nilIface ∧ (∃ d' : Dk, St w' B gd d' (q + 1) n (D.del (kL s)) ∧ d'.acts = d.acts + 1 ∧ (d.files ≤ d'.files ∧ d'.files ≤ d.files + 1)) ∧ Below B w w' := by
  obtain ⟨w1, hw1⟩ : ∃ w1, w1 = (w.alloc (boxD gd)).alloc (boxN s) := ⟨_, rfl⟩
  have hb1 : Below w.heap.size w w1 := by rw [hw1]; exact ((Below.refl _ _).alloc (Nat.le_refl _) _).alloc (by simp) _
  have g0 : w1.heap[w.heap.size]? = some (boxD gd) := by rw [hw1]; exact heap_alloc2_old w _ _
  have g1 : w1.heap[w.heap.size + 1]? = some (boxN s) := by rw [hw1]; exact heap_alloc2_new w _ _
  have z1 : w.heap.size + 1 < w1.heap.size := by rw [hw1]; simp
  have hS1 := h.below hb1
  have HS1 := Lib.hid hS1
  have HB1 := Lib.hid hb1
  have G0 := Lib.hid g0
  have G1 := Lib.hid g1
  have k0 := cell0 g0
  have k1 := cell0 g1
  have HNE := Lib.hid (legal_ne hl)
  clear h hb1 g0 g1 hS1
  go_enter Try.func11, Try.ntmps11
  go_upto_region 1 with (fail)
  rw [← hw1]
  clear hw1
  go_wp2_with fail
  with_reducible refine (ask_one (w1.alloc (.cells #[.string s] 9)) gd d (HS1.out.below (bel1 _ _)).g HS1.out.pw w1.heap.size 0 1 s hs (cell0 (heap_alloc_new w1 _)) n D (HS1.out.below (bel1 _ _)).m).mono ?_
  rintro e w3 ⟨hask, hb3, -⟩
  have hb13 : Below w1.heap.size w1 w3 := (bel1 w1 _).trans (hb3.mono (by simp))
  have HS3 := Lib.hid (HS1.out.below hb13)
  have HB13 := Lib.hid hb13
  have HBB3 := Lib.hid (HB1.out.trans (hb13.mono (by omega)))
  have hg0 := (hb13.block w.heap.size (by omega)).trans G0.out
  have hg1 := (hb13.block (w.heap.size + 1) (by omega)).trans G1.out
  have HG0 := Lib.hid hg0
  have HG1 := Lib.hid hg1
  have m0 := cell0 hg0
  have m1 := cell0 hg1
  have z3 : w1.heap.size ≤ w3.heap.size := hb13.size
  have he : e = .returned (.tuple #[.pointer (some ⟨g, 0, none⟩), .int .i64 0]) := by
    rcases hask with ⟨h1, -⟩ | ⟨-, h2, h3⟩ | ⟨-, g', h2, h3⟩
    · rw [hl] at h1; cases h1
    · rw [hat] at h2; cases h2
    · rw [hat] at h2
      have h4 : (g : Int) = g' := by simpa using h2
      obtain rfl : g = g' := by omega
      exact h3
  obtain ⟨-, -, -, -, -, -, c6, -⟩ := Dk.cells HS3.out.g
  have hln : ∀ ty, (Builtin.len_ #[37] ty #[.map (some d.nb)]).run Try.prog w3 = .ok (.int .i64 (Maps.size D)) w3 := fun ty => HS3.out.m.len Try.underlying37 ty
  subst he
  clear k0 k1 hb13 hb3 hask hg0 hg1
  go_wp2_with fail
  refine (begin_remove w3 gd d HS3.out.g HS3.out.pl ha (.pointer (some ⟨w.heap.size, 0, none⟩)) (.pointer (some ⟨w.heap.size + 1, 0, none⟩)) (.func (.func 26) #[] #[]) (fun w' => (∃ d' : Dk, St w' B gd d' (q + 1) n (D.del (kL s)) ∧ d'.acts = d.acts + 1 ∧ (d.files ≤ d'.files ∧ d'.files ≤ d.files + 1)) ∧ Below B w w' ∧ w'.heap[w.heap.size + 1]? = some (boxN s)) ?_).mono ?_
  · intro w4 hb4
    have hS4 := HS3.out.below hb4
    obtain ⟨hS5, hO5⟩ := hS4.acts (d.acts + 1)
    have x0 : w.heap.size ≠ gd := fun e => by have := HS3.out.g; rw [← e, HG0.out] at this; simp at this
    have x1 : w.heap.size + 1 ≠ gd := fun e => by have := HS3.out.g; rw [← e, HG1.out] at this; simp at this
    have y0 := (hb4.block w.heap.size (by omega)).trans HG0.out
    have y1 := (hb4.block (w.heap.size + 1) (by omega)).trans HG1.out
    have n0 := map_ne hS4.m y0
    have n1 := map_ne hS4.m y1
    have u0 := keepo hO5 x0 n0 y0 (by decide)
    have u1 := keepo hO5 x1 n1 y1 (by decide)
    have hBz : B ≤ (w4.setCell ⟨gd, 0, none⟩ (.int .i64 (d.acts + 1))).heap.size := by have := hb4.size; simp; omega
    refine (remove1_any _ B gd _ q n D hS5 hBz hq s hs HNE.out g hat hem w.heap.size (w.heap.size + 1) u0 u1).mono ?_
    rintro e w6 ⟨rfl, ⟨d', hd, e1, e2, e3⟩, hot, hbl⟩
    refine ⟨rfl, ⟨d', hd, e1, e3⟩, ?_, keepo hot x1 n1 u1 (by decide)⟩
    exact (((HBB3.out.trans (hb4.mono (by omega))).mono hB).setCell (p := ⟨gd, 0, none⟩) HS3.out.hB _).trans hbl
  · rintro e w4 ⟨rfl, hst, hbl, hbx⟩
    have HST := Lib.hid hst
    have HBL := Lib.hid hbl
    have n1 := cell0 hbx
    have hBz : B ≤ w4.heap.size := by have := hbl.size; omega
    clear hst hbl hbx m0 m1 c6 hln
    go_wp2_with fail
    refine (told_any w4 reB s 0).mono ?_
    rintro e w5 ⟨ht, hb5⟩
    have HB5 := Lib.hid hb5
    have HTL := Lib.hid ht
    clear hb5 ht n1
    rcases HTL.out with ⟨-, rfl⟩ | ⟨h0, -⟩
    · go_wp2_with fail
      go_ret
      obtain ⟨d', hd, e1, e2⟩ := HST.out
      exact ⟨rfl, ⟨d', hd.below HB5.out, e1, e2⟩, HBL.out.trans (HB5.out.mono hBz)⟩
    · exact absurd rfl h0
theorem rename_any (w : World) (B gd : Nat) (d : Dk) (q n : Nat) (D : DataW Unit) (h : St w B gd d q n D) (hB : B ≤ w.heap.size) (hq : q ≤ 1000) (hn : n < 1000000) (s t : ByteArray) (hs : s.size ≤ maxLen) (ht : t.size ≤ maxLen) (hl : legalB s = true) (hl2 : legalB t = true) (hne : (t.toList == s.toList) = false) (g g2 : Nat) (hat : at? D s = .lit (.int .i64 g)) (hat2 : at? D t = .lit (.int .i64 g2)) (ha : wrap64 (d.acts + 1) = d.acts + 1) :
    Calls Try.prog 10 #[.pointer (some ⟨gd, 0, none⟩), .string s, .string t] w fun e w' => e = .returned .nilIface ∧ (∃ d' : Dk, St w' B gd d' (q + 1) (n + 1) ((D.del (kL s)).put (kL t) (.lit (.int .i64 g))) ∧ d'.acts = d.acts + 1 ∧ (d.files ≤ d'.files ∧ d'.files ≤ d.files + 1)) ∧ Below B w w' := by
  obtain ⟨w1, hw1⟩ : ∃ w1, w1 = ((w.alloc (boxD gd)).alloc (boxN s)).alloc (boxN t) := ⟨_, rfl⟩
  have hb1 : Below w.heap.size w w1 := by rw [hw1]; exact (((Below.refl _ _).alloc (Nat.le_refl _) _).alloc (by simp) _).alloc (by simp; omega) _
  have g0 : w1.heap[w.heap.size]? = some (boxD gd) := by rw [hw1, Below.heap_alloc _ _ _ (by simp; omega)]; exact heap_alloc2_old w _ _
  have g1 : w1.heap[w.heap.size + 1]? = some (boxN s) := by rw [hw1, Below.heap_alloc _ _ _ (by simp)]; exact heap_alloc2_new w _ _
  have g2' : w1.heap[w.heap.size + 1 + 1]? = some (boxN t) := by
    rw [hw1]
    have := heap_alloc_new ((w.alloc (boxD gd)).alloc (boxN s)) (boxN t)
    simpa using this
  have z1 : w.heap.size + 1 + 1 < w1.heap.size := by rw [hw1]; simp
  have hS1 := h.below hb1
  have HS1 := Lib.hid hS1
  have HB1 := Lib.hid hb1
  have G0 := Lib.hid g0
  have G1 := Lib.hid g1
  have G2 := Lib.hid g2'
  have k0 := cell0 g0
  have k1 := cell0 g1
  have k2 := cell0 g2'
  have HNE := Lib.hid (legal_ne hl2)
  clear h hb1 g0 g1 g2' hS1
  go_enter Try.func10, Try.ntmps10
  go_upto_region 1 with (fail)
  rw [← hw1]
  clear hw1
  go_wp2_with fail
  with_reducible refine (ask_two (w1.alloc (.cells #[.string s, .string t] 9)) gd d (HS1.out.below (bel1 _ _)).g HS1.out.pw w1.heap.size 0 2 s t hs ht (by rw [cell_of_row _ _ _ _ _ _ (heap_alloc_new w1 _)]; simp) (by rw [cell_of_row _ _ _ _ _ _ (heap_alloc_new w1 _)]; simp) n D (HS1.out.below (bel1 _ _)).m hl hl2 g hat).mono ?_
  rintro e w3 ⟨rfl, hb3⟩
  have hb13 : Below w1.heap.size w1 w3 := (bel1 w1 _).trans (hb3.mono (by simp))
  have HS3 := Lib.hid (HS1.out.below hb13)
  have HBB3 := Lib.hid (HB1.out.trans (hb13.mono (by omega)))
  have hg0 := (hb13.block w.heap.size (by omega)).trans G0.out
  have hg1 := (hb13.block (w.heap.size + 1) (by omega)).trans G1.out
  have hg2 := (hb13.block (w.heap.size + 1 + 1) (by omega)).trans G2.out
  have HG0 := Lib.hid hg0
  have HG1 := Lib.hid hg1
  have HG2 := Lib.hid hg2
  have m0 := cell0 hg0
  have m1 := cell0 hg1
  have m2 := cell0 hg2
  have z3 : w1.heap.size ≤ w3.heap.size := hb13.size
  clear k0 k1 k2 hb13 hb3 hg0 hg1 hg2
  go_wp2_with fail
  refine (begin_rename w3 gd d HS3.out.g HS3.out.pl ha (.pointer (some ⟨w.heap.size, 0, none⟩)) (.pointer (some ⟨w.heap.size + 1, 0, none⟩)) (.pointer (some ⟨w.heap.size + 1 + 1, 0, none⟩)) (.func (.func 26) #[] #[]) (fun w' => (∃ d' : Dk, St w' B gd d' (q + 1) (n + 1) ((D.del (kL s)).put (kL t) (.lit (.int .i64 g))) ∧ d'.acts = d.acts + 1 ∧ (d.files ≤ d'.files ∧ d'.files ≤ d.files + 1)) ∧ Below B w w' ∧ w'.heap[w.heap.size + 1]? = some (boxN s)) ?_).mono ?_
  · intro w4 hb4
    have hS4 := HS3.out.below hb4
    obtain ⟨hS5, hO5⟩ := hS4.acts (d.acts + 1)
    have x0 : w.heap.size ≠ gd := fun e => by have := HS3.out.g; rw [← e, HG0.out] at this; simp at this
    have x1 : w.heap.size + 1 ≠ gd := fun e => by have := HS3.out.g; rw [← e, HG1.out] at this; simp at this
    have x2 : w.heap.size + 1 + 1 ≠ gd := fun e => by have := HS3.out.g; rw [← e, HG2.out] at this; simp at this
    have y0 := (hb4.block w.heap.size (by omega)).trans HG0.out
    have y1 := (hb4.block (w.heap.size + 1) (by omega)).trans HG1.out
    have y2 := (hb4.block (w.heap.size + 1 + 1) (by omega)).trans HG2.out
    have n0 := map_ne hS4.m y0
    have n1 := map_ne hS4.m y1
    have n2 := map_ne hS4.m y2
    have u0 := keepo hO5 x0 n0 y0 (by decide)
    have u1 := keepo hO5 x1 n1 y1 (by decide)
    have u2 := keepo hO5 x2 n2 y2 (by decide)
    have hBz : B ≤ (w4.setCell ⟨gd, 0, none⟩ (.int .i64 (d.acts + 1))).heap.size := by have := hb4.size; simp; omega
    refine (rename1_any _ B gd _ q n D hS5 hBz hq hn s t hs ht HNE.out hne g g2 hat hat2 w.heap.size (w.heap.size + 1) (w.heap.size + 1 + 1) u0 u1 u2).mono ?_
    rintro e w6 ⟨rfl, ⟨d', hd, e1, e2, e3⟩, hot, hbl⟩
    refine ⟨rfl, ⟨d', hd, e1, e3⟩, ?_, keepo hot x1 n1 u1 (by decide)⟩
    exact (((HBB3.out.trans (hb4.mono (by omega))).mono hB).setCell (p := ⟨gd, 0, none⟩) HS3.out.hB _).trans hbl
  · rintro e w4 ⟨rfl, hst, hbl, hbx⟩
    have HST := Lib.hid hst
    have HBL := Lib.hid hbl
    have n1 := cell0 hbx
    have hBz : B ≤ w4.heap.size := by have := hbl.size; omega
    clear hst hbl hbx m0 m1 m2
    go_wp2_with fail
    refine (told_any w4 rnB s 0).mono ?_
    rintro e w5 ⟨ht, hb5⟩
    have HB5 := Lib.hid hb5
    have HTL := Lib.hid ht
    clear hb5 ht n1
    rcases HTL.out with ⟨-, rfl⟩ | ⟨h0, -⟩
    · go_wp2_with fail
      go_ret
      obtain ⟨d', hd, e1, e2⟩ := HST.out
      exact ⟨rfl, ⟨d', hd.below HB5.out, e1, e2⟩, HBL.out.trans (HB5.out.mono hBz)⟩
    · exact absurd rfl h0

end Go.Proofs.Yteoggphafhcchaa
