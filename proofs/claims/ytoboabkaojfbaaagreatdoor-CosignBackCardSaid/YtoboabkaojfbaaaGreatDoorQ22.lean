import Derived.Test.YtoboabkaojfbaaaGreatDoorQ21
import Derived.Test.YtoboabkaojfbaaaGreatDoorQ19
import Derived.Stop.BytesEq
namespace Go.Proofs.YtoboabkaojfbaaaGreatDoor
open Go Go.RowKit
set_option maxRecDepth 100000
set_option maxHeartbeats 1000000
set_option linter.unusedVariables false
set_option linter.unusedSimpArgs false

open Go.Maps Go.WideMaps Go.ChangeMaps
noncomputable def wayM (w : World) (u : Value) : Nat := match u with
  | .pointer (some p) => (match w.heap[p.block]? with | some (.cells c _ _) => (intOf (c.getD 1 undef) - intOf (c.getD 0 undef)).toNat | _ => 0)
  | _ => 0
theorem wayM_of {w : World} {g a b : Nat} (h : w.heap[g]? = some (.cells #[.int .i64 (a : Int), .int .i64 (b : Int)] 302 (0, 0))) : wayM w (.pointer (some ⟨g, 0, none⟩)) = b - a := by
  unfold wayM
  dsimp only
  rw [h]
  show ((b : Int) - (a : Int)).toNat = _
  omega
theorem way_next {w W w4 : World} {u : Value} {done : List (Nat × Nat)} {g6 a b x y c a' b' j : Nat} {a4 : Option Addr} {c4 : Nat}
    (hW : Below w.heap.size w W) (hgW : W.heap[g6]? = some (.cells #[.int .i64 (a : Int), .int .i64 (b : Int)] 302 (0, 0))) (h6 : w.heap.size ≤ g6) (hne : u.ownBlock ≠ some g6) (hoW : PO W w.heap.size u done)
    (ho4 : w4.ownsRow w.heap.size 302 2 (.slice a4 (done.length + 1) c4) (done.length + 1) (done.flatMap spE ++ [.int .i64 (x : Int), .int .i64 (y : Int)])) (hg4 : (W.alloc (.cells #[.int .i64 (x : Int), .int .i64 (y : Int)] 302)).grownBy w4 u.ownBlock)
    (hat : (Value.slice a4 (done.length + 1) c4).ownBlock = u.ownBlock ∨ (Value.slice a4 (done.length + 1) c4).ownBlock = some (W.alloc (.cells #[.int .i64 (x : Int), .int .i64 (y : Int)] 302)).heap.size)
    (hg8 : w4.heap[g6]? = some (.cells #[.int .i64 (a : Int), .int .i64 (b : Int)] 302 (0, 0))) :
    ((w4.setCell ⟨g6, j, none⟩ (.int .i64 (c : Int))).alloc (.cells #[.int .i64 (a' : Int), .int .i64 (b' : Int)] 302)).heap[w4.heap.size]? = some (.cells #[.int .i64 (a' : Int), .int .i64 (b' : Int)] 302 (0, 0)) ∧ w.heap.size ≤ w4.heap.size ∧ (Value.slice a4 (done.length + 1) c4).ownBlock ≠ some w4.heap.size ∧
      PO ((w4.setCell ⟨g6, j, none⟩ (.int .i64 (c : Int))).alloc (.cells #[.int .i64 (a' : Int), .int .i64 (b' : Int)] 302)) w.heap.size (.slice a4 (done.length + 1) c4) (done ++ [(x, y)]) ∧ Below w.heap.size w ((w4.setCell ⟨g6, j, none⟩ (.int .i64 (c : Int))).alloc (.cells #[.int .i64 (a' : Int), .int .i64 (b' : Int)] 302)) := by
  obtain ⟨-, hg9⟩ := row_setCell (i := j) hg8 (.int .i64 (c : Int))
  have hgl := (Array.getElem?_eq_some_iff.1 hgW).1
  have h1 : (W.alloc (.cells #[.int .i64 (x : Int), .int .i64 (y : Int)] 302)).heap.size = W.heap.size + 1 := World.size_alloc _ _
  have hown : (Value.slice a4 (done.length + 1) c4).ownBlock ≠ some g6 := by
    rcases hat with e | e
    · rw [e]; exact hne
    · rw [e, h1]; intro q; injection q with q; omega
  have hb4 : Below w.heap.size w w4 := (hW.alloc hW.size _).grown hg4 (by rw [h1]; have := hW.size; omega) (fun k hk => (hoW.lt k hk).1)
  have hz : (w4.setCell ⟨g6, j, none⟩ (.int .i64 (c : Int))).heap.size = w4.heap.size := World.size_setCell ..
  have hb9 : Below w.heap.size w (w4.setCell ⟨g6, j, none⟩ (.int .i64 (c : Int))) := hb4.grown hg9 hb4.size (fun k hk => by rw [← Option.some.inj hk]; exact h6)
  have hp4 : PO w4 w.heap.size (.slice a4 (done.length + 1) c4) (done ++ [(x, y)]) := by
    unfold PO
    rw [List.length_append, List.flatMap_append]
    exact ho4
  have hp9 : PO (w4.setCell ⟨g6, j, none⟩ (.int .i64 (c : Int))) w.heap.size (.slice a4 (done.length + 1) c4) (done ++ [(x, y)]) := World.ownsRow.kept hp4 hg9 (.inr hown)
  refine ⟨?_, hb4.size, fun e => ?_, World.ownsRow.alloc hp9 _, hb9.alloc hb9.size _⟩
  · rw [← hz]; exact heap_alloc_new _ _
  · have := (World.ownsRow.lt ho4 _ e).2; omega
set_option maxHeartbeats 8000000
theorem way_any (w : World) (size i : Nat) (hi : i < size) (hs : size ≤ 1099511627776) : Calls Tryz.prog 209 #[.int .i64 (size : Int), .int .i64 (i : Int)] w fun e w' => ∃ v, e = .returned v ∧ PO w' w.heap.size v (wayP size 0 size i).reverse ∧ Below w.heap.size w w' := by
  have HI := Lib.hid (And.intro hi hs)
  obtain ⟨g0, hg0⟩ : ∃ g0, g0 = w.heap.size := ⟨_, rfl⟩
  obtain ⟨w1, hw1⟩ : ∃ w1, w1 = w.alloc (.cells #[.int .i64 0, .int .i64 (size : Int)] 302) := ⟨_, rfl⟩
  have hb1 : Below w.heap.size w w1 := by rw [hw1]; exact (Below.refl _ _).alloc (Nat.le_refl _) _
  have hg1 : w1.heap[g0]? = some (.cells #[.int .i64 0, .int .i64 (size : Int)] 302 (0, 0)) := by rw [hw1, hg0]; exact heap_alloc_new _ _
  have HB1 := Lib.hid hb1; have HG1 := Lib.hid hg1; have HG0 := Lib.hid hg0
  have hw1' : w.alloc (.cells #[.int .i64 0, .int .i64 (size : Int)] 302) = w1 := hw1.symm
  have hg0' : w.heap.size = g0 := hg0.symm
  clear hi hs hw1 hb1 hg1 hg0
  go_enter Tryz.func209, Tryz.ntmps209
  go_wp2_with fail
  have HG0' := Lib.hid hg0'
  clear hw1' hg0'
  go_loopw [5, 6] (fun v u wr => ∃ (f a b g6 : Nat) (done : List (Nat × Nat)), u = .pointer (some ⟨g6, 0, none⟩) ∧ wr.heap[g6]? = some (.cells #[.int .i64 (a : Int), .int .i64 (b : Int)] 302 (0, 0)) ∧ w.heap.size ≤ g6 ∧ v.ownBlock ≠ some g6 ∧ PO wr w.heap.size v done ∧ wayP size 0 size i = done ++ wayP f a b i ∧ b - a ≤ f ∧ a ≤ i ∧ i < b ∧ b ≤ size ∧ done.length + (b - a) ≤ size ∧ Below w.heap.size w wr) (fun v u wr => wayM wr u)
  case atStart => exact ⟨size, 0, size, g0, [], rfl, HG1.out, by rw [HG0.out]; exact Nat.le_refl _, (fun e => by cases e), World.ownsRow_nil _ _ _ _, rfl, by omega, Nat.zero_le _, HI.out.1, Nat.le_refl _, by simp, HB1.out⟩
  case round =>
    obtain ⟨f, a, b, g6, done, rfl, hg, hg6, hne, ho, hway, hf, hai, hib, hbs, hdl, hb⟩ := hrel
    have c0 := (keepS hg).1
    have c1 := (keepS hg).2
    have hs6 := HI.out.2
    have m1 : (b : Int) - (a : Int) = ((b - a : Nat) : Int) := by omega
    by_cases hlt : 1 < b - a
    · obtain ⟨f', rfl⟩ : ∃ f', f = f' + 1 := ⟨f - 1, by omega⟩
      obtain ⟨l1, l2⟩ := leftP_lt (b - a) (by omega) (by omega)
      obtain ⟨k, hkk⟩ : ∃ k, k = a + leftP (b - a) := ⟨_, rfl⟩
      rw [wayP, if_neg (by omega), ← hkk] at hway
      have HTL := Lib.hid (fun wx => tleft_any wx (b - a) (by omega) (by omega))
      have m2 : (a : Int) + (leftP (b - a) : Int) = (k : Int) := by omega
      have m3 : IntKind.i64.wrap ((b - a : Nat) : Int) = ((b - a : Nat) : Int) := wrapI (by omega) (by omega)
      have m4 : IntKind.i64.wrap (k : Int) = (k : Int) := wrapI (by omega) (by omega)
      have m5 : IntKind.i64.wrap ((b : Int) - (a : Int)) = ((b - a : Nat) : Int) := by rw [m1, m3]
      have d1 : decide ((1 : Int) < ((b - a : Nat) : Int)) = true := by simp; omega
      have d2 : decide (1 < b - a) = true := by simp; omega
      have hs0 : (fun x => x.cell? ⟨g6, 0, none⟩ = some (.int .i64 (a : Int)) ∧ x.cell? ⟨g6, 1, none⟩ = some (.int .i64 (b : Int))) wr.drew := keepS hg
      have HG := Lib.hid hg; have HO := Lib.hid ho; have HB := Lib.hid hb; have HNE := Lib.hid hne; have HG6 := Lib.hid hg6
      have HAB := Lib.hid (And.intro hf (And.intro hai (And.intro hib (And.intro hbs (And.intro hdl (And.intro hkk (And.intro l1 (And.intro l2 hlt))))))))
      have HWAY := Lib.hid hway
      clear hf hai hib hbs hdl hkk l1 l2 hlt hway hg ho hb hne hg6 hs6
      go_upto_region 4 with (fail)
      refine wp_region_held_drew (S := fun x => x.cell? ⟨g6, 0, none⟩ = some (.int .i64 (a : Int)) ∧ x.cell? ⟨g6, 1, none⟩ = some (.int .i64 (b : Int))) (by kernel_rfl) hs0 (fun hHeld => ?_)
      refine wpAnyH_take (i := 0) (oi := _) (v := ?_) rfl (by kernel_rfl) (by kernel_rfl) (by kernel_rfl) (fun _ _ _ h => h) (Or.inl ⟨by rfl, ?_⟩) (by assumption) ?_
      rotate_left
      · intro w hSw
        (try dsimp only at hSw)
        go_simp
        all_goals (first | done | with_reducible rfl)
      (try simp only [Act.put, List.setIfInBounds_toArray, List.set_cons_zero, List.set_cons_succ, List.getElem_toArray, List.getElem_cons_succ, List.getElem_cons_zero])
      refine wpAnyH_take (i := 1) (oi := _) (v := ?_) rfl (by kernel_rfl) (by kernel_rfl) (by kernel_rfl) (fun _ _ _ h => h) (Or.inl ⟨by rfl, ?_⟩) (by assumption) ?_
      rotate_left
      · intro w hSw
        (try dsimp only at hSw)
        go_simp
        all_goals (first | done | with_reducible rfl)
      (try simp only [Act.put, List.setIfInBounds_toArray, List.set_cons_zero, List.set_cons_succ, List.getElem_toArray, List.getElem_cons_succ, List.getElem_cons_zero])
      refine wpAnyH_take (i := 2) (oi := _) (v := ?_) rfl (by kernel_rfl) (by kernel_rfl) (by kernel_rfl) (fun _ _ _ h => h) (Or.inl ⟨by rfl, ?_⟩) (by assumption) ?_
      rotate_left
      · intro w hSw
        (try dsimp only at hSw)
        go_simp
        all_goals (first | done | with_reducible rfl)
      (try simp only [Act.put, List.setIfInBounds_toArray, List.set_cons_zero, List.set_cons_succ, List.getElem_toArray, List.getElem_cons_succ, List.getElem_cons_zero])
      refine wpAnyH_take (i := 3) (oi := _) (v := ?_) rfl (by kernel_rfl) (by kernel_rfl) (by kernel_rfl) (fun _ _ _ h => h) (Or.inl ⟨by rfl, ?_⟩) (by assumption) ?_
      rotate_left
      · intro w hSw
        (try dsimp only at hSw)
        go_simp
        all_goals (first | done | with_reducible rfl)
      (try simp only [Act.put, List.setIfInBounds_toArray, List.set_cons_zero, List.set_cons_succ, List.getElem_toArray, List.getElem_cons_succ, List.getElem_cons_zero])
      refine wpAnyH_take (i := 4) (oi := _) (v := ?_) rfl (by kernel_rfl) (by kernel_rfl) (by kernel_rfl) (fun _ _ _ h => h) (Or.inl ⟨by rfl, ?_⟩) (by assumption) ?_
      rotate_left
      · intro w hSw
        (try dsimp only at hSw)
        go_simp
        all_goals (first | done | with_reducible rfl)
      (try simp only [Act.put, List.setIfInBounds_toArray, List.set_cons_zero, List.set_cons_succ, List.getElem_toArray, List.getElem_cons_succ, List.getElem_cons_zero])
      refine wpAnyH_take (i := 5) (oi := _) (v := ?_) rfl (by kernel_rfl) (by kernel_rfl) (by kernel_rfl) (fun _ _ _ h => h) (Or.inl ⟨by rfl, ?_⟩) (by assumption) ?_
      rotate_left
      · intro w hSw
        (try dsimp only at hSw)
        go_simp
        all_goals (first | done | with_reducible rfl)
      (try simp only [Act.put, List.setIfInBounds_toArray, List.set_cons_zero, List.set_cons_succ, List.getElem_toArray, List.getElem_cons_succ, List.getElem_cons_zero])
      refine wpAnyH_take (i := 6) (oi := _) (v := ?_) rfl (by kernel_rfl) (by kernel_rfl) (by kernel_rfl) (fun _ _ _ h => h) (Or.inl ⟨by rfl, ?_⟩) (by assumption) ?_
      rotate_left
      · intro w hSw
        (try dsimp only at hSw)
        go_simp
        all_goals (first | done | with_reducible rfl)
      (try simp only [Act.put, List.setIfInBounds_toArray, List.set_cons_zero, List.set_cons_succ, List.getElem_toArray, List.getElem_cons_succ, List.getElem_cons_zero])
      refine wpAnyH_ready (rs := [7]) (by kernel_rfl) (by simp) ?_
      refine AllReadyH.cons (o := _) rfl (fun K hK => ?_) AllReadyH.nil
      go_simp
      refine (HTL.out _).mono ?_
      rintro e w2 ⟨rfl, hw2⟩
      subst hw2
      refine hK.out _ _ hs0 (fun hHeld => ?_)
      clear hK K
      (try simp only [Act.put, List.setIfInBounds_toArray, List.set_cons_zero, List.set_cons_succ, List.getElem_toArray, List.getElem_cons_succ, List.getElem_cons_zero])
      refine wpAnyH_take (i := 8) (oi := _) (v := ?_) rfl (by kernel_rfl) (by kernel_rfl) (by kernel_rfl) (fun _ _ _ h => h) (Or.inl ⟨by rfl, ?_⟩) (by assumption) ?_
      rotate_left
      · intro w hSw
        (try dsimp only at hSw)
        go_simp
        all_goals (first | done | with_reducible rfl)
      (try simp only [Act.put, List.setIfInBounds_toArray, List.set_cons_zero, List.set_cons_succ, List.getElem_toArray, List.getElem_cons_succ, List.getElem_cons_zero])
      refine wpAnyH_take (i := 9) (oi := _) (v := ?_) rfl (by kernel_rfl) (by kernel_rfl) (by kernel_rfl) (fun _ _ _ h => h) (Or.inl ⟨by rfl, ?_⟩) (by assumption) ?_
      rotate_left
      · intro w hSw
        (try dsimp only at hSw)
        go_simp
        all_goals (first | done | with_reducible rfl)
      (try simp only [Act.put, List.setIfInBounds_toArray, List.set_cons_zero, List.set_cons_succ, List.getElem_toArray, List.getElem_cons_succ, List.getElem_cons_zero])
      refine wpAnyH_done (by kernel_rfl) ?_ _
      clear hs0
      by_cases hik : i < k
      · have d3 : decide ((i : Int) < (k : Int)) = true := by simp; omega
        have d4 : decide (i < k) = true := by simp; omega
        have HIK := Lib.hid hik
        clear hik
        obtain ⟨W, hW⟩ : ∃ W, W = wr.drew := ⟨_, rfl⟩
        have hgW : W.heap[g6]? = some (.cells #[.int .i64 (a : Int), .int .i64 (b : Int)] 302 (0, 0)) := by rw [hW]; exact HG.out
        have hbW : Below w.heap.size w W := by rw [hW]; have h := HB.out; exact ⟨h.os, h.tape, h.output, h.size, h.block⟩
        have hoW : PO W w.heap.size u5 done := by rw [hW]; exact HO.out
        rw [← hW]
        have HGW := Lib.hid hgW; have HBW := Lib.hid hbW; have HOW := Lib.hid hoW
        have HQ := Lib.hid (show (done.length + 1) * 16 ≤ 140737488355328 ∧ done.length + 1 ≤ maxLen from ⟨by have := HAB.out; have := HI.out; omega, by have := HAB.out; have := HI.out; simp [maxLen]; omega⟩)
        clear c0 c1 hW hgW hbW hoW
        have c1 := (keepS HGW.out).2
        have HOA := Lib.hid (show (W.alloc (.cells #[.int .i64 (k : Int), .int .i64 (b : Int)] 302)).ownsRow w.heap.size 302 2 u5 _ _ from World.ownsRow.alloc HOW.out _)
        go_wp2_with (at_builtin; refine L_appendN rfl (.tmp 28) (.tmp 33) 299 (by rfl) sl227 w.heap.size u5 _ _ (by rfl) HOA.out ⟨W.heap.size, 0, none⟩ 1 1 [.int .i64 (k : Int), .int .i64 (b : Int)] (by rfl) (by rfl) (cellA #[.int .i64 (k : Int), .int .i64 (b : Int)] 302 W) (by intro u hu; simp only [List.mem_cons, List.not_mem_nil, or_false] at hu; rcases hu with rfl | rfl <;> rfl) HQ.out.1 HQ.out.2 (Nat.le_trans HBW.out.size (by simp)) (fun a4 c4 w4 ho4 hg4 hat4 => ?_); have hg8 := (hg4.block g6 (by have := (Array.getElem?_eq_some_iff.1 HGW.out).1; simp; omega) (fun e => HNE.out e.symm)).trans ((alOld W (.cells #[.int .i64 (k : Int), .int .i64 (b : Int)] 302) g6 (Array.getElem?_eq_some_iff.1 HGW.out).1).trans HGW.out); have f1 := frozen_of_row w4 g6 1 _ _ hg8; have e0 := (keepS hg8).1; have e1 := (keepS hg8).2; have HG8 := Lib.hid hg8; have HO4 := Lib.hid ho4; have HHG := Lib.hid hg4; have HAT := Lib.hid hat4; clear hg8 ho4 hg4 hat4)
        obtain ⟨n1, n2, n3, n4, n5⟩ := way_next (j := 1) (c := k) (a' := a) (b' := k) HBW.out HGW.out HG6.out HNE.out HOW.out HO4.out HHG.out HAT.out HG8.out
        refine ⟨⟨f', a, k, w4.heap.size, done ++ [(k, b)], rfl, n1, n2, n3, n4, ?_, ?_, ?_, ?_, ?_, ?_, n5⟩, ?_⟩
        · have h := HWAY.out
          rw [if_pos HIK.out] at h
          rw [h, List.append_assoc]; rfl
        · have := HAB.out; omega
        · exact HAB.out.2.1
        · exact HIK.out
        · have := HAB.out; omega
        · have := HAB.out; rw [List.length_append]; show _ + 1 + _ ≤ _; omega
        · rw [wayM_of n1, wayM_of HG.out]; have := HAB.out; omega
      · have d3 : decide ((i : Int) < (k : Int)) = false := by simp; omega
        have d4 : decide (i < k) = false := by simp; omega
        have HIK := Lib.hid hik
        clear hik
        obtain ⟨W, hW⟩ : ∃ W, W = wr.drew := ⟨_, rfl⟩
        have hgW : W.heap[g6]? = some (.cells #[.int .i64 (a : Int), .int .i64 (b : Int)] 302 (0, 0)) := by rw [hW]; exact HG.out
        have hbW : Below w.heap.size w W := by rw [hW]; have h := HB.out; exact ⟨h.os, h.tape, h.output, h.size, h.block⟩
        have hoW : PO W w.heap.size u5 done := by rw [hW]; exact HO.out
        rw [← hW]
        have HGW := Lib.hid hgW; have HBW := Lib.hid hbW; have HOW := Lib.hid hoW
        have HQ := Lib.hid (show (done.length + 1) * 16 ≤ 140737488355328 ∧ done.length + 1 ≤ maxLen from ⟨by have := HAB.out; have := HI.out; omega, by have := HAB.out; have := HI.out; simp [maxLen]; omega⟩)
        clear c0 c1 hW hgW hbW hoW
        have c0 := (keepS HGW.out).1
        have HOA := Lib.hid (show (W.alloc (.cells #[.int .i64 (a : Int), .int .i64 (k : Int)] 302)).ownsRow w.heap.size 302 2 u5 _ _ from World.ownsRow.alloc HOW.out _)
        go_wp2_with (at_builtin; refine L_appendN rfl (.tmp 37) (.tmp 42) 299 (by rfl) sl227 w.heap.size u5 _ _ (by rfl) HOA.out ⟨W.heap.size, 0, none⟩ 1 1 [.int .i64 (a : Int), .int .i64 (k : Int)] (by rfl) (by rfl) (cellA #[.int .i64 (a : Int), .int .i64 (k : Int)] 302 W) (by intro u hu; simp only [List.mem_cons, List.not_mem_nil, or_false] at hu; rcases hu with rfl | rfl <;> rfl) HQ.out.1 HQ.out.2 (Nat.le_trans HBW.out.size (by simp)) (fun a4 c4 w4 ho4 hg4 hat4 => ?_); have hg8 := (hg4.block g6 (by have := (Array.getElem?_eq_some_iff.1 HGW.out).1; simp; omega) (fun e => HNE.out e.symm)).trans ((alOld W (.cells #[.int .i64 (a : Int), .int .i64 (k : Int)] 302) g6 (Array.getElem?_eq_some_iff.1 HGW.out).1).trans HGW.out); have f1 := frozen_of_row w4 g6 0 _ _ hg8; have e0 := (keepS hg8).1; have e1 := (keepS hg8).2; have HG8 := Lib.hid hg8; have HO4 := Lib.hid ho4; have HHG := Lib.hid hg4; have HAT := Lib.hid hat4; clear hg8 ho4 hg4 hat4)
        obtain ⟨n1, n2, n3, n4, n5⟩ := way_next (j := 0) (c := k) (a' := k) (b' := b) HBW.out HGW.out HG6.out HNE.out HOW.out HO4.out HHG.out HAT.out HG8.out
        refine ⟨⟨f', k, b, w4.heap.size, done ++ [(a, k)], rfl, n1, n2, n3, n4, ?_, ?_, ?_, ?_, ?_, ?_, n5⟩, ?_⟩
        · have h := HWAY.out
          rw [if_neg HIK.out] at h
          rw [h, List.append_assoc]; rfl
        · have := HAB.out; omega
        · have := HIK.out; omega
        · exact HAB.out.2.2.1
        · have := HAB.out; omega
        · have := HAB.out; rw [List.length_append]; show _ + 1 + _ ≤ _; omega
        · rw [wayM_of n1, wayM_of HG.out]; have := HAB.out; omega
    · have hwe : wayP size 0 size i = done := by
        rw [hway]
        cases f with
        | zero => rw [wayP, List.append_nil]
        | succ f => rw [wayP, if_pos (by omega), List.append_nil]
      have d1 : decide ((1 : Int) < ((b - a : Nat) : Int)) = false := by simp; omega
      have d2 : decide (1 < b - a) = false := by simp; omega
      have m3 : IntKind.i64.wrap ((b - a : Nat) : Int) = ((b - a : Nat) : Int) := wrapI (by omega) (by omega)
      have m5 : IntKind.i64.wrap ((b : Int) - (a : Int)) = ((b - a : Nat) : Int) := by rw [m1, m3]
      have HRV := Lib.hid (reverse_any wr w.heap.size u5 done ho (by rw [← hwe]; have := way_len40 (i := i) size 0 size (by have := HI.out.2; omega); omega))
      have HWE := Lib.hid hwe
      have HLT := Lib.hid (fun k hk => (ho.lt k hk).1)
      have HB := Lib.hid hb
      clear hlt hway hf hai hib hbs hdl hne ho hg hg6 hs6 hwe hb
      go_wp2_with (go_at_call 230; refine HRV.out.mono ?_; rintro e w2 ⟨rfl, hp, hgr⟩)
      go_ret
      rw [HWE.out]
      exact ⟨_, rfl, hp, HB.out.grown hgr HB.out.size HLT.out⟩
end Go.Proofs.YtoboabkaojfbaaaGreatDoor
namespace Go.Proofs.YtoboabkaojfbaaaGreatDoor
open Go Go.RowKit
set_option maxRecDepth 100000
set_option maxHeartbeats 1000000
set_option linter.unusedVariables false
set_option linter.unusedSimpArgs false

open Go.Maps Go.WideMaps Go.ChangeMaps
theorem way_len {i : Nat} : ∀ (f a b : Nat), b ≤ 1000000 → (wayP f a b i).length ≤ b - a := by
  intro f
  induction f with
  | zero => intro a b h; rw [wayP]; exact Nat.zero_le _
  | succ f ih =>
    intro a b h3
    rw [wayP]
    by_cases h1 : b - a ≤ 1
    · rw [if_pos h1]; exact Nat.zero_le _
    · obtain ⟨l1, l2⟩ := leftP_lt (b - a) (by omega) (by omega)
      rw [if_neg h1]
      split
      · have := ih a (a + leftP (b - a)) (by omega)
        rw [List.length_cons]; omega
      · have := ih (a + leftP (b - a)) b h3
        rw [List.length_cons]; omega
set_option maxHeartbeats 8000000

end Go.Proofs.YtoboabkaojfbaaaGreatDoor
namespace Go.Proofs.YtoboabkaojfbaaaGreatDoor
open Go Go.RowKit
set_option maxRecDepth 100000
set_option maxHeartbeats 1000000
set_option linter.unusedVariables false
set_option linter.unusedSimpArgs false

open Go.Maps Go.WideMaps Go.ChangeMaps
theorem size5 (w : World) : (Go.sizeOf 5).run Tryz.prog w = .ok 1 w := by kernel_rfl
theorem dgA_cell (l : List UInt8) : dgA l = (l.map Extern.Stop.cell).toArray := rfl
theorem eql_dg (x y : Dg) (w : World) : (binOp .eql 23 (.agg (dgA x.1)) (.agg (dgA y.1))).run Tryz.prog w = .ok (.bool (x.1 == y.1)) w := by
  rw [dgA_cell, dgA_cell]
  exact run_eql_bytes w 23 5 32 Tryz.underlying23 Tryz.underlying5 size5 x.1 y.1 x.2 y.2
theorem neq_dg (x y : Dg) (w : World) : (binOp .neq 23 (.agg (dgA x.1)) (.agg (dgA y.1))).run Tryz.prog w = .ok (.bool (!(x.1 == y.1))) w := by
  rw [dgA_cell, dgA_cell]
  rw [run_neq_struct, run_equalIn_bytes w 9998 23 5 32 Tryz.underlying23 Tryz.underlying5 size5 x.1 y.1 x.2 y.2]
  rfl
end Go.Proofs.YtoboabkaojfbaaaGreatDoor
namespace Go.Proofs.YtoboabkaojfbaaaGreatDoor
open Go Go.RowKit
set_option maxRecDepth 100000
set_option maxHeartbeats 1000000
set_option linter.unusedVariables false
set_option linter.unusedSimpArgs false

open Go.Maps Go.WideMaps Go.ChangeMaps
theorem exec_bin {P : Program} {ρ : Operand → Value} {o : Oper} {b : BinOp} {t u : TypeId} {x y : Operand} {v : Value} {w : World} (ho : o.op = .binOp b t x y u) (h : (binOp b t (ρ x) (ρ y)).run P w = .ok v w) (hg : (eqGuard b t x y (ρ x) (ρ y)).run P w = .ok () w) : (execOp ρ o).run P w = .ok (.value v) w := by
  unfold execOp
  simp [ho, Sem.run_bind, h, hg, Result.andThen_ok, Sem.run_pure]
set_option maxHeartbeats 8000000
theorem same_dg (w : World) (a1 a2 : Option Addr) (n c1 c2 : Nat) (ds : List Dg) (h1 : DS w a1 n c1 ds) (h2 : DS w a2 n c2 ds) (hn : n ≤ 1000000) :
    Calls Tryz.prog 70 #[.slice a1 n c1, .slice a2 n c2] w fun e w' => e = .returned (.bool true) ∧ Below w.heap.size w w' := by
  have H1 := Lib.hid h1; have H2 := Lib.hid h2; have HN := Lib.hid hn
  have b0 : ((n : Int) == (n : Int)) = true := by simp
  clear h1 h2 hn
  go_enter Tryz.func70, Tryz.ntmps70
  go_wp2_with fail
  clear b0
  go_loopw [5] (fun v wr => ∃ k : Nat, k ≤ n ∧ v = .int .i64 (k : Int) ∧ Below w.heap.size w wr) (fun v _ => n - (intOf v).toNat)
  case atStart => exact ⟨0, Nat.zero_le _, rfl, Below.refl _ _⟩
  case round =>
    obtain ⟨k, hk, rfl, hb⟩ := hrel
    by_cases hlt : k < n
    · obtain ⟨x, hx⟩ : ∃ x, ds[k]? = some x := ⟨_, List.getElem?_eq_getElem (by have := H1.out.1; omega)⟩
      obtain ⟨b1, o1, rfl, -, hr1⟩ := (H1.out.below hb).at hx
      obtain ⟨b2, o2, rfl, -, hr2⟩ := (H2.out.below hb).at hx
      obtain ⟨E, hE⟩ : ∃ E, E = dgA x.1 := ⟨_, rfl⟩
      have hES : E.size = 32 := by rw [hE, dgA_size, x.2]
      have hq1 : wr.rangeAt b1 (o1 + k * 32) E.toList := by rw [hE]; simpa [dgA] using hr1
      have hq2 : wr.rangeAt b2 (o2 + k * 32) E.toList := by rw [hE]; simpa [dgA] using hr2
      have hs0 : (fun x => (Instr.loadAt 23 (.pointer (some ⟨b1, o1 + k * 32, none⟩))).run Tryz.prog x = .ok (.agg E) x ∧ (Instr.loadAt 23 (.pointer (some ⟨b2, o2 + k * 32, none⟩))).run Tryz.prog x = .ok (.agg E) x ∧ (binOp .neq 23 (.agg E) (.agg E)).run Tryz.prog x = .ok (.bool false) x) wr.drew := ⟨load_dig (w := wr.drew) hq1 hES, load_dig (w := wr.drew) hq2 hES, by rw [hE, neq_dg]; simp⟩
      have h9 : decide ((k : Int) < (n : Int)) = true := by simp; omega
      have h8 : decide (k < n) = true := by simp; omega
      have HLT := Lib.hid hlt; have HB := Lib.hid hb
      have hk6 : k ≤ 1000000 := by have := HN.out; omega
      clear hk hb hx hr1 hr2 hE hES hq1 hq2
      go_upto_region 6 with (fail)
      refine wp_region_held_drew (S := fun x => (Instr.loadAt 23 (.pointer (some ⟨b1, o1 + k * 32, none⟩))).run Tryz.prog x = .ok (.agg E) x ∧ (Instr.loadAt 23 (.pointer (some ⟨b2, o2 + k * 32, none⟩))).run Tryz.prog x = .ok (.agg E) x ∧ (binOp .neq 23 (.agg E) (.agg E)).run Tryz.prog x = .ok (.bool false) x) (by kernel_rfl) hs0 (fun hHeld => ?_)
      refine wpAnyH_take (i := 0) (oi := _) (v := ?_) rfl (by kernel_rfl) (by kernel_rfl) (by kernel_rfl) (fun _ _ _ h => h) (Or.inl ⟨by rfl, ?_⟩) (by assumption) ?_
      rotate_left
      · intro w hSw
        (try dsimp only at hSw)
        go_simp
        all_goals (first | done | with_reducible rfl)
      (try simp only [Act.put, List.setIfInBounds_toArray, List.set_cons_zero, List.set_cons_succ, List.getElem_toArray, List.getElem_cons_succ, List.getElem_cons_zero])
      refine wpAnyH_take (i := 1) (oi := _) (v := ?_) rfl (by kernel_rfl) (by kernel_rfl) (by kernel_rfl) (fun _ _ _ h => h) (Or.inl ⟨by rfl, ?_⟩) (by assumption) ?_
      rotate_left
      · intro w hSw
        (try dsimp only at hSw)
        go_simp
        all_goals (first | done | with_reducible rfl)
      (try simp only [Act.put, List.setIfInBounds_toArray, List.set_cons_zero, List.set_cons_succ, List.getElem_toArray, List.getElem_cons_succ, List.getElem_cons_zero])
      refine wpAnyH_take (i := 2) (oi := _) (v := ?_) rfl (by kernel_rfl) (by kernel_rfl) (by kernel_rfl) (fun _ _ _ h => h) (Or.inl ⟨by rfl, ?_⟩) (by assumption) ?_
      rotate_left
      · intro w hSw
        (try dsimp only at hSw)
        go_simp
        all_goals (first | done | with_reducible rfl)
      (try simp only [Act.put, List.setIfInBounds_toArray, List.set_cons_zero, List.set_cons_succ, List.getElem_toArray, List.getElem_cons_succ, List.getElem_cons_zero])
      refine wpAnyH_take (i := 3) (oi := _) (v := .agg E) rfl (by kernel_rfl) (by kernel_rfl) (by kernel_rfl) (fun _ _ _ h => h) (Or.inl ⟨by rfl, fun w hSw => exec_load rfl (hSw.1)⟩) (by assumption) ?_
      (try simp only [Act.put, List.setIfInBounds_toArray, List.set_cons_zero, List.set_cons_succ, List.getElem_toArray, List.getElem_cons_succ, List.getElem_cons_zero])
      refine wpAnyH_take (i := 4) (oi := _) (v := ?_) rfl (by kernel_rfl) (by kernel_rfl) (by kernel_rfl) (fun _ _ _ h => h) (Or.inl ⟨by rfl, ?_⟩) (by assumption) ?_
      rotate_left
      · intro w hSw
        (try dsimp only at hSw)
        go_simp
        all_goals (first | done | with_reducible rfl)
      (try simp only [Act.put, List.setIfInBounds_toArray, List.set_cons_zero, List.set_cons_succ, List.getElem_toArray, List.getElem_cons_succ, List.getElem_cons_zero])
      refine wpAnyH_take (i := 5) (oi := _) (v := ?_) rfl (by kernel_rfl) (by kernel_rfl) (by kernel_rfl) (fun _ _ _ h => h) (Or.inl ⟨by rfl, ?_⟩) (by assumption) ?_
      rotate_left
      · intro w hSw
        (try dsimp only at hSw)
        go_simp
        all_goals (first | done | with_reducible rfl)
      (try simp only [Act.put, List.setIfInBounds_toArray, List.set_cons_zero, List.set_cons_succ, List.getElem_toArray, List.getElem_cons_succ, List.getElem_cons_zero])
      refine wpAnyH_take (i := 6) (oi := _) (v := ?_) rfl (by kernel_rfl) (by kernel_rfl) (by kernel_rfl) (fun _ _ _ h => h) (Or.inl ⟨by rfl, ?_⟩) (by assumption) ?_
      rotate_left
      · intro w hSw
        (try dsimp only at hSw)
        go_simp
        all_goals (first | done | with_reducible rfl)
      (try simp only [Act.put, List.setIfInBounds_toArray, List.set_cons_zero, List.set_cons_succ, List.getElem_toArray, List.getElem_cons_succ, List.getElem_cons_zero])
      refine wpAnyH_take (i := 7) (oi := _) (v := .agg E) rfl (by kernel_rfl) (by kernel_rfl) (by kernel_rfl) (fun _ _ _ h => h) (Or.inl ⟨by rfl, fun w hSw => exec_load rfl (hSw.2.1)⟩) (by assumption) ?_
      (try simp only [Act.put, List.setIfInBounds_toArray, List.set_cons_zero, List.set_cons_succ, List.getElem_toArray, List.getElem_cons_succ, List.getElem_cons_zero])
      refine wpAnyH_take (i := 8) (oi := _) (v := .bool false) rfl (by kernel_rfl) (by kernel_rfl) (by kernel_rfl) (fun _ _ _ h => h) (Or.inl ⟨by rfl, fun w hSw => exec_bin rfl hSw.2.2 (by go_simp)⟩) (by assumption) ?_
      (try simp only [Act.put, List.setIfInBounds_toArray, List.set_cons_zero, List.set_cons_succ, List.getElem_toArray, List.getElem_cons_succ, List.getElem_cons_zero])
      refine wpAnyH_done (by kernel_rfl) ?_ _
      clear hs0
      go_wp2_with fail
      refine ⟨⟨k + 1, HLT.out, by push_cast; rfl, (show Below w.heap.size w wr.drew from ⟨HB.out.os, HB.out.tape, HB.out.output, HB.out.size, HB.out.block⟩)⟩, ?_⟩
      simp [intOf]; omega
    · obtain rfl : k = n := by omega
      have h9 : decide ((k : Int) < (k : Int)) = false := by simp
      have h8 : decide (k < k) = false := by simp
      clear hlt hk
      go_wp2_with fail
      go_ret
      exact ⟨rfl, hb⟩
end Go.Proofs.YtoboabkaojfbaaaGreatDoor
