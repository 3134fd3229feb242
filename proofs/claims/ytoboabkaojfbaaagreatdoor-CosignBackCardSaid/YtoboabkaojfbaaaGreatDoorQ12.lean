import Derived.Test.YtoboabkaojfbaaaGreatDoorQ11
import Derived.Laws.CopyOwn
import Derived.Deep.RegionHeld3
import Derived.IntWalk
import Derived.BigGuardPart
import Derived.BigQuiet
import Derived.Deep.QuietTactic
import Derived.Deep.MidRow
namespace Go.Proofs.YtoboabkaojfbaaaGreatDoor
open Go Go.RowKit
set_option maxRecDepth 100000
set_option maxHeartbeats 1000000
set_option linter.unusedVariables false
set_option linter.unusedSimpArgs false

theorem keepR {w3 w4 : World} (hb : Below w3.heap.size w3 w4) {b o : Nat} {v : Value} (h : w3.cell? ⟨b, o, none⟩ = some v) : w4.cell? ⟨b, o, none⟩ = some v :=
  (World.cell?_of_block (hb.block b (World.block_lt_of_cell? w3 _ h))).trans h
/-- A reader, its row told. -/
def RdX (w : World) (gr : Nat) (a : Option Addr) (n c : Nat) (l : List UInt8) (p : Nat) : Prop := w.heap[gr]? = some (.cells #[.slice a n c, .int .i64 (p : Int), .int .i64 0] 243 (0, 0)) ∧ R8 w a n c l ∧ (∀ x, a = some x → 0 < n → gr ≠ x.block) ∧ n ≤ 1000000000000
theorem RdX.lt {w : World} {gr p : Nat} {a : Option Addr} {n c : Nat} {l : List UInt8} (h : RdX w gr a n c l p) : gr < w.heap.size := (Array.getElem?_eq_some_iff.1 h.1).1
theorem RdX.grown {w w' : World} {gr p q : Nat} {a : Option Addr} {n c : Nat} {l : List UInt8} (h : RdX w gr a n c l p) (hg : w.grownBy w' (some gr)) (hh : w'.heap[gr]? = some (.cells #[.slice a n c, .int .i64 (q : Int), .int .i64 0] 243 (0, 0))) : RdX w' gr a n c l q :=
  ⟨hh, r8_grown h.2.1 h.2.2.1 hg, h.2.2.1, h.2.2.2⟩
theorem RdX.below {w w' : World} {gr p : Nat} {a : Option Addr} {n c : Nat} {l : List UInt8} (h : RdX w gr a n c l p) (hb : Below w.heap.size w w') : RdX w' gr a n c l p :=
  ⟨(hb.block gr h.lt).trans h.1, h.2.1.below hb, h.2.2.1, h.2.2.2⟩
set_option maxHeartbeats 4000000
/-- Raw: 32 bytes. -/
theorem raw32_any (w : World) (gr : Nat) (a : Option Addr) (n c : Nat) (l : List UInt8) (p : Nat) (h : RdX w gr a n c l p) (hp : p + 32 ≤ l.length) :
    Calls Tryz.prog 171 #[.pointer (some ⟨gr, 0, none⟩), .int .i64 32] w fun e w' => ∃ a2 c2, e = .returned (.slice a2 32 c2) ∧ R8 w' a2 32 c2 ((l.drop p).take 32) ∧ RdX w' gr a n c l (p + 32) ∧ w.grownBy w' (some gr) ∧ (∀ x, a2 = some x → w.heap.size ≤ x.block) := by
  have HH := Lib.hid h
  obtain ⟨hh, hr, hap, hn⟩ := h
  have hnl := hr.1
  have k0 : w.cell? ⟨gr, 0, none⟩ = some (.slice a n c) := by rw [cell_of_row _ _ _ _ _ _ hh]; rfl
  have k1 : w.cell? ⟨gr, 1, none⟩ = some (.int .i64 (p : Int)) := by rw [cell_of_row _ _ _ _ _ _ hh]; rfl
  have k2 : w.cell? ⟨gr, 2, none⟩ = some (.int .i64 0) := by rw [cell_of_row _ _ _ _ _ _ hh]; rfl
  have f1 := frozen_of_row w gr 1 _ _ hh
  have hgl := (Array.getElem?_eq_some_iff.1 hh).1
  have hw1 : IntKind.i64.wrap ((n : Int) - (p : Int)) = (n : Int) - (p : Int) := IntWalk.i64_in _ (by omega)
  have hgt : decide ((n : Int) - (p : Int) < 32) = false := by simp; omega
  have HR := Lib.hid hr
  have HAP := Lib.hid hap
  have HB := Lib.hid (show p + 32 ≤ n ∧ n ≤ 1000000000000 from ⟨by omega, hn⟩)
  have hw2 : IntKind.i64.wrap ((p : Int) + 32) = (p : Int) + 32 := IntWalk.i64_in _ (by omega)
  have HHH := Lib.hid hh
  clear hr hap hh hnl hn hp
  go_enter Tryz.func171, Tryz.ntmps171
  go_upto_region 3 with (fail)
  go_quiet (fail)
  clear hw1 hgt k2 hw2
  have hpb : p ≤ 1000000000000 := by have := HB.out; omega
  go_upto_region 7 with (fail)
  obtain ⟨q, hq⟩ : ∃ q, q = p + 32 := ⟨_, rfl⟩
  have hpq : (p : Int) + 32 = (q : Int) := by omega
  rw [hpq]
  have hh1 := heap_setCell_same (w.drewN nq) gr 1 _ _ (.int .i64 (q : Int)) HHH.out
  have hg1 : w.grownBy ((w.drewN nq).setCell ⟨gr, 1, none⟩ (.int .i64 (q : Int))) (some gr) := grown_set (grown_refl w (some gr)) nq 1 _
  generalize (w.drewN nq).setCell ⟨gr, 1, none⟩ (.int .i64 (q : Int)) = w1 at *
  have hh1 : w1.heap[gr]? = some (.cells #[.slice a n c, .int .i64 (q : Int), .int .i64 0] 243 (0, 0)) := by simpa using hh1
  have l0 : w1.cell? ⟨gr, 0, none⟩ = some (.slice a n c) := by rw [cell_of_row _ _ _ _ _ _ hh1]; rfl
  have l1 : w1.cell? ⟨gr, 1, none⟩ = some (.int .i64 (q : Int)) := by rw [cell_of_row _ _ _ _ _ _ hh1]; rfl
  have hr1 := r8_grown HR.out HAP.out hg1
  have HM := Lib.hid (hr1.mid p q (by omega) (by have := HB.out; omega))
  rw [show q - p = 32 by omega] at HM
  have hs0 : ∀ wx, (Instr.slice 49 (.slice a n c) (some (.int .i64 (p : Int))) (some (.int .i64 (q : Int))) none).run Tryz.prog wx = .ok (.slice (dropA a p c) (q - p) (c - p)) wx := fun wx => slice_mid (P := Tryz.prog) sl22 wx a n c p q (p : Int) (q : Int) rfl rfl (by omega) (by have := HR.out.2.1; have := HB.out; omega)
  obtain ⟨a2, ha2⟩ : ∃ a2, a2 = dropA a p c := ⟨_, rfl⟩
  obtain ⟨c2, hc2⟩ : ∃ c2, c2 = c - p := ⟨_, rfl⟩
  rw [← ha2, ← hc2] at HM
  have hsl : ∀ wx, (Instr.slice 49 (.slice a n c) (some (.int .i64 (p : Int))) (some (.int .i64 (q : Int))) none).run Tryz.prog wx = .ok (.slice a2 32 c2) wx := fun wx => by
    have := hs0 wx
    rwa [show q - p = 32 by omega, ← ha2, ← hc2] at this
  have hw3 : IntKind.i64.wrap ((q : Int) - 32) = (p : Int) := by rw [← hpq, Int.add_sub_cancel]; exact IntWalk.i64_in _ (by omega)
  have HQ := Lib.hid hq
  have HH1 := Lib.hid hh1
  have HG1 := Lib.hid hg1
  have HZ := Lib.hid (show w.heap.size ≤ w1.heap.size from hg1.size)
  clear hs0 ha2 hc2 hpq hq hh1 hg1 hr1 k0 k1 f1 hpb
  refine wp_region_held_drew (S := fun w => w.cell? ⟨gr, 0, none⟩ = some (.slice a n c) ∧ w.cell? ⟨gr, 1, none⟩ = some (.int .i64 (q : Int))) (by kernel_rfl) ⟨l0, l1⟩ (fun hHeld => ?_)
  refine wpAnyH_take (i := 0) (oi := _) (v := ?_) rfl (by kernel_rfl) (by kernel_rfl) (by kernel_rfl) (fun _ _ _ h => h) (Or.inl ⟨by rfl, ?_⟩) (by assumption) ?_
  rotate_left
  · intro w hSw
    (try dsimp only at hSw)
    go_simp
    all_goals (first | done | with_reducible rfl)
  (try simp only [Act.put, List.setIfInBounds_toArray, List.set_cons_zero, List.set_cons_succ, List.getElem_toArray, List.getElem_cons_succ, List.getElem_cons_zero])
  refine wpAnyH_take (i := 1) (oi := _) (v := ?_) rfl (by kernel_rfl) (by kernel_rfl) (by kernel_rfl) (fun _ _ _ h => h) (Or.inl ⟨by rfl, ?_⟩) (by assumption) ?_
  rotate_left
  · intro w hSw
    (try dsimp only at hSw)
    go_simp
    all_goals (first | done | with_reducible rfl)
  (try simp only [Act.put, List.setIfInBounds_toArray, List.set_cons_zero, List.set_cons_succ, List.getElem_toArray, List.getElem_cons_succ, List.getElem_cons_zero])
  refine wpAnyH_take (i := 2) (oi := _) (v := ?_) rfl (by kernel_rfl) (by kernel_rfl) (by kernel_rfl) (fun _ _ _ h => h) (Or.inl ⟨by rfl, ?_⟩) (by assumption) ?_
  rotate_left
  · intro w hSw
    (try dsimp only at hSw)
    go_simp
    all_goals (first | done | with_reducible rfl)
  (try simp only [Act.put, List.setIfInBounds_toArray, List.set_cons_zero, List.set_cons_succ, List.getElem_toArray, List.getElem_cons_succ, List.getElem_cons_zero])
  refine wpAnyH_take (i := 3) (oi := _) (v := ?_) rfl (by kernel_rfl) (by kernel_rfl) (by kernel_rfl) (fun _ _ _ h => h) (Or.inl ⟨by rfl, ?_⟩) (by assumption) ?_
  rotate_left
  · intro w hSw
    (try dsimp only at hSw)
    go_simp
    all_goals (first | done | with_reducible rfl)
  (try simp only [Act.put, List.setIfInBounds_toArray, List.set_cons_zero, List.set_cons_succ, List.getElem_toArray, List.getElem_cons_succ, List.getElem_cons_zero])
  refine wpAnyH_take (i := 4) (oi := _) (v := ?_) rfl (by kernel_rfl) (by kernel_rfl) (by kernel_rfl) (fun _ _ _ h => h) (Or.inl ⟨by rfl, ?_⟩) (by assumption) ?_
  rotate_left
  · intro w hSw
    (try dsimp only at hSw)
    go_simp
    all_goals (first | done | with_reducible rfl)
  (try simp only [Act.put, List.setIfInBounds_toArray, List.set_cons_zero, List.set_cons_succ, List.getElem_toArray, List.getElem_cons_succ, List.getElem_cons_zero])
  refine wpAnyH_take (i := 5) (oi := _) (v := ?_) rfl (by kernel_rfl) (by kernel_rfl) (by kernel_rfl) (fun _ _ _ h => h) (Or.inl ⟨by rfl, ?_⟩) (by assumption) ?_
  rotate_left
  · intro w hSw
    (try dsimp only at hSw)
    go_simp
    all_goals (first | done | with_reducible rfl)
  (try simp only [Act.put, List.setIfInBounds_toArray, List.set_cons_zero, List.set_cons_succ, List.getElem_toArray, List.getElem_cons_succ, List.getElem_cons_zero])
  refine wpAnyH_take (i := 6) (oi := _) (v := ?_) rfl (by kernel_rfl) (by kernel_rfl) (by kernel_rfl) (fun _ _ _ h => h) (Or.inl ⟨by rfl, ?_⟩) (by assumption) ?_
  rotate_left
  · intro w hSw
    (try dsimp only at hSw)
    go_simp
    all_goals (first | done | with_reducible rfl)
  (try simp only [Act.put, List.setIfInBounds_toArray, List.set_cons_zero, List.set_cons_succ, List.getElem_toArray, List.getElem_cons_succ, List.getElem_cons_zero])
  refine wpAnyH_take (i := 7) (oi := _) (v := ?_) rfl (by kernel_rfl) (by kernel_rfl) (by kernel_rfl) (fun _ _ _ h => h) (Or.inl ⟨by rfl, ?_⟩) (by assumption) ?_
  rotate_left
  · intro w hSw
    (try dsimp only at hSw)
    go_simp
    all_goals (first | done | with_reducible rfl)
  (try simp only [Act.put, List.setIfInBounds_toArray, List.set_cons_zero, List.set_cons_succ, List.getElem_toArray, List.getElem_cons_succ, List.getElem_cons_zero])
  refine wpAnyH_take (i := 8) (oi := _) (v := ?_) rfl (by kernel_rfl) (by kernel_rfl) (by kernel_rfl) (fun _ _ _ h => h) (Or.inl ⟨by rfl, ?_⟩) (by assumption) ?_
  rotate_left
  · intro w hSw
    (try dsimp only at hSw)
    go_simp
    all_goals (first | done | with_reducible rfl)
  (try simp only [Act.put, List.setIfInBounds_toArray, List.set_cons_zero, List.set_cons_succ, List.getElem_toArray, List.getElem_cons_succ, List.getElem_cons_zero])
  refine wpAnyH_take (i := 9) (oi := _) (v := ?_) rfl (by kernel_rfl) (by kernel_rfl) (by kernel_rfl) (fun _ _ _ h => h) (Or.inl ⟨by rfl, ?_⟩) (by assumption) ?_
  rotate_left
  · intro w hSw
    (try dsimp only at hSw)
    go_simp
    all_goals (first | done | with_reducible rfl)
  (try simp only [Act.put, List.setIfInBounds_toArray, List.set_cons_zero, List.set_cons_succ, List.getElem_toArray, List.getElem_cons_succ, List.getElem_cons_zero])
  refine wpAnyH_take (i := 10) (oi := _) (v := ?_) rfl (by kernel_rfl) (by kernel_rfl) (by kernel_rfl) (fun _ _ _ h => h) (Or.inl ⟨by rfl, ?_⟩) (by assumption) ?_
  rotate_left
  · intro w hSw
    (try dsimp only at hSw)
    go_simp
    all_goals (first | done | with_reducible rfl)
  (try simp only [Act.put, List.setIfInBounds_toArray, List.set_cons_zero, List.set_cons_succ, List.getElem_toArray, List.getElem_cons_succ, List.getElem_cons_zero])
  refine wpAnyH_take (i := 11) (oi := _) (v := ?_) rfl (by kernel_rfl) (by kernel_rfl) (by kernel_rfl) (fun _ _ _ h => h) (Or.inl ⟨by rfl, ?_⟩) (by assumption) ?_
  rotate_left
  · intro w hSw
    (try dsimp only at hSw)
    go_simp
    all_goals (first | done | with_reducible rfl)
  (try simp only [Act.put, List.setIfInBounds_toArray, List.set_cons_zero, List.set_cons_succ, List.getElem_toArray, List.getElem_cons_succ, List.getElem_cons_zero])
  refine wpAnyH_take (i := 12) (oi := _) (v := ?_) rfl (by kernel_rfl) (by kernel_rfl) (by kernel_rfl) (fun _ _ _ h => h) (Or.inl ⟨by rfl, ?_⟩) (by assumption) ?_
  rotate_left
  · intro w hSw
    (try dsimp only at hSw)
    go_simp
    all_goals (first | done | with_reducible rfl)
  (try simp only [Act.put, List.setIfInBounds_toArray, List.set_cons_zero, List.set_cons_succ, List.getElem_toArray, List.getElem_cons_succ, List.getElem_cons_zero])
  refine wpAnyH_take (i := 13) (oi := _) (v := ?_) rfl (by kernel_rfl) (by kernel_rfl) (by kernel_rfl) (fun _ _ _ h => h) (Or.inl ⟨by rfl, ?_⟩) (by assumption) ?_
  rotate_left
  · intro w hSw
    (try dsimp only at hSw)
    go_simp
    all_goals (first | done | with_reducible rfl)
  (try simp only [Act.put, List.setIfInBounds_toArray, List.set_cons_zero, List.set_cons_succ, List.getElem_toArray, List.getElem_cons_succ, List.getElem_cons_zero])
  refine wpAnyH_take (i := 14) (oi := _) (v := ?_) rfl (by kernel_rfl) (by kernel_rfl) (by kernel_rfl) (fun _ _ _ h => h) (Or.inl ⟨by rfl, ?_⟩) (by assumption) ?_
  rotate_left
  · intro w hSw
    (try dsimp only at hSw)
    go_simp
    all_goals (first | done | with_reducible rfl)
  (try simp only [Act.put, List.setIfInBounds_toArray, List.set_cons_zero, List.set_cons_succ, List.getElem_toArray, List.getElem_cons_succ, List.getElem_cons_zero])
  refine wpAnyH_ready (rs := [15]) (by kernel_rfl) (by simp) ?_
  refine AllReadyH.cons (o := _) rfl (fun K hK => ?_) AllReadyH.nil
  refine S_append8 rfl (.const (.slice none 0 0)) (.tmp 50) 49 (by rfl) sl22 w1.drew.heap.size (.slice none 0 0) 0 [] (by rfl) (World.ownsRow_nil _ _ _ _) a2 32 c2 ((l.drop p).take 32) (by rfl) (show R8 w1.drew a2 32 c2 ((l.drop p).take 32) from HM.out) (by omega) (by simp [maxLen]) (Nat.le_refl _) (fun a3 c3 w3 ho3 hg3 hat3 => ?_)
  have hb3 : Below w1.heap.size w1 w3 := ((Below.refl w1.heap.size w1).drew).grown hg3 (Nat.le_refl _) (by intro k hk; cases hk)
  have m0 := keepR hb3 l0
  have m1 := keepR hb3 l1
  have HO3 := Lib.hid ho3
  have HB3 := Lib.hid hb3
  clear hg3 hat3 ho3 hb3 hsl hw3
  refine hK.out _ _ ⟨m0, m1⟩ (fun hHeld => ?_)
  clear hK K
  (try simp only [Act.put, List.setIfInBounds_toArray, List.set_cons_zero, List.set_cons_succ, List.getElem_toArray, List.getElem_cons_succ, List.getElem_cons_zero])
  refine wpAnyH_take (i := 16) (oi := _) (v := ?_) rfl (by kernel_rfl) (by kernel_rfl) (by kernel_rfl) (fun _ _ _ h => h) (Or.inl ⟨by rfl, ?_⟩) (by assumption) ?_
  rotate_left
  · intro w hSw
    (try dsimp only at hSw)
    go_simp
    all_goals (first | done | with_reducible rfl)
  (try simp only [Act.put, List.setIfInBounds_toArray, List.set_cons_zero, List.set_cons_succ, List.getElem_toArray, List.getElem_cons_succ, List.getElem_cons_zero])
  refine wpAnyH_done (by kernel_rfl) ?_ _
  go_wp2_with fail
  go_ret
  have ho := HO3.out
  simp only [Nat.zero_add, List.nil_append] at ho ⊢
  have hd : w1.drew.heap.size = w1.heap.size := rfl
  refine ⟨a3, c3, rfl, R8.of_owns ho (by omega), ?_, ?_, fun x hx => ?_⟩
  · have h2 : RdX w1 gr a n c l q := ⟨HH1.out, r8_grown HR.out HAP.out HG1.out, HAP.out, HB.out.2⟩
    rw [← HQ.out]
    exact h2.below HB3.out
  · exact grown_trans HG1.out ⟨HB3.out.os, HB3.out.tape, HB3.out.output, HB3.out.size, fun k hk _ => HB3.out.block k hk⟩
  · have h0 := ho.2
    rcases h0 with ⟨hv, -⟩ | ⟨g, cap, cur, hv, hb0, -⟩
    · have := (Value.slice.inj hv).1; rw [hx] at this; cases this
    · have := (Value.slice.inj hv).1; rw [hx] at this; cases this; have := HZ.out; have h9 : w1.heap.size ≤ g := hb0; show w.heap.size ≤ g; omega
end Go.Proofs.YtoboabkaojfbaaaGreatDoor
namespace Go.Proofs.YtoboabkaojfbaaaGreatDoor
open Go Go.RowKit
set_option maxRecDepth 100000
set_option maxHeartbeats 1000000
set_option linter.unusedVariables false
set_option linter.unusedSimpArgs false

theorem splice_all {α : Type} (cur x : List α) (h : x.length = cur.length) : splice cur 0 x = x := by
  unfold splice
  rw [List.take_zero, List.nil_append, Nat.zero_add, h, List.drop_length, List.append_nil]
set_option maxHeartbeats 4000000
/-- Digest. -/
theorem digest_any (w : World) (gr : Nat) (a : Option Addr) (n c : Nat) (l : List UInt8) (p : Nat) (h : RdX w gr a n c l p) (hp : p + 32 ≤ l.length) :
    Calls Tryz.prog 104 #[.pointer (some ⟨gr, 0, none⟩)] w fun e w' => e = .returned (.agg (dgA ((l.drop p).take 32))) ∧ RdX w' gr a n c l (p + 32) ∧ w.grownBy w' (some gr) := by
  have HH := Lib.hid h
  have hgl := h.lt
  have HP := Lib.hid hp
  obtain ⟨E, hE⟩ : ∃ E, E = dgA ((l.drop p).take 32) := ⟨_, rfl⟩
  have hdl : ((l.drop p).take 32).length = 32 := by rw [List.length_take, List.length_drop]; omega
  have HDL := Lib.hid hdl
  have HE := Lib.hid hE
  have HES := Lib.hid (show E.size = 32 by rw [hE, dgA_size, hdl])
  have HE1 := Lib.hid (show E.all (·.oneCell') = true by rw [hE]; exact dgA_all _)
  clear hE h hp hdl
  go_enter Tryz.func104, Tryz.ntmps104
  go_upto_region 2 with (fail)
  obtain ⟨o1, ho1⟩ : ∃ o1 : Obj, o1 = .cells #[.int .u8 0, .int .u8 0, .int .u8 0, .int .u8 0, .int .u8 0, .int .u8 0, .int .u8 0, .int .u8 0, .int .u8 0, .int .u8 0, .int .u8 0, .int .u8 0, .int .u8 0, .int .u8 0, .int .u8 0, .int .u8 0, .int .u8 0, .int .u8 0, .int .u8 0, .int .u8 0, .int .u8 0, .int .u8 0, .int .u8 0, .int .u8 0, .int .u8 0, .int .u8 0, .int .u8 0, .int .u8 0, .int .u8 0, .int .u8 0, .int .u8 0, .int .u8 0] 23 := ⟨_, rfl⟩
  rw [← ho1]
  have hb1 : Below w.heap.size w ((w.alloc o1).alloc o1) := ((Below.refl _ _).alloc (Nat.le_refl _) _).alloc (by simp) _
  have hg1 : ((w.alloc o1).alloc o1).heap[w.heap.size]? = some o1 := heap_alloc2_old w _ _
  have hg3 : ((w.alloc o1).alloc o1).heap[w.heap.size + 1]? = some o1 := heap_alloc2_new w _ _
  have hz1 : ((w.alloc o1).alloc o1).heap.size = w.heap.size + 2 := by simp
  generalize (w.alloc o1).alloc o1 = w1 at *
  obtain ⟨rb, hrb⟩ : ∃ rb, rb = w.heap.size := ⟨_, rfl⟩
  obtain ⟨g3, hg3e⟩ : ∃ g3, g3 = w.heap.size + 1 := ⟨_, rfl⟩
  rw [← hg3e] at hg3
  rw [← hrb] at hg1
  rw [← hg3e, ← hrb]
  have HB1 := Lib.hid hb1; have HG1 := Lib.hid hg1; have HZ1 := Lib.hid hz1; have HOO := Lib.hid ho1; have HG3 := Lib.hid hg3
  have HRR := Lib.hid (show rb = w.heap.size ∧ g3 = w.heap.size + 1 from ⟨hrb, hg3e⟩)
  have HRW := Lib.hid (raw32_any w1.drew gr a n c l p (show RdX w1 gr a n c l p from HH.out.below HB1.out) HP.out)
  clear hb1 hg1 hz1 ho1 hg3 hrb hg3e
  refine wp_region_held_drew (S := fun _ => True) (by kernel_rfl) trivial (fun hHeld => ?_)
  refine wpAnyH_take (i := 0) (oi := _) (v := ?_) rfl (by kernel_rfl) (by kernel_rfl) (by kernel_rfl) (fun _ _ _ h => h) (Or.inl ⟨by rfl, ?_⟩) (by assumption) ?_
  rotate_left
  · intro w hSw
    (try dsimp only at hSw)
    go_simp
    all_goals (first | done | with_reducible rfl)
  (try simp only [Act.put, List.setIfInBounds_toArray, List.set_cons_zero, List.set_cons_succ, List.getElem_toArray, List.getElem_cons_succ, List.getElem_cons_zero])
  refine wpAnyH_take (i := 1) (oi := _) (v := ?_) rfl (by kernel_rfl) (by kernel_rfl) (by kernel_rfl) (fun _ _ _ h => h) (Or.inl ⟨by rfl, ?_⟩) (by assumption) ?_
  rotate_left
  · intro w hSw
    (try dsimp only at hSw)
    go_simp
    all_goals (first | done | with_reducible rfl)
  (try simp only [Act.put, List.setIfInBounds_toArray, List.set_cons_zero, List.set_cons_succ, List.getElem_toArray, List.getElem_cons_succ, List.getElem_cons_zero])
  refine wpAnyH_ready (rs := [2]) (by kernel_rfl) (by simp) ?_
  refine AllReadyH.cons (o := _) rfl (fun K hK => ?_) AllReadyH.nil
  go_simp
  refine HRW.out.mono ?_
  rintro e w4 ⟨a2, c2, rfl, hr4, hrd4, hg4, hfar⟩
  have hg4 : w1.grownBy w4 (some gr) := ⟨hg4.os, hg4.tape, hg4.output, hg4.size, hg4.block⟩
  obtain ⟨q1, q2⟩ := HRR.out
  have h43 : w4.heap[g3]? = some (.cells (List.replicate 32 (b8 0)).toArray 23 (0, 0)) := by
    rw [hg4.block g3 (by have := HZ1.out; omega) (fun e => by have := Option.some.inj e; omega), HG3.out, HOO.out]; rfl
  have HG4 := Lib.hid hg4; have HR4 := Lib.hid hr4; have HRD4 := Lib.hid hrd4; have H43 := Lib.hid h43
  have HFAR := Lib.hid hfar
  clear hg4 hr4 hrd4 hfar h43 q1 q2
  refine hK.out _ _ trivial (fun hHeld => ?_)
  clear hK K
  (try simp only [Act.put, List.setIfInBounds_toArray, List.set_cons_zero, List.set_cons_succ, List.getElem_toArray, List.getElem_cons_succ, List.getElem_cons_zero])
  refine wpAnyH_ready (rs := [3]) (by kernel_rfl) (by simp) ?_
  refine AllReadyH.cons (o := _) rfl (fun K hK => ?_) AllReadyH.nil
  refine S_copyIn rfl (.tmp 4) (.tmp 6) 49 49 (by rfl) sl22 g3 0 32 32 (by rfl) (List.replicate 32 (b8 0)) 23 H43.out (by simp) a2 32 c2 ((l.drop p).take 32) (by rfl) HR4.out (fun w5 hb5 hg5 => ?_)
  rw [List.take_of_length_le (by rw [HDL.out]; exact Nat.le_refl _), splice_all _ _ (by rw [List.length_map, HDL.out, List.length_replicate])] at hb5
  have hE5 : w5.heap[g3]? = some (.cells E 23 (0, 0)) := by rw [HE.out]; exact hb5
  have HE5 := Lib.hid hE5; have HG5 := Lib.hid hg5
  clear hb5 hg5 hE5
  refine hK.out _ _ trivial (fun hHeld => ?_)
  clear hK K
  (try simp only [Act.put, List.setIfInBounds_toArray, List.set_cons_zero, List.set_cons_succ, List.getElem_toArray, List.getElem_cons_succ, List.getElem_cons_zero])
  refine wpAnyH_done (by kernel_rfl) ?_ _
  have ho5 : w5.heap[rb]? = some o1 := by
    obtain ⟨q1, q2⟩ := HRR.out
    rw [HG5.out.block rb (by have := HG4.out.size; have := HZ1.out; omega) (fun e => by have := Option.some.inj e; omega), HG4.out.block rb (by have := HZ1.out; omega) (fun e => by have := Option.some.inj e; omega)]
    exact HG1.out
  have HO := Lib.hid ho5
  clear ho5
  have hO := HO.out
  rw [HOO.out] at hO
  have HTH := Lib.hid (there_block hO)
  have HGF := Lib.hid (setCells_all hO E.toList (by rw [Array.length_toList, HES.out]; rfl))
  clear hO
  go_upto_region 3 with (fail)
  refine wp_region_lit ?_
  refine wpList_load_row rfl 23 (.tmp 3) (by rfl) g3 (by rfl) 23 E (0, 0) _ HE5.out Tryz.underlying23 rfl (by rw [HES.out]; exact info38) ?_
  refine wpList_store_mid rfl 23 (.tmp 2) (.tmp 8) (by rfl) rb 0 E (by rfl) (by rfl) (by rw [HES.out]; exact HTH.out) (by rw [HES.out]; exact info38) HE1.out ?_
  have HGS := Lib.hid (setCells_grown rb E.toList 0 w5)
  generalize w5.setCells rb 0 E.toList = w9 at *
  have HGF9 := Lib.hid (show w9.heap[rb]? = some (.cells E 23 (0, 0)) by have := HGF.out; simpa using this)
  clear HTH HGF
  go_wp2_with fail
  refine bodyPost_ret (v := .agg E) (results_cell_row (p := 2) (ty := 23) rfl _ _ rb 23 E (0, 0) _ rfl HGF9.out Tryz.underlying23 rfl (by rw [HES.out]; exact info38)) rfl ⟨by rw [HE.out], ?_, ?_⟩
  · obtain ⟨q1, q2⟩ := HRR.out
    have hs4 := HG4.out.size
    have hs5 := HG5.out.size
    have hz := HZ1.out
    refine HH.out.grown (p := p) (q := p + 32) ⟨HGS.out.os.trans (HG5.out.os.trans (HG4.out.os.trans HB1.out.os)), HGS.out.tape.trans (HG5.out.tape.trans (HG4.out.tape.trans HB1.out.tape)), HGS.out.output.trans (HG5.out.output.trans (HG4.out.output.trans HB1.out.output)), by have := HGS.out.size; omega, fun k hk hne => ?_⟩ ?_
    · exact (HGS.out.block k (by omega) (fun e => by have := Option.some.inj e; omega)).trans ((HG5.out.block k (by omega) (fun e => by have := Option.some.inj e; omega)).trans ((HG4.out.block k (by omega) hne).trans (HB1.out.block k hk)))
    · exact (HGS.out.block gr (by omega) (fun e => by have := Option.some.inj e; omega)).trans ((HG5.out.block gr (by omega) (fun e => by have := Option.some.inj e; omega)).trans HRD4.out.1)
  · obtain ⟨q1, q2⟩ := HRR.out
    have hs4 := HG4.out.size
    have hs5 := HG5.out.size
    have hz := HZ1.out
    exact ⟨HGS.out.os.trans (HG5.out.os.trans (HG4.out.os.trans HB1.out.os)), HGS.out.tape.trans (HG5.out.tape.trans (HG4.out.tape.trans HB1.out.tape)), HGS.out.output.trans (HG5.out.output.trans (HG4.out.output.trans HB1.out.output)), by have := HGS.out.size; omega, fun k hk hne => (HGS.out.block k (by omega) (fun e => by have := Option.some.inj e; omega)).trans ((HG5.out.block k (by omega) (fun e => by have := Option.some.inj e; omega)).trans ((HG4.out.block k (by omega) hne).trans (HB1.out.block k hk)))⟩
end Go.Proofs.YtoboabkaojfbaaaGreatDoor
