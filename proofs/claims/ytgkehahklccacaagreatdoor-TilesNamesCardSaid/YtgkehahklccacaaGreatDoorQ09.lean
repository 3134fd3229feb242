import Derived.Test.YtgkehahklccacaaGreatDoorQ08
import Derived.Laws.CopyOwn
import Derived.Deep.RegionHeld3
import Derived.IntWalk
import Derived.BigGuardPart
import Derived.BigQuiet
import Derived.Deep.QuietTactic
import Derived.Deep.MidRow
import Derived.Shelf.Small.Bits
import Derived.Test.YtgkehahklccacaaGreatDoorProg
namespace Go.Proofs.YtgkehahklccacaaGreatDoor
open Go Go.RowKit
set_option maxRecDepth 100000
set_option maxHeartbeats 1000000
set_option linter.unusedVariables false
set_option linter.unusedSimpArgs false

theorem keepR {w3 w4 : World} (hb : Below w3.heap.size w3 w4) {b o : Nat} {v : Value} (h : w3.cell? ⟨b, o, none⟩ = some v) : w4.cell? ⟨b, o, none⟩ = some v :=
  (World.cell?_of_block (hb.block b (World.block_lt_of_cell? w3 _ h))).trans h
/-- A reader, its row told. -/
def RdX (w : World) (gr : Nat) (a : Option Addr) (n c : Nat) (l : List UInt8) (p : Nat) : Prop := w.heap[gr]? = some (.cells #[.slice a n c, .int .i64 (p : Int), .int .i64 0] 319 (0, 0)) ∧ R8 w a n c l ∧ (∀ x, a = some x → 0 < n → gr ≠ x.block) ∧ n ≤ 1000000000000
theorem RdX.rd {w : World} {gr p : Nat} {a : Option Addr} {n c : Nat} {l : List UInt8} (h : RdX w gr a n c l p) : RdAt w gr l p := ⟨a, n, c, h⟩
theorem RdX.lt {w : World} {gr p : Nat} {a : Option Addr} {n c : Nat} {l : List UInt8} (h : RdX w gr a n c l p) : gr < w.heap.size := (Array.getElem?_eq_some_iff.1 h.1).1
theorem RdX.grown {w w' : World} {gr p q : Nat} {a : Option Addr} {n c : Nat} {l : List UInt8} (h : RdX w gr a n c l p) (hg : w.grownBy w' (some gr)) (hh : w'.heap[gr]? = some (.cells #[.slice a n c, .int .i64 (q : Int), .int .i64 0] 319 (0, 0))) : RdX w' gr a n c l q :=
  ⟨hh, r8_grown h.2.1 h.2.2.1 hg, h.2.2.1, h.2.2.2⟩
theorem RdX.below {w w' : World} {gr p : Nat} {a : Option Addr} {n c : Nat} {l : List UInt8} (h : RdX w gr a n c l p) (hb : Below w.heap.size w w') : RdX w' gr a n c l p :=
  ⟨(hb.block gr h.lt).trans h.1, h.2.1.below hb, h.2.2.1, h.2.2.2⟩
set_option maxHeartbeats 4000000
/-- Raw: 32 bytes. -/
theorem raw32_any (w : World) (gr : Nat) (a : Option Addr) (n c : Nat) (l : List UInt8) (p : Nat) (h : RdX w gr a n c l p) (hp : p + 32 ≤ l.length) :
    Calls Tryz.prog 252 #[.pointer (some ⟨gr, 0, none⟩), .int .i64 32] w fun e w' => ∃ a2 c2, e = .returned (.slice a2 32 c2) ∧ R8 w' a2 32 c2 ((l.drop p).take 32) ∧ RdX w' gr a n c l (p + 32) ∧ w.grownBy w' (some gr) ∧ (∀ x, a2 = some x → w.heap.size ≤ x.block) := by
  have HH := Lib.hid h
  obtain ⟨hh, hr, hap, hn⟩ := h
  have hnl := hr.1
  have k0 : w.cell? ⟨gr, 0, none⟩ = some (.slice a n c) := by rw [cell_of_row _ _ _ _ _ _ hh]; rfl
  have k1 : w.cell? ⟨gr, 1, none⟩ = some (.int .i64 (p : Int)) := by rw [cell_of_row _ _ _ _ _ _ hh]; rfl
  have k2 : w.cell? ⟨gr, 2, none⟩ = some (.int .i64 0) := by rw [cell_of_row _ _ _ _ _ _ hh]; rfl
  have f1 := frozen_of_row w gr 1 _ _ hh
  have hgl := (Array.getElem?_eq_some_iff.1 hh).1
  have hw1 : IntKind.i64.wrap ((n : Int) - (p : Int)) = (n : Int) - (p : Int) := IntWalk.i64_in _ (by omega)
  have hgt : decide ((n : Int) - (p : Int) < 32) = false := by simp; omega
  have HR := Lib.hid hr
  have HAP := Lib.hid hap
  have HB := Lib.hid (show p + 32 ≤ n ∧ n ≤ 1000000000000 from ⟨by omega, hn⟩)
  have hw2 : IntKind.i64.wrap ((p : Int) + 32) = (p : Int) + 32 := IntWalk.i64_in _ (by omega)
  have HHH := Lib.hid hh
  clear hr hap hh hnl hn hp
  go_enter Tryz.func252, Tryz.ntmps252
  go_upto_region 3 with (fail)
  go_quiet (fail)
  clear hw1 hgt k2 hw2
  have hpb : p ≤ 1000000000000 := by have := HB.out; omega
  go_upto_region 7 with (fail)
  obtain ⟨q, hq⟩ : ∃ q, q = p + 32 := ⟨_, rfl⟩
  have hpq : (p : Int) + 32 = (q : Int) := by omega
  rw [hpq]
  have hh1 := heap_setCell_same (w.drewN nq) gr 1 _ _ (.int .i64 (q : Int)) HHH.out
  have hg1 : w.grownBy ((w.drewN nq).setCell ⟨gr, 1, none⟩ (.int .i64 (q : Int))) (some gr) := grown_set (grown_refl w (some gr)) nq 1 _
  generalize (w.drewN nq).setCell ⟨gr, 1, none⟩ (.int .i64 (q : Int)) = w1 at *
  have hh1 : w1.heap[gr]? = some (.cells #[.slice a n c, .int .i64 (q : Int), .int .i64 0] 319 (0, 0)) := by simpa using hh1
  have l0 : w1.cell? ⟨gr, 0, none⟩ = some (.slice a n c) := by rw [cell_of_row _ _ _ _ _ _ hh1]; rfl
  have l1 : w1.cell? ⟨gr, 1, none⟩ = some (.int .i64 (q : Int)) := by rw [cell_of_row _ _ _ _ _ _ hh1]; rfl
  have hr1 := r8_grown HR.out HAP.out hg1
  have HM := Lib.hid (hr1.mid p q (by omega) (by have := HB.out; omega))
  rw [show q - p = 32 by omega] at HM
  have hs0 : ∀ wx, (Instr.slice 53 (.slice a n c) (some (.int .i64 (p : Int))) (some (.int .i64 (q : Int))) none).run Tryz.prog wx = .ok (.slice (dropA a p c) (q - p) (c - p)) wx := fun wx => slice_mid (P := Tryz.prog) sl22 wx a n c p q (p : Int) (q : Int) rfl rfl (by omega) (by have := HR.out.2.1; have := HB.out; omega)
  obtain ⟨a2, ha2⟩ : ∃ a2, a2 = dropA a p c := ⟨_, rfl⟩
  obtain ⟨c2, hc2⟩ : ∃ c2, c2 = c - p := ⟨_, rfl⟩
  rw [← ha2, ← hc2] at HM
  have hsl : ∀ wx, (Instr.slice 53 (.slice a n c) (some (.int .i64 (p : Int))) (some (.int .i64 (q : Int))) none).run Tryz.prog wx = .ok (.slice a2 32 c2) wx := fun wx => by
    have := hs0 wx
    rwa [show q - p = 32 by omega, ← ha2, ← hc2] at this
  have hw3 : IntKind.i64.wrap ((q : Int) - 32) = (p : Int) := by rw [← hpq, Int.add_sub_cancel]; exact IntWalk.i64_in _ (by omega)
  have HQ := Lib.hid hq
  have HH1 := Lib.hid hh1
  have HG1 := Lib.hid hg1
  have HZ := Lib.hid (show w.heap.size ≤ w1.heap.size from hg1.size)
  clear hs0 ha2 hc2 hpq hq hh1 hg1 hr1 k0 k1 f1 hpb
  refine wp_region_held_drew (S := fun w => w.cell? ⟨gr, 0, none⟩ = some (.slice a n c) ∧ w.cell? ⟨gr, 1, none⟩ = some (.int .i64 (q : Int))) (by kernel_rfl) ⟨l0, l1⟩ (fun hHeld => ?_)
  refine wpAnyH_take (i := 0) (oi := _) (v := ?_) rfl (by kernel_rfl) (by kernel_rfl) (by kernel_rfl) (fun _ _ _ h => h) (Or.inl ⟨by rfl, ?_⟩) (by assumption) ?_
  rotate_left
  · intro w hSw
    (try dsimp only at hSw)
    go_simp
    all_goals (first | done | with_reducible rfl)
  (try simp only [Act.put, List.setIfInBounds_toArray, List.set_cons_zero, List.set_cons_succ, List.getElem_toArray, List.getElem_cons_succ, List.getElem_cons_zero])
  refine wpAnyH_take (i := 1) (oi := _) (v := ?_) rfl (by kernel_rfl) (by kernel_rfl) (by kernel_rfl) (fun _ _ _ h => h) (Or.inl ⟨by rfl, ?_⟩) (by assumption) ?_
  rotate_left
  · intro w hSw
    (try dsimp only at hSw)
    go_simp
    all_goals (first | done | with_reducible rfl)
  (try simp only [Act.put, List.setIfInBounds_toArray, List.set_cons_zero, List.set_cons_succ, List.getElem_toArray, List.getElem_cons_succ, List.getElem_cons_zero])
  refine wpAnyH_take (i := 2) (oi := _) (v := ?_) rfl (by kernel_rfl) (by kernel_rfl) (by kernel_rfl) (fun _ _ _ h => h) (Or.inl ⟨by rfl, ?_⟩) (by assumption) ?_
  rotate_left
  · intro w hSw
    (try dsimp only at hSw)
    go_simp
    all_goals (first | done | with_reducible rfl)
  (try simp only [Act.put, List.setIfInBounds_toArray, List.set_cons_zero, List.set_cons_succ, List.getElem_toArray, List.getElem_cons_succ, List.getElem_cons_zero])
  refine wpAnyH_take (i := 3) (oi := _) (v := ?_) rfl (by kernel_rfl) (by kernel_rfl) (by kernel_rfl) (fun _ _ _ h => h) (Or.inl ⟨by rfl, ?_⟩) (by assumption) ?_
  rotate_left
  · intro w hSw
    (try dsimp only at hSw)
    go_simp
    all_goals (first | done | with_reducible rfl)
  (try simp only [Act.put, List.setIfInBounds_toArray, List.set_cons_zero, List.set_cons_succ, List.getElem_toArray, List.getElem_cons_succ, List.getElem_cons_zero])
  refine wpAnyH_take (i := 4) (oi := _) (v := ?_) rfl (by kernel_rfl) (by kernel_rfl) (by kernel_rfl) (fun _ _ _ h => h) (Or.inl ⟨by rfl, ?_⟩) (by assumption) ?_
  rotate_left
  · intro w hSw
    (try dsimp only at hSw)
    go_simp
    all_goals (first | done | with_reducible rfl)
  (try simp only [Act.put, List.setIfInBounds_toArray, List.set_cons_zero, List.set_cons_succ, List.getElem_toArray, List.getElem_cons_succ, List.getElem_cons_zero])
  refine wpAnyH_take (i := 5) (oi := _) (v := ?_) rfl (by kernel_rfl) (by kernel_rfl) (by kernel_rfl) (fun _ _ _ h => h) (Or.inl ⟨by rfl, ?_⟩) (by assumption) ?_
  rotate_left
  · intro w hSw
    (try dsimp only at hSw)
    go_simp
    all_goals (first | done | with_reducible rfl)
  (try simp only [Act.put, List.setIfInBounds_toArray, List.set_cons_zero, List.set_cons_succ, List.getElem_toArray, List.getElem_cons_succ, List.getElem_cons_zero])
  refine wpAnyH_take (i := 6) (oi := _) (v := ?_) rfl (by kernel_rfl) (by kernel_rfl) (by kernel_rfl) (fun _ _ _ h => h) (Or.inl ⟨by rfl, ?_⟩) (by assumption) ?_
  rotate_left
  · intro w hSw
    (try dsimp only at hSw)
    go_simp
    all_goals (first | done | with_reducible rfl)
  (try simp only [Act.put, List.setIfInBounds_toArray, List.set_cons_zero, List.set_cons_succ, List.getElem_toArray, List.getElem_cons_succ, List.getElem_cons_zero])
  refine wpAnyH_take (i := 7) (oi := _) (v := ?_) rfl (by kernel_rfl) (by kernel_rfl) (by kernel_rfl) (fun _ _ _ h => h) (Or.inl ⟨by rfl, ?_⟩) (by assumption) ?_
  rotate_left
  · intro w hSw
    (try dsimp only at hSw)
    go_simp
    all_goals (first | done | with_reducible rfl)
  (try simp only [Act.put, List.setIfInBounds_toArray, List.set_cons_zero, List.set_cons_succ, List.getElem_toArray, List.getElem_cons_succ, List.getElem_cons_zero])
  refine wpAnyH_take (i := 8) (oi := _) (v := ?_) rfl (by kernel_rfl) (by kernel_rfl) (by kernel_rfl) (fun _ _ _ h => h) (Or.inl ⟨by rfl, ?_⟩) (by assumption) ?_
  rotate_left
  · intro w hSw
    (try dsimp only at hSw)
    go_simp
    all_goals (first | done | with_reducible rfl)
  (try simp only [Act.put, List.setIfInBounds_toArray, List.set_cons_zero, List.set_cons_succ, List.getElem_toArray, List.getElem_cons_succ, List.getElem_cons_zero])
  refine wpAnyH_take (i := 9) (oi := _) (v := ?_) rfl (by kernel_rfl) (by kernel_rfl) (by kernel_rfl) (fun _ _ _ h => h) (Or.inl ⟨by rfl, ?_⟩) (by assumption) ?_
  rotate_left
  · intro w hSw
    (try dsimp only at hSw)
    go_simp
    all_goals (first | done | with_reducible rfl)
  (try simp only [Act.put, List.setIfInBounds_toArray, List.set_cons_zero, List.set_cons_succ, List.getElem_toArray, List.getElem_cons_succ, List.getElem_cons_zero])
  refine wpAnyH_take (i := 10) (oi := _) (v := ?_) rfl (by kernel_rfl) (by kernel_rfl) (by kernel_rfl) (fun _ _ _ h => h) (Or.inl ⟨by rfl, ?_⟩) (by assumption) ?_
  rotate_left
  · intro w hSw
    (try dsimp only at hSw)
    go_simp
    all_goals (first | done | with_reducible rfl)
  (try simp only [Act.put, List.setIfInBounds_toArray, List.set_cons_zero, List.set_cons_succ, List.getElem_toArray, List.getElem_cons_succ, List.getElem_cons_zero])
  refine wpAnyH_take (i := 11) (oi := _) (v := ?_) rfl (by kernel_rfl) (by kernel_rfl) (by kernel_rfl) (fun _ _ _ h => h) (Or.inl ⟨by rfl, ?_⟩) (by assumption) ?_
  rotate_left
  · intro w hSw
    (try dsimp only at hSw)
    go_simp
    all_goals (first | done | with_reducible rfl)
  (try simp only [Act.put, List.setIfInBounds_toArray, List.set_cons_zero, List.set_cons_succ, List.getElem_toArray, List.getElem_cons_succ, List.getElem_cons_zero])
  refine wpAnyH_take (i := 12) (oi := _) (v := ?_) rfl (by kernel_rfl) (by kernel_rfl) (by kernel_rfl) (fun _ _ _ h => h) (Or.inl ⟨by rfl, ?_⟩) (by assumption) ?_
  rotate_left
  · intro w hSw
    (try dsimp only at hSw)
    go_simp
    all_goals (first | done | with_reducible rfl)
  (try simp only [Act.put, List.setIfInBounds_toArray, List.set_cons_zero, List.set_cons_succ, List.getElem_toArray, List.getElem_cons_succ, List.getElem_cons_zero])
  refine wpAnyH_take (i := 13) (oi := _) (v := ?_) rfl (by kernel_rfl) (by kernel_rfl) (by kernel_rfl) (fun _ _ _ h => h) (Or.inl ⟨by rfl, ?_⟩) (by assumption) ?_
  rotate_left
  · intro w hSw
    (try dsimp only at hSw)
    go_simp
    all_goals (first | done | with_reducible rfl)
  (try simp only [Act.put, List.setIfInBounds_toArray, List.set_cons_zero, List.set_cons_succ, List.getElem_toArray, List.getElem_cons_succ, List.getElem_cons_zero])
  refine wpAnyH_take (i := 14) (oi := _) (v := ?_) rfl (by kernel_rfl) (by kernel_rfl) (by kernel_rfl) (fun _ _ _ h => h) (Or.inl ⟨by rfl, ?_⟩) (by assumption) ?_
  rotate_left
  · intro w hSw
    (try dsimp only at hSw)
    go_simp
    all_goals (first | done | with_reducible rfl)
  (try simp only [Act.put, List.setIfInBounds_toArray, List.set_cons_zero, List.set_cons_succ, List.getElem_toArray, List.getElem_cons_succ, List.getElem_cons_zero])
  refine wpAnyH_ready (rs := [15]) (by kernel_rfl) (by simp) ?_
  refine AllReadyH.cons (o := _) rfl (fun K hK => ?_) AllReadyH.nil
  refine S_append8 rfl (.const (.slice none 0 0)) (.tmp 50) 53 (by rfl) sl22 w1.drew.heap.size (.slice none 0 0) 0 [] (by rfl) (World.ownsRow_nil _ _ _ _) a2 32 c2 ((l.drop p).take 32) (by rfl) (show R8 w1.drew a2 32 c2 ((l.drop p).take 32) from HM.out) (by omega) (by simp [maxLen]) (Nat.le_refl _) (fun a3 c3 w3 ho3 hg3 hat3 => ?_)
  have hb3 : Below w1.heap.size w1 w3 := ((Below.refl w1.heap.size w1).drew).grown hg3 (Nat.le_refl _) (by intro k hk; cases hk)
  have m0 := keepR hb3 l0
  have m1 := keepR hb3 l1
  have HO3 := Lib.hid ho3
  have HB3 := Lib.hid hb3
  clear hg3 hat3 ho3 hb3 hsl hw3
  refine hK.out _ _ ⟨m0, m1⟩ (fun hHeld => ?_)
  clear hK K
  (try simp only [Act.put, List.setIfInBounds_toArray, List.set_cons_zero, List.set_cons_succ, List.getElem_toArray, List.getElem_cons_succ, List.getElem_cons_zero])
  refine wpAnyH_take (i := 16) (oi := _) (v := ?_) rfl (by kernel_rfl) (by kernel_rfl) (by kernel_rfl) (fun _ _ _ h => h) (Or.inl ⟨by rfl, ?_⟩) (by assumption) ?_
  rotate_left
  · intro w hSw
    (try dsimp only at hSw)
    go_simp
    all_goals (first | done | with_reducible rfl)
  (try simp only [Act.put, List.setIfInBounds_toArray, List.set_cons_zero, List.set_cons_succ, List.getElem_toArray, List.getElem_cons_succ, List.getElem_cons_zero])
  refine wpAnyH_done (by kernel_rfl) ?_ _
  go_wp2_with fail
  go_ret
  have ho := HO3.out
  simp only [Nat.zero_add, List.nil_append] at ho ⊢
  have hd : w1.drew.heap.size = w1.heap.size := rfl
  refine ⟨a3, c3, rfl, R8.of_owns ho (by omega), ?_, ?_, fun x hx => ?_⟩
  · have h2 : RdX w1 gr a n c l q := ⟨HH1.out, r8_grown HR.out HAP.out HG1.out, HAP.out, HB.out.2⟩
    rw [← HQ.out]
    exact h2.below HB3.out
  · exact grown_trans HG1.out ⟨HB3.out.os, HB3.out.tape, HB3.out.output, HB3.out.size, fun k hk _ => HB3.out.block k hk⟩
  · have h0 := ho.2
    rcases h0 with ⟨hv, -⟩ | ⟨g, cap, cur, hv, hb0, -⟩
    · have := (Value.slice.inj hv).1; rw [hx] at this; cases this
    · have := (Value.slice.inj hv).1; rw [hx] at this; cases this; have := HZ.out; have h9 : w1.heap.size ≤ g := hb0; show w.heap.size ≤ g; omega
end Go.Proofs.YtgkehahklccacaaGreatDoor
namespace Go.Proofs.YtgkehahklccacaaGreatDoor
open Go Go.RowKit
set_option maxRecDepth 100000
set_option maxHeartbeats 1000000
set_option linter.unusedVariables false
set_option linter.unusedSimpArgs false

theorem splice_all {α : Type} (cur x : List α) (h : x.length = cur.length) : splice cur 0 x = x := by
  unfold splice
  rw [List.take_zero, List.nil_append, Nat.zero_add, h, List.drop_length, List.append_nil]
set_option maxHeartbeats 4000000
/-- Digest. -/
theorem digest_any (w : World) (gr : Nat) (a : Option Addr) (n c : Nat) (l : List UInt8) (p : Nat) (h : RdX w gr a n c l p) (hp : p + 32 ≤ l.length) :
    Calls Tryz.prog 224 #[.pointer (some ⟨gr, 0, none⟩)] w fun e w' => e = .returned (.agg (dgA ((l.drop p).take 32))) ∧ RdX w' gr a n c l (p + 32) ∧ w.grownBy w' (some gr) := by
  have HH := Lib.hid h
  have hgl := h.lt
  have HP := Lib.hid hp
  obtain ⟨E, hE⟩ : ∃ E, E = dgA ((l.drop p).take 32) := ⟨_, rfl⟩
  have hdl : ((l.drop p).take 32).length = 32 := by rw [List.length_take, List.length_drop]; omega
  have HDL := Lib.hid hdl
  have HE := Lib.hid hE
  have HES := Lib.hid (show E.size = 32 by rw [hE, dgA_size, hdl])
  have HE1 := Lib.hid (show E.all (·.oneCell') = true by rw [hE]; exact dgA_all _)
  clear hE h hp hdl
  go_enter Tryz.func224, Tryz.ntmps224
  go_upto_region 2 with (fail)
  obtain ⟨o1, ho1⟩ : ∃ o1 : Obj, o1 = .cells #[.int .u8 0, .int .u8 0, .int .u8 0, .int .u8 0, .int .u8 0, .int .u8 0, .int .u8 0, .int .u8 0, .int .u8 0, .int .u8 0, .int .u8 0, .int .u8 0, .int .u8 0, .int .u8 0, .int .u8 0, .int .u8 0, .int .u8 0, .int .u8 0, .int .u8 0, .int .u8 0, .int .u8 0, .int .u8 0, .int .u8 0, .int .u8 0, .int .u8 0, .int .u8 0, .int .u8 0, .int .u8 0, .int .u8 0, .int .u8 0, .int .u8 0, .int .u8 0] 38 := ⟨_, rfl⟩
  rw [← ho1]
  have hb1 : Below w.heap.size w ((w.alloc o1).alloc o1) := ((Below.refl _ _).alloc (Nat.le_refl _) _).alloc (by simp) _
  have hg1 : ((w.alloc o1).alloc o1).heap[w.heap.size]? = some o1 := heap_alloc2_old w _ _
  have hg3 : ((w.alloc o1).alloc o1).heap[w.heap.size + 1]? = some o1 := heap_alloc2_new w _ _
  have hz1 : ((w.alloc o1).alloc o1).heap.size = w.heap.size + 2 := by simp
  generalize (w.alloc o1).alloc o1 = w1 at *
  obtain ⟨rb, hrb⟩ : ∃ rb, rb = w.heap.size := ⟨_, rfl⟩
  obtain ⟨g3, hg3e⟩ : ∃ g3, g3 = w.heap.size + 1 := ⟨_, rfl⟩
  rw [← hg3e] at hg3
  rw [← hrb] at hg1
  rw [← hg3e, ← hrb]
  have HB1 := Lib.hid hb1; have HG1 := Lib.hid hg1; have HZ1 := Lib.hid hz1; have HOO := Lib.hid ho1; have HG3 := Lib.hid hg3
  have HRR := Lib.hid (show rb = w.heap.size ∧ g3 = w.heap.size + 1 from ⟨hrb, hg3e⟩)
  have HRW := Lib.hid (raw32_any w1.drew gr a n c l p (show RdX w1 gr a n c l p from HH.out.below HB1.out) HP.out)
  clear hb1 hg1 hz1 ho1 hg3 hrb hg3e
  refine wp_region_held_drew (S := fun _ => True) (by kernel_rfl) trivial (fun hHeld => ?_)
  refine wpAnyH_take (i := 0) (oi := _) (v := ?_) rfl (by kernel_rfl) (by kernel_rfl) (by kernel_rfl) (fun _ _ _ h => h) (Or.inl ⟨by rfl, ?_⟩) (by assumption) ?_
  rotate_left
  · intro w hSw
    (try dsimp only at hSw)
    go_simp
    all_goals (first | done | with_reducible rfl)
  (try simp only [Act.put, List.setIfInBounds_toArray, List.set_cons_zero, List.set_cons_succ, List.getElem_toArray, List.getElem_cons_succ, List.getElem_cons_zero])
  refine wpAnyH_take (i := 1) (oi := _) (v := ?_) rfl (by kernel_rfl) (by kernel_rfl) (by kernel_rfl) (fun _ _ _ h => h) (Or.inl ⟨by rfl, ?_⟩) (by assumption) ?_
  rotate_left
  · intro w hSw
    (try dsimp only at hSw)
    go_simp
    all_goals (first | done | with_reducible rfl)
  (try simp only [Act.put, List.setIfInBounds_toArray, List.set_cons_zero, List.set_cons_succ, List.getElem_toArray, List.getElem_cons_succ, List.getElem_cons_zero])
  refine wpAnyH_ready (rs := [2]) (by kernel_rfl) (by simp) ?_
  refine AllReadyH.cons (o := _) rfl (fun K hK => ?_) AllReadyH.nil
  go_simp
  refine HRW.out.mono ?_
  rintro e w4 ⟨a2, c2, rfl, hr4, hrd4, hg4, hfar⟩
  have hg4 : w1.grownBy w4 (some gr) := ⟨hg4.os, hg4.tape, hg4.output, hg4.size, hg4.block⟩
  obtain ⟨q1, q2⟩ := HRR.out
  have h43 : w4.heap[g3]? = some (.cells (List.replicate 32 (b8 0)).toArray 38 (0, 0)) := by
    rw [hg4.block g3 (by have := HZ1.out; omega) (fun e => by have := Option.some.inj e; omega), HG3.out, HOO.out]; rfl
  have HG4 := Lib.hid hg4; have HR4 := Lib.hid hr4; have HRD4 := Lib.hid hrd4; have H43 := Lib.hid h43
  have HFAR := Lib.hid hfar
  clear hg4 hr4 hrd4 hfar h43 q1 q2
  refine hK.out _ _ trivial (fun hHeld => ?_)
  clear hK K
  (try simp only [Act.put, List.setIfInBounds_toArray, List.set_cons_zero, List.set_cons_succ, List.getElem_toArray, List.getElem_cons_succ, List.getElem_cons_zero])
  refine wpAnyH_ready (rs := [3]) (by kernel_rfl) (by simp) ?_
  refine AllReadyH.cons (o := _) rfl (fun K hK => ?_) AllReadyH.nil
  refine S_copyIn rfl (.tmp 4) (.tmp 6) 53 53 (by rfl) sl22 g3 0 32 32 (by rfl) (List.replicate 32 (b8 0)) 38 H43.out (by simp) a2 32 c2 ((l.drop p).take 32) (by rfl) HR4.out (fun w5 hb5 hg5 => ?_)
  rw [List.take_of_length_le (by rw [HDL.out]; exact Nat.le_refl _), splice_all _ _ (by rw [List.length_map, HDL.out, List.length_replicate])] at hb5
  have hE5 : w5.heap[g3]? = some (.cells E 38 (0, 0)) := by rw [HE.out]; exact hb5
  have HE5 := Lib.hid hE5; have HG5 := Lib.hid hg5
  clear hb5 hg5 hE5
  refine hK.out _ _ trivial (fun hHeld => ?_)
  clear hK K
  (try simp only [Act.put, List.setIfInBounds_toArray, List.set_cons_zero, List.set_cons_succ, List.getElem_toArray, List.getElem_cons_succ, List.getElem_cons_zero])
  refine wpAnyH_done (by kernel_rfl) ?_ _
  have ho5 : w5.heap[rb]? = some o1 := by
    obtain ⟨q1, q2⟩ := HRR.out
    rw [HG5.out.block rb (by have := HG4.out.size; have := HZ1.out; omega) (fun e => by have := Option.some.inj e; omega), HG4.out.block rb (by have := HZ1.out; omega) (fun e => by have := Option.some.inj e; omega)]
    exact HG1.out
  have HO := Lib.hid ho5
  clear ho5
  have hO := HO.out
  rw [HOO.out] at hO
  have HTH := Lib.hid (there_block hO)
  have HGF := Lib.hid (setCells_all hO E.toList (by rw [Array.length_toList, HES.out]; rfl))
  clear hO
  go_upto_region 3 with (fail)
  refine wp_region_lit ?_
  refine wpList_load_row rfl 38 (.tmp 3) (by rfl) g3 (by rfl) 38 E (0, 0) _ HE5.out Tryz.underlying38 rfl (by rw [HES.out]; exact info38) ?_
  refine wpList_store_mid rfl 38 (.tmp 2) (.tmp 8) (by rfl) rb 0 E (by rfl) (by rfl) (by rw [HES.out]; exact HTH.out) (by rw [HES.out]; exact info38) HE1.out ?_
  have HGS := Lib.hid (setCells_grown rb E.toList 0 w5)
  generalize w5.setCells rb 0 E.toList = w9 at *
  have HGF9 := Lib.hid (show w9.heap[rb]? = some (.cells E 38 (0, 0)) by have := HGF.out; simpa using this)
  clear HTH HGF
  go_wp2_with fail
  refine bodyPost_ret (v := .agg E) (results_cell_row (p := 2) (ty := 38) rfl _ _ rb 38 E (0, 0) _ rfl HGF9.out Tryz.underlying38 rfl (by rw [HES.out]; exact info38)) rfl ⟨by rw [HE.out], ?_, ?_⟩
  · obtain ⟨q1, q2⟩ := HRR.out
    have hs4 := HG4.out.size
    have hs5 := HG5.out.size
    have hz := HZ1.out
    refine HH.out.grown (p := p) (q := p + 32) ⟨HGS.out.os.trans (HG5.out.os.trans (HG4.out.os.trans HB1.out.os)), HGS.out.tape.trans (HG5.out.tape.trans (HG4.out.tape.trans HB1.out.tape)), HGS.out.output.trans (HG5.out.output.trans (HG4.out.output.trans HB1.out.output)), by have := HGS.out.size; omega, fun k hk hne => ?_⟩ ?_
    · exact (HGS.out.block k (by omega) (fun e => by have := Option.some.inj e; omega)).trans ((HG5.out.block k (by omega) (fun e => by have := Option.some.inj e; omega)).trans ((HG4.out.block k (by omega) hne).trans (HB1.out.block k hk)))
    · exact (HGS.out.block gr (by omega) (fun e => by have := Option.some.inj e; omega)).trans ((HG5.out.block gr (by omega) (fun e => by have := Option.some.inj e; omega)).trans HRD4.out.1)
  · obtain ⟨q1, q2⟩ := HRR.out
    have hs4 := HG4.out.size
    have hs5 := HG5.out.size
    have hz := HZ1.out
    exact ⟨HGS.out.os.trans (HG5.out.os.trans (HG4.out.os.trans HB1.out.os)), HGS.out.tape.trans (HG5.out.tape.trans (HG4.out.tape.trans HB1.out.tape)), HGS.out.output.trans (HG5.out.output.trans (HG4.out.output.trans HB1.out.output)), by have := HGS.out.size; omega, fun k hk hne => (HGS.out.block k (by omega) (fun e => by have := Option.some.inj e; omega)).trans ((HG5.out.block k (by omega) (fun e => by have := Option.some.inj e; omega)).trans ((HG4.out.block k (by omega) hne).trans (HB1.out.block k hk)))⟩
end Go.Proofs.YtgkehahklccacaaGreatDoor
namespace Go.Proofs.YtgkehahklccacaaGreatDoor
open Go Go.RowKit
set_option maxRecDepth 100000
set_option maxHeartbeats 1000000
set_option linter.unusedVariables false
set_option linter.unusedSimpArgs false

set_option maxHeartbeats 4000000
theorem left_any (w : World) (gr : Nat) (a : Option Addr) (n c : Nat) (l : List UInt8) (p : Nat) (h : RdX w gr a n c l p) (hp : p ≤ l.length) :
    Calls Tryz.prog 226 #[.pointer (some ⟨gr, 0, none⟩)] w fun e w' => e = .returned (.int .i64 ((l.length : Int) - (p : Int))) ∧ ∃ k, w' = w.drewN k := by
  obtain ⟨hh, hr, hap, hn⟩ := h
  have hnl := hr.1
  have k0 : w.cell? ⟨gr, 0, none⟩ = some (.slice a n c) := by rw [cell_of_row _ _ _ _ _ _ hh]; rfl
  have k1 : w.cell? ⟨gr, 1, none⟩ = some (.int .i64 (p : Int)) := by rw [cell_of_row _ _ _ _ _ _ hh]; rfl
  have hw1 : IntKind.i64.wrap ((n : Int) - (p : Int)) = (n : Int) - (p : Int) := IntWalk.i64_in _ (by omega)
  have HNL := Lib.hid hnl
  clear hr hap hh hnl hn hp
  go_enter Tryz.func226, Tryz.ntmps226
  go_wp2_with fail
  go_quiet (fail)
  go_wp2_with fail
  go_ret
  exact ⟨by rw [HNL.out]; rfl, _, rfl⟩
theorem done_any (w : World) (gr : Nat) (a : Option Addr) (n c : Nat) (l : List UInt8) (h : RdX w gr a n c l l.length) :
    Calls Tryz.prog 177 #[.pointer (some ⟨gr, 0, none⟩)] w fun e w' => e = .returned (.int .i64 0) ∧ ∃ k, w' = w.drewN k := by
  have HL := Lib.hid (left_any w gr a n c l l.length h (Nat.le_refl _))
  obtain ⟨hh, hr, hap, hn⟩ := h
  have k2 : w.cell? ⟨gr, 2, none⟩ = some (.int .i64 0) := by rw [cell_of_row _ _ _ _ _ _ hh]; rfl
  clear hr hap hh hn
  go_enter Tryz.func177, Tryz.ntmps177
  go_wp2_with (go_at_call 226; ((with_reducible refine HL.out.mono ?_); rintro e w' ⟨rfl, nn, rfl⟩))
  go_ret
  exact ⟨rfl, _, rfl⟩
def dgOf (x : List UInt8) : Dg := ⟨(x ++ List.replicate 32 0).take 32, by simp⟩
theorem dgOf_eq (x : List UInt8) (h : x.length = 32) : (dgOf x).1 = x := by
  show (x ++ _).take 32 = x
  rw [List.take_append_of_le_length (by omega), List.take_of_length_le (by omega)]
def dsOf (l : List UInt8) (p n : Nat) : List Dg := (List.range n).map fun i => dgOf ((l.drop (p + 32 * i)).take 32)
theorem dsOf_len (l : List UInt8) (p n : Nat) : (dsOf l p n).length = n := by simp [dsOf]
theorem dsOf_take (l : List UInt8) (p n k : Nat) (h : k < n) : (dsOf l p n).take (k + 1) = (dsOf l p n).take k ++ [dgOf ((l.drop (p + 32 * k)).take 32)] := by
  rw [List.take_add_one]
  congr 1
  unfold dsOf
  rw [List.getElem?_map, List.getElem?_range h]; rfl
theorem sl23 : Sl Tryz.prog 23 38 (.agg #[.int .u8 0, .int .u8 0, .int .u8 0, .int .u8 0, .int .u8 0, .int .u8 0, .int .u8 0, .int .u8 0, .int .u8 0, .int .u8 0, .int .u8 0, .int .u8 0, .int .u8 0, .int .u8 0, .int .u8 0, .int .u8 0, .int .u8 0, .int .u8 0, .int .u8 0, .int .u8 0, .int .u8 0, .int .u8 0, .int .u8 0, .int .u8 0, .int .u8 0, .int .u8 0, .int .u8 0, .int .u8 0, .int .u8 0, .int .u8 0, .int .u8 0, .int .u8 0]) 32 32 := ⟨Tryz.underlying23, by kernel_rfl, rfl, by decide⟩
theorem flatE_len : ∀ ds : List Dg, (ds.flatMap dgE).length = ds.length * 32 := fun ds => flat_len dgE 32 dgE_len ds
set_option maxHeartbeats 8000000
theorem digests_any (w : World) (gr : Nat) (a : Option Addr) (n c : Nat) (l : List UInt8) (p : Nat) (h : RdX w gr a n c l p) (hp : p + 8192 ≤ l.length) :
    Calls Tryz.prog 175 #[.pointer (some ⟨gr, 0, none⟩), .int .i64 256] w fun e w' => ∃ gl, e = .returned (.slice (some ⟨gl, 0, none⟩) 256 256) ∧ w.heap.size ≤ gl ∧ DS w' (some ⟨gl, 0, none⟩) 256 256 (dsOf l p 256) ∧ RdX w' gr a n c l (p + 8192) ∧ w.grownBy w' (some gr) := by
  have HH := Lib.hid h
  have hgl := h.lt
  obtain ⟨hh, hr, hap, hn⟩ := h
  have hnl := hr.1
  have k0 : w.cell? ⟨gr, 0, none⟩ = some (.slice a n c) := by rw [cell_of_row _ _ _ _ _ _ hh]; rfl
  have k1 : w.cell? ⟨gr, 1, none⟩ = some (.int .i64 (p : Int)) := by rw [cell_of_row _ _ _ _ _ _ hh]; rfl
  have k2 : w.cell? ⟨gr, 2, none⟩ = some (.int .i64 0) := by rw [cell_of_row _ _ _ _ _ _ hh]; rfl
  have HP := Lib.hid (show p + 8192 ≤ l.length ∧ l.length = n ∧ n ≤ 1000000000000 from ⟨hp, hnl.symm ▸ rfl, hn⟩)
  clear hr hap hh hnl hn hp
  go_enter Tryz.func175, Tryz.ntmps175
  go_upto_region 4 with (fail)
  obtain ⟨o1, ho1⟩ : ∃ o1 : Obj, o1 = .cells #[.int .u8 0, .int .u8 0, .int .u8 0, .int .u8 0, .int .u8 0, .int .u8 0, .int .u8 0, .int .u8 0, .int .u8 0, .int .u8 0, .int .u8 0, .int .u8 0, .int .u8 0, .int .u8 0, .int .u8 0, .int .u8 0, .int .u8 0, .int .u8 0, .int .u8 0, .int .u8 0, .int .u8 0, .int .u8 0, .int .u8 0, .int .u8 0, .int .u8 0, .int .u8 0, .int .u8 0, .int .u8 0, .int .u8 0, .int .u8 0, .int .u8 0, .int .u8 0] 38 := ⟨_, rfl⟩
  rw [← ho1]
  have hb1 : Below w.heap.size w (w.alloc o1) := (Below.refl _ _).alloc (Nat.le_refl _) _
  have l0 := keepR hb1 k0
  have l1 := keepR hb1 k1
  generalize w.alloc o1 = w1 at *
  have hw1 : IntKind.i64.wrap ((n : Int) - (p : Int)) = (n : Int) - (p : Int) := IntWalk.i64_in _ (by have := HP.out; omega)
  obtain ⟨t, ht⟩ : ∃ t : Nat, t = (n - p) / 32 := ⟨_, rfl⟩
  have htd : ((n : Int) - (p : Int)).tdiv 32 = (t : Int) := by
    have := HP.out
    rw [show (n : Int) - (p : Int) = ((n - p : Nat) : Int) by omega, ht]
    rfl
  have htd2 : ((n : Int) - (p : Int)) / 32 = (t : Int) := by have := HP.out; omega
  have hgt : decide ((t : Int) < 256) = false := by have := HP.out; simp; omega
  have htb : t ≤ 1000000000000 := by have := HP.out; omega
  have hwt : IntKind.i64.wrap (t : Int) = (t : Int) := IntWalk.i64_in _ (by omega)
  have HB1 := Lib.hid hb1
  clear ht k0 k1 k2 hb1 ho1
  go_quiet (fail)
  have HB2 := Lib.hid (below_drewN HB1.out nq)
  clear l0 l1 hw1 htd htd2 hgt hwt htb
  generalize w1.drewN nq = w2 at *
  go_upto_region 8 with (refine L_make rfl (.tmp 32) (.tmp 32) 23 (by rfl) sl23 w2.heap.size .i64 .i64 256 256 (by rfl) (by rfl) rfl (by omega) (by unfold maxLen; omega) (Nat.le_refl _) (fun w3 ho3 hg3 => ?_))
  obtain ⟨gl, hgle⟩ : ∃ gl, gl = w2.heap.size := ⟨_, rfl⟩
  rw [← hgle] at ho3 ⊢
  obtain ⟨-, hx⟩ := ho3
  have hcur : ∃ rst : List Value, rst.length = 32 * (256 - 0) ∧ w3.heap[gl]? = some (.cells (((dsOf l p 256).take 0).flatMap dgE ++ rst).toArray 38 (0, 0)) := by
    rcases hx with ⟨hv, -⟩ | ⟨g, cap, cur, hv, -, hc, -, -, hs, -⟩
    · cases hv
    · have := Value.slice.inj hv
      have e1 := this.1
      have e3 := this.2.2
      cases e1
      subst e3
      exact ⟨cur.toList, by simpa using hs, by simpa using hc⟩
  have hb3 : Below w.heap.size w w3 := HB2.out.grown hg3 HB2.out.size (by intro k hk; cases hk)
  have hgw : w.heap.size ≤ gl := by rw [hgle]; exact HB2.out.size
  have HRX := Lib.hid (HH.out.below hb3)
  have HG3 := Lib.hid (show w.grownBy w3 (some gr) from ⟨hb3.os, hb3.tape, hb3.output, hb3.size, fun k hk _ => hb3.block k hk⟩)
  have HCUR := Lib.hid hcur
  have HGW := Lib.hid hgw
  clear hx hcur hb3 hgle hgw hg3
  go_wp2_with fail
  go_loopw [36, 7] (fun v _ wr => ∃ k : Nat, k ≤ 256 ∧ v = .int .i64 k ∧ (∃ rst : List Value, rst.length = 32 * (256 - k) ∧ wr.heap[gl]? = some (.cells (((dsOf l p 256).take k).flatMap dgE ++ rst).toArray 38 (0, 0))) ∧ RdX wr gr a n c l (p + 32 * k) ∧ w.grownBy wr (some gr)) (fun v _ _ => 256 - (intOf v).toNat)
  case atStart => exact ⟨0, by omega, rfl, HCUR.out, HRX.out, HG3.out⟩
  case round =>
    obtain ⟨k, hk, rfl, hcur, hrx, hg⟩ := hrel
    have HG := Lib.hid hg
    have HC := Lib.hid hcur
    have HRD := Lib.hid hrx
    by_cases hlt : k < 256
    · have HDA := Lib.hid (digest_any wr gr a n c l (p + 32 * k) hrx (by have := HP.out; omega))
      have HLT := Lib.hid hlt
      have h9 : decide ((k : Int) < 256) = true := by simp; omega
      clear hk hcur hrx hg hlt
      have hk7 : k ≤ 255 := by have := HLT.out; omega
      go_upto_region 11 with (fail)
      clear h9
      go_wp2_with fail
      with_reducible refine HDA.out.mono ?_
      rintro e w4 ⟨rfl, hrx4, hg4⟩
      obtain ⟨rst, hrl, hcc⟩ := HC.out
      have hgl4 : w4.heap[gl]? = some (.cells (((dsOf l p 256).take k).flatMap dgE ++ rst).toArray 38 (0, 0)) := (hg4.block gl ((Array.getElem?_eq_some_iff.1 hcc).1) (fun e => by have := Option.some.inj e; have := HGW.out; omega)).trans hcc
      obtain ⟨E, hE⟩ : ∃ E, E = dgA ((l.drop (p + 32 * k)).take 32) := ⟨_, rfl⟩
      have hdl : ((l.drop (p + 32 * k)).take 32).length = 32 := by rw [List.length_take, List.length_drop]; have := HP.out; have := HLT.out; omega
      have HES := Lib.hid (show E.size = 32 by rw [hE, dgA_size, hdl])
      have HE1 := Lib.hid (show E.all (·.oneCell') = true by rw [hE]; exact dgA_all _)
      have hpl : (((dsOf l p 256).take k).flatMap dgE).length = k * 32 := by rw [flatE_len, List.length_take, dsOf_len, Nat.min_eq_left (by have := HLT.out; omega)]
      have hsw := setCells_whole gl E.toList _ _ w4 38 hgl4 (by rw [Array.length_toList, HES.out, hrl]; have := HLT.out; omega)
      rw [hpl] at hsw
      have HTH := Lib.hid (show w4.there gl (k * 32) E.size from fun j hj => by
        have h0 := there_block hgl4
        have := h0 (k * 32 + j) (by rw [List.size_toArray, List.length_append, hpl, hrl]; have := HLT.out; have := HES.out; omega)
        rwa [Nat.zero_add] at this)
      have HSW := Lib.hid hsw
      have hgs := setCells_grown gl E.toList (k * 32) w4
      have HGS := Lib.hid hgs
      have HE := Lib.hid hE
      have HRX4 := Lib.hid hrx4; have HG4 := Lib.hid hg4; have HRL := Lib.hid hrl; have HDL := Lib.hid hdl
      have HGL4 := Lib.hid (Array.getElem?_eq_some_iff.1 hgl4).1
      rw [← hE]
      clear hrx4 hg4 hcc hgl4 hE hpl hsw hgs hrl hdl
      go_wp2_with (refine wpList_store_mid rfl 38 (.tmp 43) (.tmp 42) (by rfl) gl (k * 32) E (by rfl) (by rfl) HTH.out (by rw [HES.out]; exact info38) HE1.out ?_)
      have hG4 := grown_trans HG.out HG4.out
      have hgle := HGW.out
      have hgk : w.grownBy (w4.setCells gl (k * 32) E.toList) (some gr) := ⟨HGS.out.os.trans hG4.os, HGS.out.tape.trans hG4.tape, HGS.out.output.trans hG4.output, Nat.le_trans hG4.size HGS.out.size, fun i hi hne => (HGS.out.block i (Nat.lt_of_lt_of_le hi hG4.size) (fun e => by have := Option.some.inj e; omega)).trans (hG4.block i hi hne)⟩
      have hrx5 : RdX (w4.setCells gl (k * 32) E.toList) gr a n c l (p + 32 * (k + 1)) := HH.out.grown hgk ((HGS.out.block gr (Nat.lt_of_lt_of_le hgl hG4.size) (fun e => by have := Option.some.inj e; omega)).trans (by rw [show p + 32 * (k + 1) = p + 32 * k + 32 by omega]; exact HRX4.out.1))
      have hcc5 : ∃ rst' : List Value, rst'.length = 32 * (256 - (k + 1)) ∧ (w4.setCells gl (k * 32) E.toList).heap[gl]? = some (.cells (((dsOf l p 256).take (k + 1)).flatMap dgE ++ rst').toArray 38 (0, 0)) := by
        refine ⟨rst.drop 32, by rw [List.length_drop, HRL.out]; have := HLT.out; omega, ?_⟩
        rw [HSW.out, dsOf_take l p 256 k HLT.out, List.flatMap_append, Array.length_toList, HES.out]
        have : E.toList = [dgOf ((l.drop (p + 32 * k)).take 32)].flatMap dgE := by
          rw [HE.out]
          simp [dgA, dgE, dgOf_eq _ HDL.out]
        rw [this]
      have HA := Lib.hid hgk; have HB := Lib.hid hrx5; have HC5 := Lib.hid hcc5
      clear hG4 hgle hgk hrx5 hcc5
      go_roundw
      case rel => exact ⟨k + 1, by have := HLT.out; omega, by go_num, HC5.out, HB.out, HA.out⟩
      case measure => have := HLT.out; simp [intOf]; omega
    · obtain rfl : k = 256 := by omega
      have h9 : decide (((256 : Nat) : Int) < 256) = false := by decide
      obtain ⟨rst, hrl, hcc⟩ := hcur
      have hnil : rst = [] := List.eq_nil_of_length_eq_zero (by rw [hrl])
      rw [hnil, List.append_nil, List.take_of_length_le (by rw [dsOf_len]; exact Nat.le_refl _)] at hcc
      have HDS := Lib.hid (show DS wr (some ⟨gl, 0, none⟩) 256 256 (dsOf l p 256) from ⟨dsOf_len _ _ _, Nat.le_refl _, by omega, fun i x hx => ⟨gl, 0, rfl, fun j v hv => by
        rw [cell_of_row _ _ _ _ _ _ hcc, Nat.zero_add, List.getElem?_toArray]
        exact flat_get dgE 32 dgE_len _ i x hx j v hv⟩⟩)
      clear hlt hk hcc hrl hnil hrx hg HC
      go_wp2_with fail
      go_ret
      exact ⟨gl, rfl, HGW.out, HDS.out, HRD.out, HG.out⟩
end Go.Proofs.YtgkehahklccacaaGreatDoor
namespace Go.Proofs
open Go.Shelf
def Tryz.lays125_ren : Go.Shelf.Ren := ⟨fun | 125 => 112 | 128 => 181 | 129 => 182 | n => n, fun | 46 => 86 | 3 => 3 | 51 => 255 | 53 => 173 | 4 => 4 | 5 => 5 | 9 => 9 | n => n, fun | n => n⟩
theorem Tryz.lays125 : Go.Proofs.Lays.n125 Tryz.prog Tryz.lays125_ren := {
  mixed := by kernel_rfl
  f125 := Tryz.func112.trans (congrArg some (by kernel_rfl))
  f128 := Tryz.func181.trans (congrArg some (by kernel_rfl))
  f129 := Tryz.func182.trans (congrArg some (by kernel_rfl))
  t3 := Tryz.underlying3
  a3 := Tryz.isAgg3
  z3 := Tryz.sizeOf3
  v3 := Tryz.zeroValue3
  t4 := Tryz.underlying4
  a4 := Tryz.isAgg4
  z4 := Tryz.sizeOf4
  v4 := Tryz.zeroValue4
  t5 := Tryz.underlying5
  a5 := Tryz.isAgg5
  z5 := Tryz.sizeOf5
  v5 := Tryz.zeroValue5
  t9 := Tryz.underlying9
  a9 := Tryz.isAgg9
  z9 := Tryz.sizeOf9
  v9 := Tryz.zeroValue9
  t46 := Tryz.underlying86
  a46 := Tryz.isAgg86
  z46 := Tryz.sizeOf86
  v46 := Tryz.zeroValue86
  t51 := Tryz.underlying255
  a51 := Tryz.isAgg255
  z51 := Tryz.sizeOf255
  v51 := Tryz.zeroValue255
  t53 := Tryz.underlying173
  a53 := Tryz.isAgg173
  z53 := Tryz.sizeOf173
  v53 := Tryz.zeroValue173 }
end Go.Proofs
namespace Go.Proofs.YtgkehahklccacaaGreatDoor
open Go Go.RowKit
set_option maxRecDepth 100000
set_option maxHeartbeats 1000000
set_option linter.unusedVariables false
set_option linter.unusedSimpArgs false

theorem bitAux_lt : ∀ (f x : Nat), x < 2 ^ f → x < 2 ^ Lib.bitLenAux f x
  | 0, x, h => by simpa [Lib.bitLenAux] using h
  | f + 1, x, h => by
    unfold Lib.bitLenAux
    split
    · omega
    · have := bitAux_lt f (x / 2) (by rw [Nat.pow_succ] at h; omega)
      rw [Nat.add_comm, Nat.pow_succ]; omega
theorem bitAux_le : ∀ (f x : Nat), x < 2 ^ f → 0 < x → 0 < Lib.bitLenAux f x ∧ 2 ^ (Lib.bitLenAux f x - 1) ≤ x
  | 0, x, h, h0 => by simp at h; omega
  | f + 1, x, h, h0 => by
    unfold Lib.bitLenAux
    rw [if_neg (by omega)]
    refine ⟨by omega, ?_⟩
    rw [Nat.add_sub_cancel_left]
    by_cases h1 : x / 2 = 0
    · rw [h1]
      have : Lib.bitLenAux f 0 = 0 := by cases f <;> simp [Lib.bitLenAux]
      rw [this]; simp; omega
    · obtain ⟨a, b⟩ := bitAux_le f (x / 2) (by rw [Nat.pow_succ] at h; omega) (by omega)
      have : 2 ^ Lib.bitLenAux f (x / 2) = 2 ^ (Lib.bitLenAux f (x / 2) - 1) * 2 := by rw [← Nat.pow_succ]; congr 1; omega
      omega
theorem bitAux_max : ∀ (f x : Nat), Lib.bitLenAux f x ≤ f
  | 0, x => by simp [Lib.bitLenAux]
  | f + 1, x => by
    unfold Lib.bitLenAux
    split
    · omega
    · have := bitAux_max f (x / 2); omega
/-- How many leaves stand in the left subtree. -/
def leftP (n : Nat) : Nat := 2 ^ (Lib.bitLen (n - 1) - 1)
theorem leftP_lt (n : Nat) (h : 2 ≤ n) (hn : n ≤ 9223372036854775807) : 1 ≤ leftP n ∧ leftP n < n := by
  obtain ⟨a, b⟩ := bitAux_le 64 (n - 1) (by omega) (by omega)
  unfold leftP Lib.bitLen
  exact ⟨Nat.pow_pos (by omega), by omega⟩
set_option maxHeartbeats 4000000
theorem tleft_any (w : World) (n : Nat) (h : 2 ≤ n) (hn : n ≤ 1099511627776) : Calls Tryz.prog 144 #[.int .i64 (n : Int)] w fun e w' => e = .returned (.int .i64 (leftP n : Int)) ∧ w = w' := by
  have hl : Lib.bitLen (n - 1) ≤ 64 := bitAux_max 64 _
  have hl0 : 0 < Lib.bitLen (n - 1) := (bitAux_le 64 (n - 1) (by omega) (by omega)).1
  have hll := leftP_lt n h (by omega)
  have HC := Lib.hid (Any.bits_Len Tryz.lays125 ((n : Int) - 1) w (by omega) (by omega))
  have hnn : ((n : Int) - 1).toNat = n - 1 := by omega
  rw [hnn] at HC
  obtain ⟨q, hq⟩ : ∃ q, q = Lib.bitLen (n - 1) - 1 := ⟨_, rfl⟩
  have hb : ((Lib.bitLen (n - 1) : Nat) : Int) - 1 = (q : Int) := by omega
  have hlp : leftP n = 2 ^ q := by unfold leftP; rw [hq]
  have hq40 : q ≤ 40 := by
    have h1 := (bitAux_le 64 (n - 1) (by omega) (by omega)).2
    have h2 : 2 ^ q ≤ n - 1 := by rw [hq]; exact h1
    by_cases hc : q ≤ 40
    · exact hc
    · have : 2 ^ 41 ≤ 2 ^ q := Nat.pow_le_pow_right (by omega) (by omega)
      omega
  rw [hlp]
  rw [hlp] at hll
  have hw1 : IntKind.i64.wrap (2 ^ q) = ((2 ^ q : Nat) : Int) := by
    have : (2 : Int) ^ q = ((2 ^ q : Nat) : Int) := by push_cast; rfl
    rw [this]; exact IntWalk.i64_in _ (by omega)
  have hw2 : IntKind.u64.wrap ((n : Int) - 1) = (n : Int) - 1 := by
    simp [IntKind.wrap, IntKind.bits, IntKind.signed]; omega
  clear hnn hlp hq
  obtain ⟨b, hbb⟩ : ∃ b, b = Lib.bitLen (n - 1) := ⟨_, rfl⟩
  rw [← hbb] at hb HC hl hl0
  clear hbb
  go_enter Tryz.func144, Tryz.ntmps144
  go_wp2_with (go_at_call 112; (refine HC.out.mono ?_); rintro e w' ⟨rfl, rfl⟩)
  go_ret
  exact ⟨by push_cast; rfl, rfl⟩
theorem slice_toD (wx : World) (a : Option Addr) (n c k : Nat) (hk : k ≤ c) : (Instr.slice 23 (.slice a n c) none (some (.int .i64 (k : Int))) none).run Tryz.prog wx = .ok (.slice a k c) wx := by
  obtain ⟨i, hi, hz0, hz1, hz2⟩ := info_parts sl23.inf
  have he : Tryz.prog.elem 23 = 38 := by simp [Program.elem, sl23.und]
  have h1 : Tryz.prog.underlying 23 = some (.slice (Tryz.prog.elem 23)) := by rw [he]; exact sl23.und
  have h2 : (sizeOf (Tryz.prog.elem 23)).run Tryz.prog wx = .ok 32 wx := by rw [he]; simp [sizeOf, typeInfo, hi, hz1]
  rw [run_slice_h wx 23 a n c h1 .i64 k (by omega) (by omega), h2]
  have e : a.map (·.add 0) = a := by cases a with | none => rfl | some x => cases x; simp [Addr.add]
  simp [Result.andThen, sliced, e]
def dropD (a : Option Addr) (k c : Nat) : Option Addr := if c = k then a else a.map (·.add (k * 32))
theorem slice_fromD (wx : World) (a : Option Addr) (n c k : Nat) (hk : k ≤ n) : (Instr.slice 23 (.slice a n c) (some (.int .i64 (k : Int))) none none).run Tryz.prog wx = .ok (.slice (dropD a k c) (n - k) (c - k)) wx := by
  obtain ⟨i, hi, hz0, hz1, hz2⟩ := info_parts sl23.inf
  have he : Tryz.prog.elem 23 = 38 := by simp [Program.elem, sl23.und]
  have h1 : Tryz.prog.underlying 23 = some (.slice (Tryz.prog.elem 23)) := by rw [he]; exact sl23.und
  have h2 : (sizeOf (Tryz.prog.elem 23)).run Tryz.prog wx = .ok 32 wx := by rw [he]; simp [sizeOf, typeInfo, hi, hz1]
  rw [run_slice_l wx 23 a n c h1 .i64 k (by omega) (by omega), h2]
  simp [Result.andThen, sliced, dropD]
theorem DS.take {w : World} {a : Option Addr} {n c : Nat} {ds : List Dg} (h : DS w a n c ds) (k : Nat) (hk : k ≤ n) : DS w a k c (ds.take k) := by
  obtain ⟨h1, h2, h3, h4⟩ := h
  refine ⟨by rw [List.length_take]; omega, by omega, by omega, fun i x hx => ?_⟩
  rw [List.getElem?_take] at hx
  split at hx
  · exact h4 i x hx
  · cases hx
theorem DS.drop {w : World} {a : Option Addr} {n c : Nat} {ds : List Dg} (h : DS w a n c ds) (k : Nat) (hk : k ≤ n) : DS w (dropD a k c) (n - k) (c - k) (ds.drop k) := by
  obtain ⟨h1, h2, h3, h4⟩ := h
  refine ⟨by rw [List.length_drop]; omega, by omega, by omega, fun i x hx => ?_⟩
  rw [List.getElem?_drop] at hx
  obtain ⟨b, off, e, hc⟩ := h4 (k + i) x hx
  have hlt := (List.getElem?_eq_some_iff.1 hx).1
  refine ⟨b, off + k * 32, ?_, fun j v hj => ?_⟩
  · unfold dropD
    rw [if_neg (by omega), e]
    simp [Addr.add_lit]
  · have := hc j v hj
    rwa [show off + k * 32 + i * 32 + j = off + (k + i) * 32 + j by omega]
theorem DS.below {w w' : World} {a : Option Addr} {n c : Nat} {ds : List Dg} (h : DS w a n c ds) (hb : Below w.heap.size w w') : DS w' a n c ds := RS.below h hb
def nodeD (wd : Int) (l r : Dg) : Dg := ⟨nodeP wd l.1 r.1, ofP_len _ _⟩
def nothingD (wd : Int) : Dg := ⟨cutP' wd (shaP []), by rw [cutP'_len, shaP_len]⟩
def rootF : Nat → Int → List Dg → Dg
  | 0, wd, _ => nothingD wd
  | f + 1, wd, ds => match ds with
    | [] => nothingD wd
    | [d] => d
    | d :: e :: r => nodeD wd (rootF f wd ((d :: e :: r).take (leftP (d :: e :: r).length))) (rootF f wd ((d :: e :: r).drop (leftP (d :: e :: r).length)))
/-- The root of leaves. -/
def rootP (wd : Int) (ds : List Dg) : Dg := rootF ds.length wd ds
def RootC (f : Nat) : Prop := ∀ (w : World) (wd : Int) (a : Option Addr) (n c : Nat) (ds : List Dg), -9223372036854775808 ≤ wd → wd ≤ 9223372036854775807 → DS w a n c ds → n ≤ f → n ≤ 1000000 → RoundTab w → 3 < w.heap.size →
  Calls Tryz.prog 77 #[.int .i64 wd, .slice a n c] w fun e w' => e = .returned (.agg (dgA (rootF f wd ds).1)) ∧ Below w.heap.size w w'
theorem root_0 (w : World) (wd : Int) (h0 : -9223372036854775808 ≤ wd) (h1 : wd ≤ 9223372036854775807) (a : Option Addr) (c : Nat) (ht : RoundTab w) (h3 : 3 < w.heap.size) :
    Calls Tryz.prog 77 #[.int .i64 wd, .slice a 0 c] w fun e w' => e = .returned (.agg (dgA (nothingD wd).1)) ∧ Below w.heap.size w w' := by
  have HT := Lib.hid ht
  have H01 := Lib.hid (And.intro h0 h1)
  obtain ⟨E, hE⟩ : ∃ E, E = dgA (nothingD wd).1 := ⟨_, rfl⟩
  have HE := Lib.hid hE
  have HES := Lib.hid (show E.size = 32 by rw [hE, dgA_size, (nothingD wd).2])
  have HE1 := Lib.hid (show E.all (·.oneCell') = true by rw [hE]; exact dgA_all _)
  clear ht hE h0 h1
  go_enter Tryz.func77, Tryz.ntmps77
  go_upto_region 1 with (fail)
  obtain ⟨o1, ho1⟩ : ∃ o1 : Obj, o1 = .cells #[.int .u8 0, .int .u8 0, .int .u8 0, .int .u8 0, .int .u8 0, .int .u8 0, .int .u8 0, .int .u8 0, .int .u8 0, .int .u8 0, .int .u8 0, .int .u8 0, .int .u8 0, .int .u8 0, .int .u8 0, .int .u8 0, .int .u8 0, .int .u8 0, .int .u8 0, .int .u8 0, .int .u8 0, .int .u8 0, .int .u8 0, .int .u8 0, .int .u8 0, .int .u8 0, .int .u8 0, .int .u8 0, .int .u8 0, .int .u8 0, .int .u8 0, .int .u8 0] 38 := ⟨_, rfl⟩
  rw [← ho1]
  have hb1 : Below w.heap.size w (w.alloc o1) := (Below.refl _ _).alloc (Nat.le_refl _) _
  have hg1 : (w.alloc o1).heap[w.heap.size]? = some o1 := heap_alloc_new w _
  have hz1 : (w.alloc o1).heap.size = w.heap.size + 1 := by simp
  generalize w.alloc o1 = w1 at *
  obtain ⟨rb, hrb⟩ : ∃ rb, rb = w.heap.size := ⟨_, rfl⟩
  rw [← hrb] at hg1 hz1 ⊢
  have HB1 := Lib.hid hb1; have HG1 := Lib.hid hg1; have HZ1 := Lib.hid hz1; have HOO := Lib.hid ho1
  have HRB := Lib.hid (show w.heap.size ≤ rb by omega)
  have HRR := Lib.hid hrb
  clear hb1 hg1 hz1 ho1 hrb
  have HN := Lib.hid (nothing_dg w1 wd H01.out.1 H01.out.2 (rt_below HT.out HB1.out h3) (by have := HB1.out.size; omega))
  go_wp2_with fail
  with_reducible refine HN.out.mono ?_
  rintro e w6 ⟨rfl, hb6⟩
  rw [show dgA (cutP' wd (shaP [])) = E from HE.out.symm]
  have hbb : Below (rb + 1) w1 w6 := by rw [HZ1.out] at hb6; exact hb6
  have HO := Lib.hid ((hbb.block rb (Nat.lt_succ_self _)).trans HG1.out)
  have HBB := Lib.hid (HB1.out.trans (hbb.mono (by have := HRR.out; omega)))
  have HSZ := Lib.hid (show w.heap.size ≤ w6.heap.size by have := hbb.size; have := HZ1.out; have := HRR.out; omega)
  clear hb6 hbb
  have hO := HO.out
  rw [HOO.out] at hO
  have HTH := Lib.hid (there_block hO)
  have HGF := Lib.hid (setCells_all hO E.toList (by rw [Array.length_toList, HES.out]; rfl))
  clear hO
  go_wp2_with (refine wpList_store_mid rfl 38 (.tmp 4) (.tmp 11) (by rfl) rb 0 E (by rfl) (by rfl) (by rw [HES.out]; exact HTH.out) (by rw [HES.out]; exact info38) HE1.out ?_)
  have HB9 := Lib.hid (HBB.out.grown (setCells_grown rb E.toList 0 w6) HSZ.out (fun k hk => by rw [← Option.some.inj hk]; exact HRB.out))
  generalize w6.setCells rb 0 E.toList = w9 at *
  have HGF9 := Lib.hid (show w9.heap[rb]? = some (.cells E 38 (0, 0)) by have := HGF.out; simpa using this)
  clear HTH HGF
  go_wp2_with fail
  refine bodyPost_ret (v := .agg E) (results_cell_row (p := 4) (ty := 38) rfl _ _ rb 38 E (0, 0) _ rfl HGF9.out Tryz.underlying38 rfl (by rw [HES.out]; exact info38)) rfl ⟨by rw [HE.out], ?_⟩
  exact HB9.out

theorem root_1 (w : World) (wd : Int) (a : Option Addr) (c : Nat) (d : Dg) (hd : DS w a 1 c [d]) :
    Calls Tryz.prog 77 #[.int .i64 wd, .slice a 1 c] w fun e w' => e = .returned (.agg (dgA d.1)) ∧ Below w.heap.size w w' := by
  obtain ⟨E, hE⟩ : ∃ E, E = dgA d.1 := ⟨_, rfl⟩
  have HE := Lib.hid hE
  have HES := Lib.hid (show E.size = 32 by rw [hE, dgA_size, d.2])
  have HE1 := Lib.hid (show E.all (·.oneCell') = true by rw [hE]; exact dgA_all _)
  obtain ⟨b, off, rfl, hbl, hr⟩ := hd.at (i := 0) (d := d) rfl
  have HR := Lib.hid (show w.rangeAt b off E.toList by rw [hE]; unfold dgA; rw [List.toList_toArray]; simpa using hr)
  clear hE hr hd
  go_enter Tryz.func77, Tryz.ntmps77
  go_upto_region 1 with (fail)
  obtain ⟨o1, ho1⟩ : ∃ o1 : Obj, o1 = .cells #[.int .u8 0, .int .u8 0, .int .u8 0, .int .u8 0, .int .u8 0, .int .u8 0, .int .u8 0, .int .u8 0, .int .u8 0, .int .u8 0, .int .u8 0, .int .u8 0, .int .u8 0, .int .u8 0, .int .u8 0, .int .u8 0, .int .u8 0, .int .u8 0, .int .u8 0, .int .u8 0, .int .u8 0, .int .u8 0, .int .u8 0, .int .u8 0, .int .u8 0, .int .u8 0, .int .u8 0, .int .u8 0, .int .u8 0, .int .u8 0, .int .u8 0, .int .u8 0] 38 := ⟨_, rfl⟩
  rw [← ho1]
  have hb1 : Below w.heap.size w (w.alloc o1) := (Below.refl _ _).alloc (Nat.le_refl _) _
  have hg1 : (w.alloc o1).heap[w.heap.size]? = some o1 := heap_alloc_new w _
  have hz1 : (w.alloc o1).heap.size = w.heap.size + 1 := by simp
  generalize w.alloc o1 = w1 at *
  obtain ⟨rb, hrb⟩ : ∃ rb, rb = w.heap.size := ⟨_, rfl⟩
  rw [← hrb] at hg1 hz1 ⊢
  have HB1 := Lib.hid hb1; have HG1 := Lib.hid hg1; have HZ1 := Lib.hid hz1; have HOO := Lib.hid ho1
  have HRB := Lib.hid (show w.heap.size ≤ rb by omega)
  have HRR := Lib.hid hrb
  clear hb1 hg1 hz1 ho1 hrb
  have HR1 := Lib.hid (show w1.rangeAt b off E.toList from fun j v hj => (HB1.out.cell (p := ⟨b, off + j, none⟩) hbl).trans (HR.out j v hj))
  have HO := Lib.hid HG1.out
  have HBB := Lib.hid HB1.out
  have HSZ := Lib.hid (show w.heap.size ≤ w1.heap.size by have := HZ1.out; have := HRR.out; omega)
  have w6e : ∃ w6, w6 = w1 := ⟨_, rfl⟩
  obtain ⟨w6, rfl⟩ := w6e
  have hO := HO.out
  rw [HOO.out] at hO
  have HTH := Lib.hid (there_block hO)
  have HGF := Lib.hid (setCells_all hO E.toList (by rw [Array.length_toList, HES.out]; rfl))
  clear hO
  go_wp2_with (first
    | (refine L_load_arr rfl 38 (.tmp 15) (by rfl) b off (by rfl) E _ HR1.out Tryz.underlying38 rfl (by rw [HES.out]; exact info38) ?_)
    | (refine wpList_store_mid rfl 38 (.tmp 4) (.tmp 16) (by rfl) rb 0 E (by rfl) (by rfl) (by rw [HES.out]; exact HTH.out) (by rw [HES.out]; exact info38) HE1.out ?_))
  have HB9 := Lib.hid (HBB.out.grown (setCells_grown rb E.toList 0 w6) HSZ.out (fun k hk => by rw [← Option.some.inj hk]; exact HRB.out))
  generalize w6.setCells rb 0 E.toList = w9 at *
  have HGF9 := Lib.hid (show w9.heap[rb]? = some (.cells E 38 (0, 0)) by have := HGF.out; simpa using this)
  clear HTH HGF
  go_wp2_with fail
  refine bodyPost_ret (v := .agg E) (results_cell_row (p := 4) (ty := 38) rfl _ _ rb 38 E (0, 0) _ rfl HGF9.out Tryz.underlying38 rfl (by rw [HES.out]; exact info38)) rfl ⟨by rw [HE.out], ?_⟩
  exact HB9.out

end Go.Proofs.YtgkehahklccacaaGreatDoor
