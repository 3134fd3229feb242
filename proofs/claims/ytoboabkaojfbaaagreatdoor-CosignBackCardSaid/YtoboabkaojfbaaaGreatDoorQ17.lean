import Derived.Test.YtoboabkaojfbaaaGreatDoorQ13
import Derived.Test.YtoboabkaojfbaaaGreatDoorQ15
namespace Go.Proofs.YtoboabkaojfbaaaGreatDoor
open Go Go.RowKit
set_option maxRecDepth 100000
set_option maxHeartbeats 1000000
set_option linter.unusedVariables false
set_option linter.unusedSimpArgs false

open Go.Maps Go.WideMaps Go.ChangeMaps
set_option maxHeartbeats 4000000
theorem raw_any (w0 w : World) (hw : Below w0.heap.size w0 w) (gw : Nat) (l : List UInt8) (h : Wr w w0.heap.size gw l) (a : Option Addr) (n c : Nat) (ps : List (List UInt8)) (hp : PartsAt w0 a n ps) (hn : n ≤ 1000) (hl : l.length + ps.flatten.length ≤ 1000000000000) :
    Calls Tryz.prog 251 #[.pointer (some ⟨gw, 0, none⟩), .slice a n c] w fun e w' => e = .returned (.tuple #[]) ∧ Wr w' w0.heap.size gw (l ++ ps.flatten) ∧ Below w0.heap.size w0 w' := by
  have HP := Lib.hid hp
  have HNL := Lib.hid hp.1
  have HW := Lib.hid hw
  have HL := Lib.hid hl
  clear hp hw hl
  go_enter Tryz.func251, Tryz.ntmps251
  go_wp2_with fail
  go_loopw [8, 5] (fun v _ wr => ∃ k : Nat, k ≤ n ∧ v = .int .i64 k ∧ Wr wr w0.heap.size gw (l ++ (ps.take k).flatten) ∧ Below w0.heap.size w0 wr) (fun v _ _ => n - (intOf v).toNat)
  case atStart => exact ⟨0, by omega, rfl, by simpa using h, HW.out⟩
  case round =>
    clear h
    obtain ⟨k, hkn, rfl, hh, hb⟩ := hrel
    by_cases hlt : k < n
    · obtain ⟨p, hpk⟩ : ∃ p, ps[k]? = some p := ⟨_, List.getElem?_eq_getElem (by rw [HNL.out]; exact hlt)⟩
      obtain ⟨b, off, ai, ni, ci, rfl, hc, hr⟩ := HP.out.2 k p hpk
      have hbl : b < w0.heap.size := World.block_lt_of_cell? w0 _ hc
      have hc2 : wr.cell? ⟨b, off + k, none⟩ = some (.slice ai ni ci) := (hb.cell (show b < w0.heap.size from hbl)).trans hc
      have hr2 : R8 wr ai ni ci p := hr.belowB (Nat.le_refl _) hb
      obtain ⟨hgw, v, hwh, hwo⟩ := hh
      obtain ⟨M, hM⟩ : ∃ M, M = l ++ (ps.take k).flatten := ⟨_, rfl⟩
      rw [← hM] at hwo
      have hfl := flat_take hpk
      have hle := flat_le (ps := ps) (k + 1)
      have hni : p.length = ni := hr2.1
      have hMl : M.length + ni ≤ 1000000000000 := by
        rw [hfl, List.length_append] at hle
        rw [hM, List.length_append]; have := HL.out; omega
      have hlt2 : gw < wr.heap.size := (Array.getElem?_eq_some_iff.1 hwh).1
      have hne := own_neW hwo hwh (by decide)
      have hcg : wr.cell? ⟨gw, 0, none⟩ = some v := by rw [cell_of_row _ _ _ _ _ _ hwh]; rfl
      have hf := frozen_of_row wr gw 0 _ _ hwh
      have HFL := Lib.hid (show l ++ (ps.take (k + 1)).flatten = M ++ p by rw [hfl, hM, List.append_assoc])
      have HR2 := Lib.hid hr2; have HWO := Lib.hid hwo; have HWH := Lib.hid hwh; have HB := Lib.hid hb
      have HZ := Lib.hid hb.size
      have HLT := Lib.hid hlt; have HML := Lib.hid hMl; have HGW := Lib.hid hgw; have HLT2 := Lib.hid hlt2; have HNI := Lib.hid hni
      have h9 : decide ((k : Int) < (n : Int)) = true := by simp; omega
      have h8 : decide (k < n) = true := by simp; omega
      have hk9 : k ≤ 1000 := by omega
      clear hkn hlt hpk hc hr hbl hr2 hwh hwo hM hfl hle hni hMl hgw hb hn
      go_wp2_with (first
        | (at_builtin; refine L_append8 rfl (.tmp 16) (.tmp 17) 49 (by rfl) sl22 w0.heap.size v _ _ (by rfl) HWO.out ai ni ci p (by rfl) HR2.out (by have := HML.out; omega) (by have := HML.out; simp [maxLen]; omega) HZ.out (fun a3 c3 w3 ho3 hg3 hat3 => ?_)
           have HO3 := Lib.hid ho3; have HG3 := Lib.hid hg3
           have hc3 := (hg3.cell_far ⟨gw, 0, none⟩ hlt2 hne).trans hcg
           have hf3 := (hg3.frozen_far ⟨gw, 0, none⟩ hlt2 hne).trans hf
           clear ho3 hg3 hat3))
      have hg3 := HG3.out; have ho3 := HO3.out
      have hh3 : w3.heap[gw]? = some (.cells #[v] 214 (0, 0)) := (hg3.block gw hlt2 hne).trans HWH.out
      have hne3 := own_neW ho3 hh3 (by decide)
      have hh4 := heap_setCell_same w3 gw 0 _ _ (.slice a3 (M.length + ni) c3) hh3
      have hgs : w3.grownBy (w3.setCell ⟨gw, 0, none⟩ (.slice a3 (M.length + ni) c3)) (some gw) := grown_set (grown_refl w3 (some gw)) 0 0 _
      have ho4 := ho3.kept hgs (.inr (fun e => hne3 e.symm))
      have hb4 : Below w0.heap.size w0 (w3.setCell ⟨gw, 0, none⟩ (.slice a3 (M.length + ni) c3)) := (HB.out.grown hg3 HZ.out (fun k hk => (HWO.out.lt k hk).1)).setCell HGW.out _
      refine ⟨⟨k + 1, HLT.out, by push_cast; rfl, ⟨HGW.out, _, hh4, ?_⟩, hb4⟩, ?_⟩
      · rw [HFL.out, List.map_append]
        simpa [HNI.out] using ho4
      · have := HLT.out
        simp [intOf]; omega
    · obtain rfl : k = n := by omega
      have htk : ps.take k = ps := List.take_of_length_le (by rw [HNL.out]; exact Nat.le_refl _)
      rw [htk] at hh
      have h9 : decide ((k : Int) < (k : Int)) = false := by simp
      have h8 : decide (k < k) = false := by simp
      clear hlt hkn htk
      have HH := Lib.hid hh
      clear hh
      go_wp2_with fail
      go_end0
      exact ⟨rfl, HH.out, hb⟩
theorem be_one (c : UInt8) : be 1 c.toNat = [c] := by
  unfold be
  simp
/-- What is summed. -/
theorem text_any (w : World) (dm : UInt8) (a : Option Addr) (n c : Nat) (ps : List (List UInt8)) (hp : PartsAt w a n ps) (hn : n ≤ 1000) (hl : ps.flatten.length ≤ 1000000000) :
    Calls Tryz.prog 231 #[.int .i64 (dm.toNat : Int), .slice a n c] w fun e w' => ∃ a' n' c', e = .returned (.slice a' n' c') ∧ w'.ownsRow w.heap.size 5 1 (.slice a' n' c') n' ((dm :: ps.flatten).map b8) ∧ Below w.heap.size w w' := by
  have HP := Lib.hid hp
  have HL := Lib.hid hl
  have hdw : IntKind.u8.wrap (dm.toNat : Int) = (dm.toNat : Int) := IntWalk.u8_in _ (by have := dm.toNat_lt; omega)
  clear hp hl
  go_enter Tryz.func231, Tryz.ntmps231
  go_wp2_with (first
    | (go_at_call 75; refine (new_any w).mono ?_; rintro e w1 ⟨gw, rfl, hwr, hb1⟩; have HB1 := Lib.hid hb1; have HW1 := Lib.hid hwr; clear hb1 hwr)
    | (go_at_call 76; refine (put8_any w1 w.heap.size gw [] dm HW1.out (by decide) HB1.out.size).mono ?_; rintro e w2 ⟨rfl, hwr, hb2⟩; have HW2 := Lib.hid (show Wr w2 w.heap.size gw [dm] by rw [← be_one dm]; exact hwr); have HB2 := Lib.hid (HB1.out.trans hb2); clear hb2 hwr)
    | (go_at_call 251; refine (raw_any w w2 HB2.out gw [dm] HW2.out a n c ps HP.out hn (by have := HL.out; show 1 + _ ≤ _; omega)).mono ?_; rintro e w3 ⟨rfl, hwr, hb3⟩; have HW3 := Lib.hid hwr; have HB3 := Lib.hid hb3; clear hb3 hwr)
    | (go_at_call 80; refine (all_any w3 w.heap.size gw _ HW3.out (by have := HL.out; rw [List.length_append]; show 1 + _ ≤ _; omega)).mono ?_; rintro e w4 ⟨a', n', c', rfl, ho, hb4⟩; have HO := Lib.hid ho; have HB4 := Lib.hid hb4; clear ho hb4))
  go_ret
  exact ⟨_, _, _, rfl, owns_mono HO.out HB3.out.size, HB3.out.trans (HB4.out.mono HB3.out.size)⟩
end Go.Proofs.YtoboabkaojfbaaaGreatDoor
namespace Go.Proofs.YtoboabkaojfbaaaGreatDoor
open Go Go.RowKit
set_option maxRecDepth 100000
set_option maxHeartbeats 1000000
set_option linter.unusedVariables false
set_option linter.unusedSimpArgs false

open Go.Maps Go.WideMaps Go.ChangeMaps
theorem alOlC (w : World) (o : Obj) (i : Nat) (h : i < w.heap.size) : (w.alloc o).heap[i]? = w.heap[i]? := (bel1 w o).block i h
theorem cellC (v : Value) (e : TypeId) (w : World) (i : Nat) (u : Value) (h : [v][i]? = some u) : (w.alloc (.cells #[v] e)).cell? ((⟨w.heap.size, 0, none⟩ : Addr).add i) = some u := by
  have h0 : (w.alloc (.cells #[v] e)).heap[w.heap.size]? = some (.cells #[v] e (0, 0)) := heap_alloc_new _ _
  have ea : (⟨w.heap.size, 0, none⟩ : Addr).add i = ⟨w.heap.size, i, none⟩ := by by_cases h0 : i = 0 <;> simp [Addr.add, h0]
  rw [ea, cell_of_row _ _ i _ _ _ h0]
  simpa using h
theorem sl229 : Sl Tryz.prog 101 49 (.slice none 0 0) 1 24 := ⟨Tryz.underlying101, by kernel_rfl, rfl, by decide⟩
/-- A climber: its width, and its texts. -/
def ClimbAt (w : World) (B gc : Nat) (wd : Int) (n : Nat) (tv : Value) : Prop := w.heap[gc]? = some (.cells #[.int .i64 wd, tv] 228 (0, 0)) ∧ ∃ xs, w.ownsRow B 49 1 tv n xs ∧ ∀ u ∈ xs, u.oneCell' = true
/-- What a climber's call leaves alone. -/
structure FrC (w w' : World) (gc : Nat) (ob : Option Nat) : Prop where
  b : Below 0 w w'
  blk : ∀ k, k < w.heap.size → k ≠ gc → some k ≠ ob → w'.heap[k]? = w.heap[k]?
theorem FrC.of_below {w w' : World} {gc : Nat} {ob : Option Nat} (h : Below w.heap.size w w') : FrC w w' gc ob := ⟨h.mono (Nat.zero_le _), fun k hk _ _ => h.block k hk⟩
theorem FrC.of_grown {w w' : World} {gc : Nat} {ob : Option Nat} (h : w.grownBy w' ob) : FrC w w' gc ob := ⟨⟨h.os, h.tape, h.output, h.size, fun k hk => absurd hk (Nat.not_lt_zero k)⟩, fun k hk _ h2 => h.block k hk h2⟩
theorem FrC.of_set {w : World} {gc o : Nat} {ob : Option Nat} {v : Value} : FrC w (w.setCell ⟨gc, o, none⟩ v) gc ob := ⟨⟨rfl, rfl, rfl, by simp, fun k hk => absurd hk (Nat.not_lt_zero k)⟩, fun k _ hk _ => heap_setCell_other w ⟨gc, o, none⟩ k _ (fun e => hk e)⟩
theorem FrC.trans {a b c : World} {gc : Nat} {ob oc : Option Nat} (h : FrC a b gc ob) (k : FrC b c gc oc) (ho : oc = ob ∨ ∃ x, oc = some x ∧ a.heap.size ≤ x) : FrC a c gc ob :=
  ⟨h.b.trans k.b, fun j hj h1 h2 => (k.blk j (Nat.lt_of_lt_of_le hj h.b.size) h1 (by
    rcases ho with e | ⟨x, e, hx⟩
    · rw [e]; exact h2
    · rw [e]; intro q; have := Option.some.inj q; omega)).trans (h.blk j hj h1 h2)⟩
theorem ClimbAt.lt {w : World} {B gc n : Nat} {wd : Int} {tv : Value} (h : ClimbAt w B gc wd n tv) : gc < w.heap.size := (Array.getElem?_eq_some_iff.1 h.1).1
theorem ClimbAt.below {w w' : World} {B gc n : Nat} {wd : Int} {tv : Value} (h : ClimbAt w B gc wd n tv) (hb : Below w.heap.size w w') : ClimbAt w' B gc wd n tv :=
  ⟨(hb.block gc h.lt).trans h.1, h.2.imp fun xs ho => ⟨own_below ho.1 hb, ho.2⟩⟩
def CnOut (w w' : World) (B gc n : Nat) (wd : Int) (tv : Value) : Prop := ∃ tv', ClimbAt w' B gc wd (n + 1) tv' ∧ FrC w w' gc tv.ownBlock ∧ (tv'.ownBlock = tv.ownBlock ∨ ∃ k, tv'.ownBlock = some k ∧ w.heap.size ≤ k)
theorem FrC.tab {w w' : World} {gc : Nat} {ob : Option Nat} (h : FrC w w' gc ob) (ht : RoundTab w) (h3 : 1 < w.heap.size) (h1 : 1 ≠ gc) (h2 : some 1 ≠ ob) : RoundTab w' := fun i hi => (World.cell?_of_block (h.blk 1 h3 h1 h2)).trans (ht i hi)
set_option maxHeartbeats 8000000
theorem cnode_any (w : World) (B gc n : Nat) (tv : Value) (wd : Int) (h0 : -9223372036854775808 ≤ wd) (h1 : wd ≤ 9223372036854775807) (hc : ClimbAt w B gc wd n tv) (hn : n ≤ 1000000) (hB : B ≤ w.heap.size) (l r : Dg) (ht : RoundTab w) (h3 : 1 < B) (hgc : 1 < gc) :
    Calls Tryz.prog 210 #[.pointer (some ⟨gc, 0, none⟩), .agg (dgA l.1), .agg (dgA r.1)] w fun e w' => e = .returned (.agg (dgA (nodeD wd l r).1)) ∧ CnOut w w' B gc n wd tv := by
  have hlt := hc.lt
  obtain ⟨hcb, xs, hco, hones⟩ := hc
  have HON := Lib.hid hones
  obtain ⟨ta, tc, rfl, -⟩ := owns_shape hco
  have HT := Lib.hid ht
  have H01 := Lib.hid (And.intro h0 h1)
  obtain ⟨E, hE⟩ : ∃ E, E = dgA (nodeD wd l r).1 := ⟨_, rfl⟩
  have HE := Lib.hid hE
  have HES := Lib.hid (show E.size = 32 by rw [hE, dgA_size]; exact (nodeD wd l r).2)
  have HE1 := Lib.hid (show E.all (·.oneCell') = true by rw [hE]; exact dgA_all _)
  obtain ⟨L, hL⟩ : ∃ L, L = dgA l.1 := ⟨_, rfl⟩
  obtain ⟨R, hR⟩ : ∃ R, R = dgA r.1 := ⟨_, rfl⟩
  rw [← hL, ← hR]
  have HL := Lib.hid hL; have HR := Lib.hid hR
  have HCB := Lib.hid hcb; have HCO := Lib.hid hco; have HLT := Lib.hid hlt; have HB := Lib.hid hB; have H3 := Lib.hid (And.intro h3 hgc)
  clear ht hE h0 h1 hL hR hcb hco hones hlt hB h3 hgc
  go_enter Tryz.func210, Tryz.ntmps210
  go_upto_region 1 with (fail)
  obtain ⟨o1, ho1⟩ : ∃ o1 : Obj, o1 = .cells #[.int .u8 0, .int .u8 0, .int .u8 0, .int .u8 0, .int .u8 0, .int .u8 0, .int .u8 0, .int .u8 0, .int .u8 0, .int .u8 0, .int .u8 0, .int .u8 0, .int .u8 0, .int .u8 0, .int .u8 0, .int .u8 0, .int .u8 0, .int .u8 0, .int .u8 0, .int .u8 0, .int .u8 0, .int .u8 0, .int .u8 0, .int .u8 0, .int .u8 0, .int .u8 0, .int .u8 0, .int .u8 0, .int .u8 0, .int .u8 0, .int .u8 0, .int .u8 0] 23 := ⟨_, rfl⟩
  rw [← ho1]
  have hb1 : Below w.heap.size w (((w.alloc (.cells L 23)).alloc (.cells R 23)).alloc o1) := (((Below.refl _ _).alloc (Nat.le_refl _) _).alloc (by simp) _).alloc (by simp; omega) _
  have hg2 : (((w.alloc (.cells L 23)).alloc (.cells R 23)).alloc o1).heap[w.heap.size]? = some (.cells L 23 (0, 0)) := (Below.heap_alloc _ _ _ (by simp; omega)).trans (heap_alloc2_old w _ _)
  have hg3 : (((w.alloc (.cells L 23)).alloc (.cells R 23)).alloc o1).heap[w.heap.size + 1]? = some (.cells R 23 (0, 0)) := (Below.heap_alloc _ _ _ (by simp)).trans (heap_alloc2_new w _ _)
  have hg1 : (((w.alloc (.cells L 23)).alloc (.cells R 23)).alloc o1).heap[w.heap.size + 2]? = some o1 := by
    have := heap_alloc_new ((w.alloc (.cells L 23)).alloc (.cells R 23)) o1
    rwa [World.size_alloc, World.size_alloc] at this
  have hz1 : (((w.alloc (.cells L 23)).alloc (.cells R 23)).alloc o1).heap.size = w.heap.size + 3 := by simp
  generalize ((w.alloc (.cells L 23)).alloc (.cells R 23)).alloc o1 = w1 at *
  obtain ⟨b1, hb1e⟩ : ∃ b1, b1 = w.heap.size := ⟨_, rfl⟩
  obtain ⟨b2, hb2e⟩ : ∃ b2, b2 = w.heap.size + 1 := ⟨_, rfl⟩
  obtain ⟨rb, hrb⟩ : ∃ rb, rb = w.heap.size + 2 := ⟨_, rfl⟩
  rw [← hrb] at hg1
  rw [← hb2e] at hg3
  rw [← hb1e] at hg2
  rw [← hrb, ← hb2e, ← hb1e]
  have HB1 := Lib.hid hb1; have HG1 := Lib.hid hg1; have HZ1 := Lib.hid hz1; have HOO := Lib.hid ho1
  have HG2 := Lib.hid hg2; have HG3 := Lib.hid hg3
  have HRB := Lib.hid (show w.heap.size ≤ rb by omega)
  have HRR := Lib.hid (show b1 = w.heap.size ∧ b2 = w.heap.size + 1 ∧ rb = w.heap.size + 2 from ⟨hb1e, hb2e, hrb⟩)
  clear hb1 hg1 hz1 ho1 hg2 hg3 hrb hb1e hb2e
  refine wp_region_held_drew (S := fun _ => True) (by kernel_rfl) trivial (fun hHeld => ?_)
  refine wpAnyH_take (i := 0) (oi := _) (v := ?_) rfl (by kernel_rfl) (by kernel_rfl) (by kernel_rfl) (fun _ _ _ h => h) (Or.inl ⟨by rfl, ?_⟩) (by assumption) ?_
  rotate_left
  · intro w hSw
    (try dsimp only at hSw)
    go_simp
    all_goals (first | done | with_reducible rfl)
  (try simp only [Act.put, List.setIfInBounds_toArray, List.set_cons_zero, List.set_cons_succ, List.getElem_toArray, List.getElem_cons_succ, List.getElem_cons_zero])
  refine wpAnyH_take (i := 1) (oi := _) (v := ?_) rfl (by kernel_rfl) (by kernel_rfl) (by kernel_rfl) (fun _ _ _ h => h) (Or.inl ⟨by rfl, ?_⟩) (by assumption) ?_
  rotate_left
  · intro w hSw
    (try dsimp only at hSw)
    go_simp
    all_goals (first | done | with_reducible rfl)
  (try simp only [Act.put, List.setIfInBounds_toArray, List.set_cons_zero, List.set_cons_succ, List.getElem_toArray, List.getElem_cons_succ, List.getElem_cons_zero])
  refine wpAnyH_ready (rs := [2]) (by kernel_rfl) (by simp) ?_
  refine AllReadyH.cons (o := _) rfl (fun K hK => ?_) AllReadyH.nil
  go_simp
  refine hK.out _ _ trivial (fun hHeld => ?_)
  clear hK K
  (try simp only [Act.put, List.setIfInBounds_toArray, List.set_cons_zero, List.set_cons_succ, List.getElem_toArray, List.getElem_cons_succ, List.getElem_cons_zero])
  obtain ⟨w2, hw2⟩ : ∃ w2, w2 = (w1.alloc (.cells #[.slice (some ⟨b1, 0, none⟩) 32 32, .slice (some ⟨b2, 0, none⟩) 32 32] 49)).drew := ⟨_, rfl⟩
  rw [← hw2]
  have hb2 : Below w1.heap.size w1 w2 := by rw [hw2]; exact ((Below.refl _ _).alloc (Nat.le_refl _) _).drew
  have hg4 : w2.heap[w1.heap.size]? = some (.cells #[.slice (some ⟨b1, 0, none⟩) 32 32, .slice (some ⟨b2, 0, none⟩) 32 32] 49 (0, 0)) := by rw [hw2]; exact heap_alloc_new w1 _
  obtain ⟨q1, q2, q3⟩ := HRR.out
  have hz := HZ1.out
  have hL2 : R8 w2 (some ⟨b1, 0, none⟩) 32 32 l.1 := r8_dg (by rw [hb2.block b1 (by omega), HG2.out, HL.out]) l.2
  have hR2 : R8 w2 (some ⟨b2, 0, none⟩) 32 32 r.1 := r8_dg (by rw [hb2.block b2 (by omega), HG3.out, HR.out]) r.2
  have hps : PartsAt w2 (some ⟨w1.heap.size, 0, none⟩) 2 [l.1, r.1] := ⟨rfl, fun i p hi => by
    match i, hi with
    | 0, hi => cases hi; exact ⟨_, 0, some ⟨b1, 0, none⟩, 32, 32, rfl, by rw [cell_of_row _ _ _ _ _ _ hg4]; rfl, hL2⟩
    | 1, hi => cases hi; exact ⟨_, 0, some ⟨b2, 0, none⟩, 32, 32, rfl, by rw [cell_of_row _ _ _ _ _ _ hg4]; rfl, hR2⟩
    | n + 2, hi => simp at hi⟩
  have hbw : Below w.heap.size w w2 := HB1.out.trans (hb2.mono (by omega))
  have hll : [l.1, r.1].flatten.length = 64 := by simp [l.2, r.2]
  have HTX := Lib.hid (show Calls Tryz.prog 231 #[.int .i64 1, .slice (some ⟨w1.heap.size, 0, none⟩) 2 2] w2 fun e w' => ∃ a' n' c', e = .returned (.slice a' n' c') ∧ w'.ownsRow w2.heap.size 5 1 (.slice a' n' c') n' ((1 :: [l.1, r.1].flatten).map b8) ∧ Below w2.heap.size w2 w' from text_any w2 1 (some ⟨w1.heap.size, 0, none⟩) 2 2 [l.1, r.1] hps (by omega) (by rw [hll]; decide))
  have HLL := Lib.hid hll
  have HBW := Lib.hid hbw
  have HZ2 := Lib.hid (show w1.heap.size ≤ w2.heap.size from hb2.size)
  have HG12 := Lib.hid (show w2.heap[rb]? = some o1 from (hb2.block rb (by omega)).trans HG1.out)
  clear hw2 hb2 hg4 q1 q2 q3 hz hL2 hR2 hps hbw hll
  refine wpAnyH_ready (rs := [3]) (by kernel_rfl) (by simp) ?_
  refine AllReadyH.cons (o := _) rfl (fun K hK => ?_) AllReadyH.nil
  go_simp
  refine HTX.out.mono ?_
  rintro e w6 ⟨a', n', c', rfl, ho6, hb6⟩
  have HO6 := Lib.hid ho6
  have HB6 := Lib.hid (HBW.out.trans (hb6.mono HBW.out.size))
  have HG16 := Lib.hid ((hb6.block rb (Array.getElem?_eq_some_iff.1 HG12.out).1).trans HG12.out)
  clear ho6 hb6
  refine hK.out _ _ trivial (fun hHeld => ?_)
  clear hK K
  (try simp only [Act.put, List.setIfInBounds_toArray, List.set_cons_zero, List.set_cons_succ, List.getElem_toArray, List.getElem_cons_succ, List.getElem_cons_zero])
  refine wpAnyH_take (i := 4) (oi := _) (v := ?_) rfl (by kernel_rfl) (by kernel_rfl) (by kernel_rfl) (fun _ _ _ h => h) (Or.inl ⟨by rfl, ?_⟩) (by assumption) ?_
  rotate_left
  · intro w hSw
    (try dsimp only at hSw)
    go_simp
    all_goals (first | done | with_reducible rfl)
  (try simp only [Act.put, List.setIfInBounds_toArray, List.set_cons_zero, List.set_cons_succ, List.getElem_toArray, List.getElem_cons_succ, List.getElem_cons_zero])
  refine wpAnyH_done (by kernel_rfl) ?_ _
  have hcb6 := (HB6.out.block gc HLT.out).trans HCB.out
  have hco6 : w6.ownsRow B 49 1 (.slice ta n tc) n xs := own_below HCO.out HB6.out
  have hlt6 : gc < w6.heap.size := Nat.lt_of_lt_of_le HLT.out HB6.out.size
  have hc1 : w6.cell? ⟨gc, 1, none⟩ = some (.slice ta n tc) := by rw [cell_of_row _ _ _ _ _ _ hcb6]; rfl
  have hne := own_ne HCO.out HCB.out (by decide)
  have hne6 := own_ne hco6 hcb6 (by decide)
  have HCB6 := Lib.hid hcb6; have HCO6 := Lib.hid hco6; have HLT6 := Lib.hid hlt6
  have HS6 := Lib.hid (show B ≤ (w6.alloc (.cells #[.slice a' n' c'] 49)).heap.size by rw [World.size_alloc]; have := HB.out; have := HB6.out.size; omega)
  have HNE := Lib.hid hne6
  clear hcb6 hco6 hlt6 hne hne6
  go_wp2_with (first
    | (at_builtin; refine L_appendN rfl (.tmp 16) (.tmp 18) 101 (by rfl) sl229 B (.slice ta n tc) n xs (by rfl) (HCO6.out.alloc _) ⟨w6.heap.size, 0, none⟩ 1 1 [.slice a' n' c'] (by rfl) rfl (fun j u hu => cellC (.slice a' n' c') 49 w6 j u hu) (by intro u hu; simp only [List.mem_cons, List.not_mem_nil, or_false] at hu; rw [hu]; rfl) (by omega) (by simp [maxLen]; omega) HS6.out (fun a8 c8 w8 ho8 hg8 hat8 => ?_)
       have HO8 := Lib.hid ho8; have HG8 := Lib.hid hg8; have HAT8 := Lib.hid hat8
       have hcb8 := (hg8.block gc (by rw [World.size_alloc]; have := HLT6.out; omega) (fun e => HNE.out e.symm)).trans ((alOlC w6 _ gc HLT6.out).trans HCB6.out)
       have HCB8 := Lib.hid hcb8
       have hc8 : w8.cell? ⟨gc, 1, none⟩ = some (.slice ta n tc) := by rw [cell_of_row _ _ _ _ _ _ hcb8]; rfl
       have hf8 := frozen_of_row w8 gc 1 _ _ hcb8
       clear ho8 hg8 hat8 hcb8))
  obtain ⟨w9, hw9⟩ : ∃ w9, w9 = w8.setCell ⟨gc, 1, none⟩ (.slice a8 (n + 1) c8) := ⟨_, rfl⟩
  rw [← hw9]
  have hcb9 : w9.heap[gc]? = some (.cells #[.int .i64 wd, .slice a8 (n + 1) c8] 228 (0, 0)) := by
    have := heap_setCell_same w8 gc 1 _ _ (.slice a8 (n + 1) c8) HCB8.out
    rw [hw9]; simpa using this
  have hob : ∀ k, (Value.slice ta n tc).ownBlock = some k → B ≤ k ∧ k < w.heap.size := fun k hk => HCO.out.lt k hk
  have hfr9 : FrC w6 w9 gc (Value.slice ta n tc).ownBlock := by
    rw [hw9]
    exact ((FrC.of_below (bel1 w6 _)).trans (FrC.of_grown HG8.out) (.inl rfl)).trans FrC.of_set (.inl rfl)
  have hfr : FrC w w9 gc (Value.slice ta n tc).ownBlock := (FrC.of_below HB6.out).trans hfr9 (.inl rfl)
  have hown9 : w9.ownsRow B 49 1 (.slice a8 (n + 1) c8) (n + 1) (xs ++ [Value.slice a' n' c']) := by
    refine own_same HO8.out fun k hk => ?_
    rw [hw9]
    refine heap_setCell_other w8 ⟨gc, 1, none⟩ k _ fun e => ?_
    have e : k = gc := e
    exact own_ne HO8.out HCB8.out (by decide) (hk.trans (by rw [e]))
  have hat9 : (Value.slice a8 (n + 1) c8).ownBlock = (Value.slice ta n tc).ownBlock ∨ ∃ k, (Value.slice a8 (n + 1) c8).ownBlock = some k ∧ w.heap.size ≤ k := by
    rcases HAT8.out with e | e
    · exact .inl e
    · exact .inr ⟨_, e, by rw [World.size_alloc]; have := HB6.out.size; omega⟩
  have hlen9 : (1 :: [l.1, r.1].flatten).length = 65 := by simp [l.2, r.2]
  have hr9 : R8 w9 a' n' c' (1 :: [l.1, r.1].flatten) := by
    refine R8.of_owns' (own_same HO6.out fun k hk => ?_) (by rw [hlen9]; decide)
    have hk2 := HO6.out.lt k hk
    refine hfr9.blk k hk2.2 (fun e => ?_) (fun e => ?_)
    · have := HLT.out; have := HBW.out.size; omega
    · have := hob k e.symm; have := HBW.out.size; omega
  have hrt9 : RoundTab w9 := hfr.tab HT.out (by have := H3.out; have := HB.out; omega) (by have := H3.out; omega) (fun e => by have := hob 1 e.symm; have := H3.out; omega)
  have hg19 : w9.heap[rb]? = some o1 := (hfr9.blk rb (Array.getElem?_eq_some_iff.1 HG16.out).1 (by have := HRB.out; have := HLT.out; omega) (fun e => by have := hob rb e.symm; have := HRB.out; omega)).trans HG16.out
  have hs9 : w9.heap.size ≥ 2 := by have := hfr.b.size; have := HB.out; have := H3.out; omega
  have HDS := Lib.hid (show Calls Tryz.prog 93 #[.slice a' n' c'] w9.drew (fun e w' => e = .returned (.agg (dgA (shaP (1 :: [l.1, r.1].flatten)))) ∧ Below w9.drew.heap.size w9.drew w') from dsum_any w9.drew a' n' c' _ hr9 hrt9 (by show 1 < w9.heap.size; omega) (by have := hr9.1; omega))
  have HCUT := Lib.hid (fun wx => show Calls Tryz.prog 92 #[.agg (dgA (shaP (1 :: [l.1, r.1].flatten))), .int .i64 wd] wx (fun e w' => e = .returned (.agg E) ∧ Below wx.heap.size wx w') by
    have := cut_dg wx (shaP (1 :: [l.1, r.1].flatten)) (shaP_len _) wd H01.out.1 H01.out.2
    rw [HE.out]
    have e : (nodeD wd l r).1 = cutP' wd (shaP (1 :: [l.1, r.1].flatten)) := by show nodeP wd l.1 r.1 = _; unfold nodeP ofP; simp
    rw [e]; exact this)
  obtain ⟨DD, hDD⟩ : ∃ DD, DD = dgA (shaP (1 :: [l.1, r.1].flatten)) := ⟨_, rfl⟩
  rw [← hDD] at HDS HCUT
  have hs0 : (fun x => x.cell? ⟨gc, 0, none⟩ = some (.int .i64 wd)) w9.drew := by show w9.cell? ⟨gc, 0, none⟩ = _; rw [cell_of_row _ _ _ _ _ _ hcb9]; rfl
  have HCB9 := Lib.hid hcb9; have HFR := Lib.hid hfr; have HOWN9 := Lib.hid hown9; have HAT9 := Lib.hid hat9; have HG19 := Lib.hid hg19
  have HSC := Lib.hid (fun (wx : World) (hb : Below w9.heap.size w9 wx) => show (fun x => x.cell? ⟨gc, 0, none⟩ = some (.int .i64 wd)) wx by show wx.cell? ⟨gc, 0, none⟩ = _; rw [cell_of_row _ _ _ _ _ _ ((hb.block gc (Array.getElem?_eq_some_iff.1 hcb9).1).trans hcb9)]; rfl)
  clear hw9 hcb9 hob hfr9 hfr hown9 hat9 hlen9 hr9 hrt9 hg19 hs9 hDD hc8 hf8 hc1
  refine wp_region_held_drew (S := fun x => x.cell? ⟨gc, 0, none⟩ = some (.int .i64 wd)) (by kernel_rfl) hs0 (fun hHeld => ?_)
  refine wpAnyH_take (i := 0) (oi := _) (v := ?_) rfl (by kernel_rfl) (by kernel_rfl) (by kernel_rfl) (fun _ _ _ h => h) (Or.inl ⟨by rfl, ?_⟩) (by assumption) ?_
  rotate_left
  · intro w hSw
    (try dsimp only at hSw)
    go_simp
    all_goals (first | done | with_reducible rfl)
  (try simp only [Act.put, List.setIfInBounds_toArray, List.set_cons_zero, List.set_cons_succ, List.getElem_toArray, List.getElem_cons_succ, List.getElem_cons_zero])
  refine wpAnyH_take (i := 2) (oi := _) (v := ?_) rfl (by kernel_rfl) (by kernel_rfl) (by kernel_rfl) (fun _ _ _ h => h) (Or.inl ⟨by rfl, ?_⟩) (by assumption) ?_
  rotate_left
  · intro w hSw
    (try dsimp only at hSw)
    go_simp
    all_goals (first | done | with_reducible rfl)
  (try simp only [Act.put, List.setIfInBounds_toArray, List.set_cons_zero, List.set_cons_succ, List.getElem_toArray, List.getElem_cons_succ, List.getElem_cons_zero])
  refine wpAnyH_take (i := 3) (oi := _) (v := ?_) rfl (by kernel_rfl) (by kernel_rfl) (by kernel_rfl) (fun _ _ _ h => h) (Or.inl ⟨by rfl, ?_⟩) (by assumption) ?_
  rotate_left
  · intro w hSw
    (try dsimp only at hSw)
    go_simp
    all_goals (first | done | with_reducible rfl)
  (try simp only [Act.put, List.setIfInBounds_toArray, List.set_cons_zero, List.set_cons_succ, List.getElem_toArray, List.getElem_cons_succ, List.getElem_cons_zero])
  refine wpAnyH_take (i := 4) (oi := _) (v := ?_) rfl (by kernel_rfl) (by kernel_rfl) (by kernel_rfl) (fun _ _ _ h => h) (Or.inl ⟨by rfl, ?_⟩) (by assumption) ?_
  rotate_left
  · intro w hSw
    (try dsimp only at hSw)
    go_simp
    all_goals (first | done | with_reducible rfl)
  (try simp only [Act.put, List.setIfInBounds_toArray, List.set_cons_zero, List.set_cons_succ, List.getElem_toArray, List.getElem_cons_succ, List.getElem_cons_zero])
  refine wpAnyH_take (i := 5) (oi := _) (v := ?_) rfl (by kernel_rfl) (by kernel_rfl) (by kernel_rfl) (fun _ _ _ h => h) (Or.inl ⟨by rfl, ?_⟩) (by assumption) ?_
  rotate_left
  · intro w hSw
    (try dsimp only at hSw)
    go_simp
    all_goals (first | done | with_reducible rfl)
  (try simp only [Act.put, List.setIfInBounds_toArray, List.set_cons_zero, List.set_cons_succ, List.getElem_toArray, List.getElem_cons_succ, List.getElem_cons_zero])
  refine wpAnyH_ready (rs := [1]) (by kernel_rfl) (by simp) ?_
  refine AllReadyH.cons (o := _) rfl (fun K hK => ?_) AllReadyH.nil
  go_simp
  refine HDS.out.mono ?_
  rintro e w10 ⟨rfl, hb10⟩
  have HB10 := Lib.hid (show Below w9.heap.size w9 w10 from ⟨hb10.os, hb10.tape, hb10.output, hb10.size, hb10.block⟩)
  clear hb10
  refine hK.out _ _ (HSC.out _ HB10.out) (fun hHeld => ?_)
  clear hK K
  (try simp only [Act.put, List.setIfInBounds_toArray, List.set_cons_zero, List.set_cons_succ, List.getElem_toArray, List.getElem_cons_succ, List.getElem_cons_zero])
  refine wpAnyH_ready (rs := [6]) (by kernel_rfl) (by simp) ?_
  refine AllReadyH.cons (o := _) rfl (fun K hK => ?_) AllReadyH.nil
  go_simp
  refine (HCUT.out w10).mono ?_
  rintro e w11 ⟨rfl, hb11⟩
  have HB11 := Lib.hid (HB10.out.trans (hb11.mono HB10.out.size))
  clear hb11
  refine hK.out _ _ (HSC.out _ HB11.out) (fun hHeld => ?_)
  clear hK K
  (try simp only [Act.put, List.setIfInBounds_toArray, List.set_cons_zero, List.set_cons_succ, List.getElem_toArray, List.getElem_cons_succ, List.getElem_cons_zero])
  have hO := (HB11.out.block rb (Array.getElem?_eq_some_iff.1 HG19.out).1).trans HG19.out
  rw [HOO.out] at hO
  have HTH := Lib.hid (there_block hO)
  have HGF := Lib.hid (setCells_all hO E.toList (by rw [Array.length_toList, HES.out]; rfl))
  have HSN := Lib.hid (show (fun x => x.cell? ⟨gc, 0, none⟩ = some (.int .i64 wd)) (w11.setCells rb 0 E.toList) by
    have hgr := setCells_grown rb E.toList 0 w11
    have hb := (HB11.out.block gc (Array.getElem?_eq_some_iff.1 HCB9.out).1).trans HCB9.out
    have := (hgr.block gc (Array.getElem?_eq_some_iff.1 hb).1 (fun e => by have := Option.some.inj e; have := HRB.out; have := HLT.out; omega)).trans hb
    show (w11.setCells rb 0 E.toList).cell? ⟨gc, 0, none⟩ = _
    rw [cell_of_row _ _ _ _ _ _ this]; rfl)
  clear hO
  refine wpAnyH_ready (rs := [7]) (by kernel_rfl) (by simp) ?_
  refine AllReadyH.cons (o := _) rfl (fun K hK => ?_) AllReadyH.nil
  refine S_store_mid rfl 23 (.tmp 6) (.tmp 28) (by rfl) rb 0 E (by rfl) (by rfl) (by rw [HES.out]; exact HTH.out) (by rw [HES.out]; exact info38) HE1.out ?_
  refine hK.out _ _ HSN.out (fun hHeld => ?_)
  clear hK K
  (try simp only [Act.put, List.setIfInBounds_toArray, List.set_cons_zero, List.set_cons_succ, List.getElem_toArray, List.getElem_cons_succ, List.getElem_cons_zero])
  refine wpAnyH_done (by kernel_rfl) ?_ _
  have HFRE := Lib.hid (show FrC w (w11.setCells rb 0 E.toList) gc (Value.slice ta n tc).ownBlock ∧ ClimbAt (w11.setCells rb 0 E.toList) B gc wd (n + 1) (.slice a8 (n + 1) c8) by
    have hgr := setCells_grown rb E.toList 0 w11
    have hrb9 : rb < w9.heap.size := (Array.getElem?_eq_some_iff.1 HG19.out).1
    have hk : ∀ k, k < w9.heap.size → k ≠ rb → (w11.setCells rb 0 E.toList).heap[k]? = w9.heap[k]? := fun k hk hn => (hgr.block k (Nat.lt_of_lt_of_le hk HB11.out.size) (fun e => hn (Option.some.inj e))).trans (HB11.out.block k hk)
    refine ⟨⟨?_, fun k hk0 h1 h2 => ?_⟩, (hk gc (Array.getElem?_eq_some_iff.1 HCB9.out).1 (by have := HRB.out; have := HLT.out; omega)).trans HCB9.out, _, own_same HOWN9.out fun k hk2 => hk k (HOWN9.out.lt k hk2).2 fun e => ?_, fun u hu => ?_⟩
    · exact (HFR.out.b.trans (HB11.out.mono (Nat.zero_le _))).trans ⟨hgr.os, hgr.tape, hgr.output, hgr.size, fun k hk => absurd hk (Nat.not_lt_zero k)⟩
    · exact (hk k (Nat.lt_of_lt_of_le hk0 HFR.out.b.size) (by have := HRB.out; omega)).trans (HFR.out.blk k hk0 h1 h2)
    · rcases HAT9.out with q | ⟨x, q, hx⟩
      · rw [q] at hk2; have := HCO.out.lt k hk2; have := HRB.out; omega
      · subst e
        exact own_ne HOWN9.out (HG19.out.trans (by rw [HOO.out])) (by decide) hk2
    · rcases List.mem_append.1 hu with q | q
      · exact HON.out u q
      · simp only [List.mem_cons, List.not_mem_nil, or_false] at q; rw [q]; rfl)
  have HGF9 := Lib.hid (show (w11.setCells rb 0 E.toList).heap[rb]? = some (.cells E 23 (0, 0)) by have := HGF.out; simpa using this)
  generalize w11.setCells rb 0 E.toList = w12 at *
  clear HTH HGF
  go_wp2_with fail
  refine bodyPost_ret (v := .agg E) (results_cell_row (p := 6) (ty := 23) rfl _ _ rb 23 E (0, 0) _ rfl HGF9.out Tryz.underlying23 rfl (by rw [HES.out]; exact info38)) rfl ⟨by rw [HE.out], _, HFRE.out.2, HFRE.out.1, HAT9.out⟩
end Go.Proofs.YtoboabkaojfbaaaGreatDoor
