import Derived.Test.YtdepdediggokgaaDoorV2
import Derived.Test.YtdepdediggokgaaDoorW9
import Derived.Test.YtdepdediggokgaaDoorL8
import Derived.Deep.DeepCutAuto
import Derived.Deep.CutBlock
import Derived.Deep.RegionHeld3
import Derived.StillTailTactics
namespace Go.Proofs.YtdepdediggokgaaDoor
open Go.RowKit
set_option linter.unusedVariables false
theorem sl32 : Sl Tryd.prog 32 22 (.slice none 0 0) 1 24 := ⟨Tryd.underlying32, by kernel_rfl, rfl, by decide⟩

/-- Rows of bytes stand. -/
def Keep5 (w w' : World) : Prop := ∀ (k : Nat) (cs : Array Value) (fz : Nat × Nat), w.heap[k]? = some (Obj.cells cs 5 fz) → w'.heap[k]? = w.heap[k]?
theorem Keep5.refl (w : World) : Keep5 w w := fun _ _ _ _ => rfl
theorem Keep5.trans {a b c : World} (h : Keep5 a b) (k : Keep5 b c) : Keep5 a c := fun g cs fz hg => (k g cs fz ((h g cs fz hg).trans hg)).trans (h g cs fz hg)
theorem Keep5.owns {w w' : World} {B : Nat} {v : Value} {n : Nat} {xs : List Value} (k : Keep5 w w') (h : w.ownsRow B 5 1 v n xs) : w'.ownsRow B 5 1 v n xs := by
  refine ⟨h.1, ?_⟩
  rcases h.2 with h | ⟨g, cap, cur, hv, hb, hg, r⟩
  · exact .inl h
  · exact .inr ⟨g, cap, cur, hv, hb, (k g _ _ hg).trans hg, r⟩
theorem Keep5.grown {w w' : World} {row : Option Nat} (h : w.grownBy w' row) (hr : ∀ k, row = some k → ∀ (cs : Array Value) (fz : Nat × Nat), w.heap[k]? ≠ some (Obj.cells cs 5 fz)) : Keep5 w w' := fun g cs fz hg =>
  h.block g (Array.getElem?_eq_some_iff.1 hg).1 (fun e => hr g e.symm cs fz hg)
theorem Keep5.setCell (w : World) (g o : Nat) (u : Value) (hr : ∀ (cs : Array Value) (fz : Nat × Nat), w.heap[g]? ≠ some (Obj.cells cs 5 fz)) : Keep5 w (w.setCell ⟨g, o, none⟩ u) := fun k cs fz hk =>
  heap_setCell_other w ⟨g, o, none⟩ k _ (fun e => hr cs fz (by subst e; exact hk))

structure Its (w : World) (B : Nat) (ls ws : List Value) (ds : List (List UInt8)) : Prop where
  l1 : ls.length = ds.length
  l2 : ws.length = ds.length
  own : ∀ (i : Nat) v u d, ls[i]? = some v → ws[i]? = some u → ds[i]? = some d → d.length ≤ 281474976710656 ∧ w.ownsRow B 5 1 v d.length (d.map b8) ∧ w.ownsRow B 5 1 u d.length (d.map b8)
  apart : ∀ (i j : Nat) v v', i < j → ls[i]? = some v → ls[j]? = some v' → v.ownBlock = none ∨ v.ownBlock ≠ v'.ownBlock
theorem Its.keep {w w' : World} {B : Nat} {ls ws : List Value} {ds : List (List UInt8)} (h : Its w B ls ws ds) (k : Keep5 w w') : Its w' B ls ws ds :=
  ⟨h.l1, h.l2, fun i v u d hv hu hd => by
    obtain ⟨h0, h1, h2⟩ := h.own i v u d hv hu hd
    exact ⟨h0, k.owns h1, k.owns h2⟩, h.apart⟩
theorem Its.tail {w : World} {B : Nat} {v u : Value} {ls ws : List Value} {d : List UInt8} {ds : List (List UInt8)} (h : Its w B (v :: ls) (u :: ws) (d :: ds)) : Its w B ls ws ds :=
  ⟨by simpa using h.l1, by simpa using h.l2, fun i v' u' d' hv hu hd => h.own (i + 1) v' u' d' (by simpa using hv) (by simpa using hu) (by simpa using hd),
   fun i j v1 v2 hij h1 h2 => h.apart (i + 1) (j + 1) v1 v2 (by omega) (by simpa using h1) (by simpa using h2)⟩
theorem Its.snoc {w : World} {B : Nat} {v u : Value} {ls ws : List Value} {d : List UInt8} {ds : List (List UInt8)} (h : Its w B ls ws ds) (hd : d.length ≤ 281474976710656) (hv : w.ownsRow B 5 1 v d.length (d.map b8)) (hu : w.ownsRow B 5 1 u d.length (d.map b8))
    (ha : ∀ x ∈ ls, x.ownBlock = none ∨ x.ownBlock ≠ v.ownBlock) : Its w B (ls ++ [v]) (ws ++ [u]) (ds ++ [d]) := by
  have l1 := h.l1
  have l2 := h.l2
  refine ⟨by simp [l1], by simp [l2], fun i v' u' d' h1 h2 h3 => ?_, fun i j v1 v2 hij h1 h2 => ?_⟩
  · rcases Nat.lt_trichotomy i ds.length with hi | hi | hi
    · rw [List.getElem?_append_left (by omega)] at h1 h2 h3
      exact h.own i v' u' d' h1 h2 h3
    · rw [List.getElem?_append_right (by omega)] at h1 h2 h3
      rw [l1] at h1; rw [l2] at h2
      simp [hi] at h1 h2 h3
      subst h1 h2 h3
      exact ⟨hd, hv, hu⟩
    · rw [List.getElem?_eq_none (by simp [l1]; omega)] at h1
      cases h1
  · have hj : j < ls.length + 1 := by
      have := (List.getElem?_eq_some_iff.1 h2).1
      simpa using this
    rw [List.getElem?_append_left (by omega)] at h1
    rcases Nat.lt_or_ge j ls.length with hj2 | hj2
    · rw [List.getElem?_append_left hj2] at h2
      exact h.apart i j v1 v2 hij h1 h2
    · obtain rfl : j = ls.length := by omega
      simp at h2
      subst h2
      exact ha v1 (List.mem_of_getElem? h1)

/-- A book of rows of bytes, with nothing bad seen. -/
def BkI (w : World) (B gb : Nat) (ls ws : List Value) (ds : List (List UInt8)) : Prop :=
  ∃ lv wv held, w.heap[gb]? = some (Obj.cells #[lv, wv, .int .i64 held, .bool false] 34 (0, 0)) ∧ B ≤ gb ∧ OwA w B 22 lv ls ∧ OwA w B 22 wv ws ∧ (lv.ownBlock = none ∨ lv.ownBlock ≠ wv.ownBlock) ∧ -9223372036854775808 ≤ held ∧ held ≤ 9223372036854775807 ∧ Its w B ls ws ds
theorem OwA.ne {w : World} {B e t : Nat} {v : Value} {xs : List Value} (h : OwA w B e v xs) {g : Nat} {cs : Array Value} {fz : Nat × Nat} (hg : w.heap[g]? = some (Obj.cells cs t fz)) (hne : t ≠ e) : some g ≠ v.ownBlock := by
  intro hk
  obtain ⟨_, _, cur, hc⟩ := h.lt g hk.symm
  rw [hg] at hc
  simp at hc
  exact hne hc.2.1

theorem wrap64_ge (n : Int) : -9223372036854775808 ≤ wrap64 n := by unfold wrap64; omega
theorem wrap64_le (n : Int) : wrap64 n ≤ 9223372036854775807 := by unfold wrap64; omega
theorem dropA_block (b o k c : Nat) (n : Nat) (m : Nat) : (Value.slice (dropA (some ⟨b, o, none⟩) k c) n m).ownBlock = some b := by
  unfold dropA
  split <;> simp [Value.ownBlock, Addr.add_lit]
theorem book_dropped {wr w' : World} {B gb b1 o1 b2 o2 M cl cw : Nat} {held held' : Int} {L W : List Value} {D : List (List UInt8)}
    (hoth : ∀ k, k ≠ gb → w'.heap[k]? = wr.heap[k]?) (hg' : w'.heap[gb]? = some (Obj.cells #[.slice (dropA (some ⟨b1, o1, none⟩) 1 cl) (M - 1) (cl - 1), .slice (dropA (some ⟨b2, o2, none⟩) 1 cw) (M - 1) (cw - 1), .int .i64 held', .bool false] 34 (0, 0)))
    (hg : wr.heap[gb]? = some (Obj.cells #[.slice (some ⟨b1, o1, none⟩) M cl, .slice (some ⟨b2, o2, none⟩) M cw, .int .i64 held, .bool false] 34 (0, 0))) (hB : B ≤ gb) (hgb1 : gb ≠ b1) (hgb2 : gb ≠ b2)
    (hT : OwA wr B 22 (.slice (dropA (some ⟨b1, o1, none⟩) 1 cl) (M - 1) (cl - 1)) L) (hU : OwA wr B 22 (.slice (dropA (some ⟨b2, o2, none⟩) 1 cw) (M - 1) (cw - 1)) W)
    (hlw : (Value.slice (some ⟨b1, o1, none⟩) M cl).ownBlock = none ∨ (Value.slice (some ⟨b1, o1, none⟩) M cl).ownBlock ≠ (Value.slice (some ⟨b2, o2, none⟩) M cw).ownBlock)
    (h0 : -9223372036854775808 ≤ held') (h1 : held' ≤ 9223372036854775807) (hI : Its wr B L W D) : BkI w' B gb L W D ∧ Keep5 wr w' := by
  have hk : Keep5 wr w' := fun k cs fz hk => hoth k (fun e => by subst e; rw [hg] at hk; simp at hk)
  refine ⟨⟨_, _, _, hg', hB, hT.kept (fun k h => ?_), hU.kept (fun k h => ?_), ?_, h0, h1, hI.keep hk⟩, hk⟩
  · rw [dropA_block] at h
    exact hoth k (fun e => hgb1 (by rw [← e]; exact (Option.some.inj h).symm))
  · rw [dropA_block] at h
    exact hoth k (fun e => hgb2 (by rw [← e]; exact (Option.some.inj h).symm))
  · rw [dropA_block, dropA_block]
    exact hlw
/-- How many lists a book holds. -/
def bkLen (w : World) (gb : Nat) : Nat := match w.cell? ⟨gb, 0, none⟩ with | some (Value.slice _ n _) => n | _ => 0
theorem bkLen_eq {w : World} {gb : Nat} {a : Option Addr} {n c : Nat} (h : w.cell? ⟨gb, 0, none⟩ = some (Value.slice a n c)) : bkLen w gb = n := by simp [bkLen, h]
set_option maxHeartbeats 1000000 in
set_option maxRecDepth 100000 in
theorem keep_any (w : World) (B gb : Nat) (ls ws : List Value) (ds : List (List UInt8)) (h : BkI w B gb ls ws ds) (hl : ds.length ≤ 4000) (a : Option Addr) (n c : Nat) (d : List UInt8) (ho : w.ownsRow B 5 1 (.slice a n c) n (d.map b8)) (hn : n ≤ 140737488355328)
    (hap : ∀ x ∈ ls, x.ownBlock = none ∨ x.ownBlock ≠ (Value.slice a n c).ownBlock) :
    Calls Tryd.prog 18 #[.pointer (some ⟨gb, 0, none⟩), .slice a n c] w fun e w' => e = .returned (.tuple #[]) ∧ (∃ u k, (∀ q, u.ownBlock = some q → w.heap.size ≤ q) ∧ BkI w' B gb ((ls ++ [Value.slice a n c]).drop k) ((ws ++ [u]).drop k) ((ds ++ [d]).drop k)) ∧ Below B w w' ∧ Keep5 w w' := by
  obtain ⟨lv, wv, held, hg, hB, hlv, hwv, hlw, h0, h1, hI⟩ := h
  have e1 := hI.l1
  have e2 := hI.l2
  obtain ⟨al, cl, rfl, -⟩ := hlv.rv (by omega)
  obtain ⟨aw, cw, rfl, -⟩ := hwv.rv (by omega)
  have hne1 := hlv.ne hg (by decide)
  have hne2 := hwv.ne hg (by decide)
  have hll : ls.length ≤ 4000 := by omega
  have hwl : ws.length ≤ 4000 := by omega
  have E1 := Lib.hid e1
  have E2 := Lib.hid e2
  have HI := Lib.hid hI
  clear e1 e2 hI
  have Hg := Lib.hid hg
  have HO := Lib.hid ho
  have HP := Lib.hid hap
  have hlt := (Array.getElem?_eq_some_iff.1 hg).1
  have c0 := cell_of_row w gb 0 _ _ _ hg
  have f := fun o => frozen_of_row w gb o _ _ hg
  simp at c0
  clear hap ho hg
  go_enter Tryd.func18, Tryd.ntmps18
  go_wp2_with (first
    | (at_builtin; refine L_appendA rfl _ _ _ rfl sl32 B (.slice al ls.length cl) ls rfl (hlv.kept (fun k hk => Below.heap_alloc w _ k (hlv.lt k hk).2.1)) ⟨w.heap.size, 0, none⟩ 1 (.slice a n c) rfl (by simp) rfl (by omega) (by simp [maxLen]; omega) (by simp; omega) (fun a1 c1 w1 ho1 hg1 hat1 => ?_)
       have hgw1 := (hg1.block gb (by simp; omega) hne1).trans ((Below.heap_alloc w _ gb hlt).trans Hg.out)
       have c01 := cell_of_row w1 gb 0 _ _ _ hgw1
       have f01 := fun o => frozen_of_row w1 gb o _ _ hgw1))
  have hne3 := ho1.ne hgw1 (by decide)
  have hg2 : (w1.setCell ⟨gb, 0, none⟩ (.slice (some a1) (ls.length + 1) c1)).heap[gb]? = some (Obj.cells #[.slice (some a1) (ls.length + 1) c1, .slice aw ws.length cw, .int .i64 held, .bool false] 34 (0, 0)) := heap_setCell_same w1 gb 0 _ _ _ hgw1
  have hb1 : Below B w w1 := ((Below.refl B w).alloc (by omega) _).grown hg1 (by simp; omega) (fun k hk => (hlv.lt k hk).1)
  have hb2 := hb1.setCell (p := ⟨gb, 0, none⟩) hB (.slice (some a1) (ls.length + 1) c1)
  have hk1 : Keep5 w w1 := ((Keep5.grown (World.grownBy_alloc w (.cells #[.slice a n c] 22) none) (by intro k hk; cases hk))).trans (Keep5.grown hg1 (fun k hk cs fz => by
    obtain ⟨_, hl2, cur, hc⟩ := hlv.lt k hk
    rw [Below.heap_alloc w _ k hl2, hc]; simp))
  have hk2 := hk1.trans (Keep5.setCell w1 gb 0 (.slice (some a1) (ls.length + 1) c1) (fun cs fz => by rw [hgw1]; simp))
  have ho2 : OwA (w1.setCell ⟨gb, 0, none⟩ (.slice (some a1) (ls.length + 1) c1)) B 22 (.slice (some a1) (ls.length + 1) c1) (ls ++ [.slice a n c]) := ho1.kept (fun k hk => heap_setCell_other w1 ⟨gb, 0, none⟩ k _ (fun e => hne3 (by rw [hk, e])))
  have hap1 : some a1.block ≠ (Value.slice aw ws.length cw).ownBlock := by
    rcases hat1 with h | h
    · rw [h]
      rcases hlw with h2 | h2
      · rw [h2] at h; cases h
      · exact h2
    · intro e
      have := (hwv.lt _ e.symm).2.1
      simp at h; omega
  have hw2 : OwA (w1.setCell ⟨gb, 0, none⟩ (.slice (some a1) (ls.length + 1) c1)) B 22 (.slice aw ws.length cw) ws := hwv.kept (fun k hk => by
    have hl2 := (hwv.lt k hk).2.1
    rw [heap_setCell_other w1 ⟨gb, 0, none⟩ k _ (fun e => hne2 (by rw [hk, e])), hg1.block k (by simp; omega) (fun e => by
      rcases hlw with h2 | h2
      · rw [h2] at e; cases e
      · exact h2 (by rw [← e, hk])), Below.heap_alloc w _ k hl2])
  clear hg1 hgw1 c01 f01 hb1 hk1 hne3 ho1 hlv hwv hlw hat1 c0 f hne1 Hg
  generalize w1.setCell ⟨gb, 0, none⟩ (.slice (some a1) (ls.length + 1) c1) = w2 at *
  have hlt2 := (Array.getElem?_eq_some_iff.1 hg2).1
  have c21 := cell_of_row w2 gb 1 _ _ _ hg2
  have f2 := fun o => frozen_of_row w2 gb o _ _ hg2
  simp at c21
  have HG2 := Lib.hid hg2
  have hr2 := R8.of_owns (hk2.owns HO.out) (by omega)
  have z2 := hb2.size
  have hB2 : B ≤ w2.heap.size := by omega
  clear hg2
  have HB1 := Lib.hid (show (0 + n) * 1 ≤ 140737488355328 by omega)
  have HB2 := Lib.hid (show 0 + n ≤ maxLen by simp [maxLen]; omega)
  have HB3 := Lib.hid (show (ws.length + 1) * 24 ≤ 140737488355328 by omega)
  have HB4 := Lib.hid (show ws.length + 1 ≤ maxLen by simp [maxLen]; omega)
  go_upto_block 0 with (fail)
  go_cut [] (fun wx => ∃ u, (∀ q, u.ownBlock = some q → w.heap.size ≤ q) ∧ BkI wx B gb (ls ++ [Value.slice a n c]) (ws ++ [u]) (ds ++ [d]) ∧ Below B w wx ∧ Keep5 w wx)
  case first =>
   go_region_law (first
    | (refine S_append8 rfl (.const (.slice none 0 0)) (.tmp 19) 22 (by rfl) sl22 B (.slice none 0 0) 0 [] (by rfl) (World.ownsRow_nil _ _ _ _) a n c d (by rfl) hr2 HB1.out HB2.out (by simpa using hB2) (fun a3 c3 w3 ho3 hg3 hat3 => ?_)
       have c31 := (hg3.cell_far ⟨gb, 1, none⟩ (by simpa using hlt2) (by simp [Value.ownBlock])).trans c21
       have f31 := (hg3.frozen_far ⟨gb, 1, none⟩ (by simpa using hlt2) (by simp [Value.ownBlock])).trans (f2 1)
       have hca3 : ∀ o, (w3.alloc o).cell? ⟨gb, 1, none⟩ = some (.slice aw ws.length cw) := fun o => by rw [World.cell?_alloc_past (hn := by have := hg3.size; simp at this; omega)]; exact c31)
    | (refine S_appendA rfl (.tmp 18) (.tmp 21) 32 (by rfl) sl32 B (.slice aw ws.length cw) ws (by rfl) (hw2.kept (fun k hk => by rw [Below.heap_alloc w3 _ k (by have := (hw2.lt k hk).2.1; have := hg3.size; simp at this; omega)]; exact hg3.block k (hw2.lt k hk).2.1 (by simp [Value.ownBlock]))) ⟨w3.heap.size, 0, none⟩ 1 (.slice a3 (0 + n) c3) (by rfl) (by simp) rfl HB3.out HB4.out (by have := hg3.size; simp at this; simp; omega) (fun a4 c4 w4 ho4 hg4 hat4 => ?_)
       have z3 := hg3.size
       have hh3 := (hg3.block gb (by simpa using hlt2) (by simp [Value.ownBlock])).trans HG2.out
       have hh4 := (hg4.block gb (by simp at z3; simp; omega) hne2).trans ((Below.heap_alloc w3 _ gb (by simp at z3; omega)).trans hh3)
       have c41 := cell_of_row w4 gb 1 _ _ _ hh4
       have f41 := frozen_of_row w4 gb 1 _ _ hh4
       clear hh3))
   all_goals
    have hg5 : (w4.setCell ⟨gb, 1, none⟩ (.slice (some a4) (ws.length + 1) c4)).heap[gb]? = some (Obj.cells #[.slice (some a1) (ls.length + 1) c1, .slice (some a4) (ws.length + 1) c4, .int .i64 held, .bool false] 34 (0, 0)) := heap_setCell_same w4 gb 1 _ _ _ hh4
    have hne3 := ho2.ne HG2.out (by decide)
    have hne4 := ho4.ne hh4 (by decide)
    have hb4 : Below B w w4 := ((hb2.drew.grown hg3 (by simp; omega) (fun k hk => by simp [Value.ownBlock] at hk)).alloc (by simp at z3; omega) _).grown hg4 (by simp at z3 ⊢; omega) (fun k hk => (hw2.lt k hk).1)
    have hk4 : Keep5 w2 w4 := (((show Keep5 w2 w2.drew from fun _ _ _ _ => rfl).trans (Keep5.grown hg3 (fun k hk => by simp [Value.ownBlock] at hk))).trans (Keep5.grown (World.grownBy_alloc w3 (.cells #[.slice a3 n c3] 22) none) (by intro k hk; cases hk))).trans (Keep5.grown hg4 (fun k hk cs fz => by
      obtain ⟨_, hl2, cur, hc⟩ := hw2.lt k hk
      rw [Below.heap_alloc w3 _ k (by simp at z3; omega), hg3.block k (by simpa using hl2) (by simp [Value.ownBlock])]
      rw [show w2.drew.heap = w2.heap from rfl, hc]; simp))
    have HUQ := Lib.hid (show ∀ q, (Value.slice a3 (0 + n) c3).ownBlock = some q → w.heap.size ≤ q from fun q hq => by
      rcases hat3 with h | h
      · rw [h] at hq; simp [Value.ownBlock] at hq
      · rw [h] at hq
        have := Option.some.inj hq
        simp at this; omega)
    have hk34 : Keep5 w3 w4 := ((Keep5.grown (World.grownBy_alloc w3 (.cells #[.slice a3 n c3] 22) none) (by intro k hk; cases hk))).trans (Keep5.grown hg4 (fun k hk cs fz => by
      obtain ⟨_, hl2, cur, hc⟩ := hw2.lt k hk
      rw [Below.heap_alloc w3 _ k (by simp at z3; omega), hg3.block k (by simpa using hl2) (by simp [Value.ownBlock])]
      rw [show w2.drew.heap = w2.heap from rfl, hc]; simp))
    have hk45 := Keep5.setCell w4 gb 1 (.slice (some a4) (ws.length + 1) c4) (fun cs fz => by rw [hh4]; simp)
    have hl1 := (ho2.lt _ rfl).2.1
    have ho5 : OwA (w4.setCell ⟨gb, 1, none⟩ (.slice (some a4) (ws.length + 1) c4)) B 22 (.slice (some a1) (ls.length + 1) c1) (ls ++ [.slice a n c]) := ho2.kept (fun k hk => by
      obtain rfl : a1.block = k := by simpa [Value.ownBlock] using hk
      rw [heap_setCell_other w4 ⟨gb, 1, none⟩ _ _ (fun e => hne3 (by simp [Value.ownBlock, e])), hg4.block _ (by simp at z3; simp; omega) hap1, Below.heap_alloc w3 _ _ (by simp at z3; omega), hg3.block _ (by simpa using hl1) (by simp [Value.ownBlock])]
      rfl)
    have hw5 : OwA (w4.setCell ⟨gb, 1, none⟩ (.slice (some a4) (ws.length + 1) c4)) B 22 (.slice (some a4) (ws.length + 1) c4) (ws ++ [.slice a3 (0 + n) c3]) := ho4.kept (fun k hk => heap_setCell_other w4 ⟨gb, 1, none⟩ k _ (fun e => hne4 (by rw [hk, e])))
    have hap5 : (Value.slice (some a1) (ls.length + 1) c1).ownBlock = none ∨ (Value.slice (some a1) (ls.length + 1) c1).ownBlock ≠ (Value.slice (some a4) (ws.length + 1) c4).ownBlock := by
      right
      simp only [Value.ownBlock]
      intro e
      rcases hat4 with h | h
      · exact hap1 (by rw [e, h])
      · obtain e := Option.some.inj e
        simp at h z3; omega
    have hI5 : Its (w4.setCell ⟨gb, 1, none⟩ (.slice (some a4) (ws.length + 1) c4)) B (ls ++ [.slice a n c]) (ws ++ [.slice a3 (0 + n) c3]) (ds ++ [d]) := by
      have hdn : d.length = n := by have := HO.out.1; simpa using this
      refine (HI.out.keep ((hk2.trans hk4).trans hk45)).snoc (by omega) ?_ ?_ HP.out
      · rw [hdn]; exact ((hk2.trans hk4).trans hk45).owns HO.out
      · have := (hk34.trans hk45).owns ho3
        rw [hdn]
        simpa using this
    have hb5 := hb4.setCell (p := ⟨gb, 1, none⟩) hB (.slice (some a4) (ws.length + 1) c4)
    have hk5 := (hk2.trans hk4).trans hk45
    generalize w4.setCell ⟨gb, 1, none⟩ (.slice (some a4) (ws.length + 1) c4) = w5 at *
    clear hk45 hk34 hk4 hb4 hne3 hne4 c41 f41 hh4 hat4 hg4 ho4 hca3 f31 c31 hat3 hg3 ho3 hr2 HG2 c21 f2 hw2 ho2 hk2 hb2 hap1 hne2 hl1 HB1 HB2 HB3 HB4 z2 z3 hB2
    go_wp2
    go_meet
    exact ⟨_, HUQ.out, ⟨_, _, _, hg5, hB, ho5, hw5, hap5, h0, h1, hI5⟩, hb5, hk5⟩
  case rest =>
    obtain ⟨u, hUQ, hI2, hbc, hkc⟩ := hcut
    have HUQ := Lib.hid hUQ
    clear hUQ
    clear hb2 HB1 HB2 HB3 HB4 hap1 hne2
    obtain ⟨lv, wv, held2, hg, -, hlv, hwv, hlw, h02, h12, hI2⟩ := hI2
    have c52 := cell_of_row wc gb 2 _ _ _ hg
    have f5 := frozen_of_row wc gb 2 _ _ hg
    simp at c52
    have HG5 := Lib.hid hg
    have HI2 := Lib.hid hI2
    clear hg hI2
    go_wp2_with fail
    have hg6 : ∀ u, (wc.setCell ⟨gb, 2, none⟩ u).heap[gb]? = some (Obj.cells #[lv, wv, u, .bool false] 34 (0, 0)) := fun u => heap_setCell_same wc gb 2 _ _ _ HG5.out
    have hne5 := hlv.ne HG5.out (by decide)
    have hne6 := hwv.ne HG5.out (by decide)
    have hk56 := fun u => Keep5.setCell wc gb 2 u (fun cs fz => by rw [HG5.out]; simp)
    have hl5 := fun u => hlv.kept (w' := wc.setCell ⟨gb, 2, none⟩ u) (fun k hk => heap_setCell_other wc ⟨gb, 2, none⟩ k _ (fun e => hne5 (by rw [hk, e])))
    have hw5 := fun u => hwv.kept (w' := wc.setCell ⟨gb, 2, none⟩ u) (fun k hk => heap_setCell_other wc ⟨gb, 2, none⟩ k _ (fun e => hne6 (by rw [hk, e])))
    have hb5 := fun u => hbc.setCell (p := ⟨gb, 2, none⟩) hB u
    go_loopw [] (fun wr => ∃ k, k ≤ ls.length ∧ BkI wr B gb ((ls ++ [Value.slice a n c]).drop k) ((ws ++ [u]).drop k) ((ds ++ [d]).drop k) ∧ Below B w wr ∧ Keep5 w wr) (fun wr => bkLen wr gb)
    case atStart =>
      refine ⟨0, by omega, ⟨_, _, _, hg6 _, hB, hl5 _, hw5 _, hlw, ?_, ?_, HI2.out.keep (hk56 _)⟩, hb5 _, hkc.trans (hk56 _)⟩
      · exact wrap64_ge _
      · exact wrap64_le _
    case round =>
      clear hl5 hw5 hb5 hk56 hne5 hne6 hg6 hlv hwv hlw h02 h12 f5 c52 HG5 HI2
      obtain ⟨k, hk, ⟨lv, wv, held, hg, -, hlv, hwv, hlw, h0, h1, hI⟩, hb, hkp⟩ := hrel
      have eL : ((ls ++ [Value.slice a n c]).drop k).length = ls.length + 1 - k := by simp
      have hk1 : (ls ++ [Value.slice a n c]).drop (k + 1) = ((ls ++ [Value.slice a n c]).drop k).drop 1 := by rw [List.drop_drop]
      have hk2 : (ws ++ [u]).drop (k + 1) = ((ws ++ [u]).drop k).drop 1 := by rw [List.drop_drop]
      have hk3 : (ds ++ [d]).drop (k + 1) = ((ds ++ [d]).drop k).drop 1 := by rw [List.drop_drop]
      obtain ⟨L, HKL⟩ : ∃ L, RowKit.Hid ((ls ++ [Value.slice a n c]).drop k = L) := ⟨_, Lib.hid rfl⟩
      obtain ⟨W, HKW⟩ : ∃ L, RowKit.Hid ((ws ++ [u]).drop k = L) := ⟨_, Lib.hid rfl⟩
      obtain ⟨D, HKD⟩ : ∃ L, RowKit.Hid ((ds ++ [d]).drop k = L) := ⟨_, Lib.hid rfl⟩
      rw [HKL.out] at hk1 hlv hI eL
      rw [HKW.out] at hk2 hwv hI
      rw [HKD.out] at hk3 hI
      have e1 := hI.l1
      have e2 := hI.l2
      have HK1 := Lib.hid hk1; have HK2 := Lib.hid hk2; have HK3 := Lib.hid hk3
      clear hk1 hk2 hk3
      obtain ⟨al, cl, rfl, rl⟩ := hlv.rv (by omega)
      obtain ⟨aw, cw, rfl, rw'⟩ := hwv.rv (by omega)
      have c0 := cell_of_row wr gb 0 _ _ _ hg
      have c1 := cell_of_row wr gb 1 _ _ _ hg
      have c2 := cell_of_row wr gb 2 _ _ _ hg
      have c3 := cell_of_row wr gb 3 _ _ _ hg
      have f := fun o => frozen_of_row wr gb o _ _ hg
      simp at c0 c1 c2 c3
      have HG := Lib.hid hg
      have HI := Lib.hid hI
      have E1 := Lib.hid e1
      have E2 := Lib.hid e2
      have EL := Lib.hid eL
      have hLs : L.length ≤ 281474976710656 := by omega
      have hWs : W.length ≤ 281474976710656 := by omega
      have HKK := Lib.hid hk
      generalize hLN : L.length = N at *
      generalize hWN : W.length = M at *
      have HLN := Lib.hid hLN
      have HWN := Lib.hid hWN
      clear hg hI e1 e2 eL hk hLN hWN
      by_cases n1 : 1 < N
      · have hMN : M = N := E2.out.trans E1.out.symm
        subst hMN
        cases L with
        | nil => have := HLN.out; simp at this; omega
        | cons v0 L =>
        cases W with
        | nil => have := HWN.out; simp at this; omega
        | cons u0 W =>
        cases D with
        | nil => have := HI.out.l1; simp at this
        | cons d0 D =>
        have HBK := Lib.hid (show BkI wr B gb (v0 :: L) (u0 :: W) (d0 :: D) from ⟨_, _, _, HG.out, hB, hlv, hwv, hlw, h0, h1, HI.out⟩)
        obtain ⟨hd0, hv0, hu0⟩ := HI.out.own 0 v0 u0 d0 rfl rfl rfl
        obtain ⟨av, cv, rfl, -⟩ := owns_shape hv0
        obtain ⟨au, cu, rfl, -⟩ := owns_shape hu0
        have R1 := R8.of_owns hv0 hd0
        have R2 := R8.of_owns hu0 hd0
        obtain ⟨b1, o1, y1, rfl, hy1, hcy1⟩ := rl.at (i := 0) (by omega)
        obtain ⟨b2, o2, y2, rfl, hy2, hcy2⟩ := rw'.at (i := 0) (by omega)
        simp only [List.getElem?_cons_zero] at hy1 hy2
        obtain rfl := Option.some.inj hy1
        obtain rfl := Option.some.inj hy2
        have HT := Lib.hid (hlv.tail (by have := HLN.out; simp at this; omega))
        have HU := Lib.hid (hwv.tail (by have := HWN.out; simp at this; omega))
        have HI' := Lib.hid HI.out.tail
        have hbn1 := hlv.ne HG.out (by decide)
        have hbn2 := hwv.ne HG.out (by decide)
        have hcl := rl.2.1
        have hcw := rw'.2.1
        have hs1 := fun wx => slice_from (P := Tryd.prog) sl32 wx (some ⟨b1, o1, none⟩) M cl 1 1 rfl (by omega)
        have hs2 := fun wx => slice_from (P := Tryd.prog) sl32 wx (some ⟨b2, o2, none⟩) M cw 1 1 rfl (by omega)
        have HN1 := Lib.hid n1
        have hn0 : (0 : Int) < (M : Int) := by omega
        have hn00 : 0 < M := by omega
        have n1' : (1 : Int) < (M : Int) := by omega
        have hdl : d0.length ≤ 281474976710656 := hd0
        have HLW := Lib.hid hlw
        simp only [Nat.add_zero] at hcy1 hcy2
        clear hy1 hy2 rl rw' hv0 hu0 hd0 hlv hwv n1 hlw
        generalize d0.length = m0 at *
        have hgb1 : gb ≠ b1 := fun e => hbn1 (by rw [e]; rfl)
        have hgb2 : gb ≠ b2 := fun e => hbn2 (by rw [e]; rfl)
        have hg3 : ∀ nq, ((wr.drewN nq).setCell ⟨gb, 3, none⟩ (.bool false)).heap[gb]? = some (Obj.cells #[.slice (some ⟨b1, o1, none⟩) M cl, .slice (some ⟨b2, o2, none⟩) M cw, .int .i64 held, .bool false] 34 (0, 0)) := fun nq => heap_setCell_same (wr.drewN nq) gb 3 _ _ _ HG.out
        have hks : ∀ nq, ((wr.drewN nq).setCell ⟨gb, 3, none⟩ (.bool false)).cell? ⟨gb, 3, none⟩ = some (.bool false) ∧ ((wr.drewN nq).setCell ⟨gb, 3, none⟩ (.bool false)).cell? ⟨gb, 0, none⟩ = some (.slice (some ⟨b1, o1, none⟩) M cl) ∧ ((wr.drewN nq).setCell ⟨gb, 3, none⟩ (.bool false)).cell? ⟨gb, 1, none⟩ = some (.slice (some ⟨b2, o2, none⟩) M cw) ∧ ((wr.drewN nq).setCell ⟨gb, 3, none⟩ (.bool false)).cell? ⟨b1, o1, none⟩ = some (.slice av m0 cv) ∧ ((wr.drewN nq).setCell ⟨gb, 3, none⟩ (.bool false)).cell? ⟨b2, o2, none⟩ = some (.slice au m0 cu) := fun nq =>
          ⟨cell_of_row _ gb 3 _ _ _ (hg3 nq), cell_of_row _ gb 0 _ _ _ (hg3 nq), cell_of_row _ gb 1 _ _ _ (hg3 nq), (World.cell?_of_block (heap_setCell_other (wr.drewN nq) ⟨gb, 3, none⟩ b1 _ (Ne.symm hgb1))).trans hcy1, (World.cell?_of_block (heap_setCell_other (wr.drewN nq) ⟨gb, 3, none⟩ b2 _ (Ne.symm hgb2))).trans hcy2⟩
        have KS := Lib.hid hks
        have HG3 := Lib.hid hg3
        clear hg3 hks
        by_cases n2 : 1000000 < held
        · go_wp2
          go_region_held3 (fun w => w.cell? ⟨gb, 3, none⟩ = some (.bool false) ∧ w.cell? ⟨gb, 0, none⟩ = some (.slice (some ⟨b1, o1, none⟩) M cl) ∧ w.cell? ⟨gb, 1, none⟩ = some (.slice (some ⟨b2, o2, none⟩) M cw) ∧ w.cell? ⟨b1, o1, none⟩ = some (.slice av m0 cv) ∧ w.cell? ⟨b2, o2, none⟩ = some (.slice au m0 cu)) (first | exact ⟨c3, c0, c1, hcy1, hcy2⟩ | exact KS.out _) (first | (go_at_call 17; refine (same_any _ _ _ _ _ _ _ _ _ (R1.drewN _) (R2.drewN _) true (by simp)).mono ?_; rintro e w' ⟨rfl, nn, rfl⟩))
          have hgk := HG3.out (1 + nn)
          have hoth : ∀ k, k ≠ gb → ((wr.drewN (1 + nn)).setCell ⟨gb, 3, none⟩ (.bool false)).heap[k]? = wr.heap[k]? := fun k hk => heap_setCell_other (wr.drewN (1 + nn)) ⟨gb, 3, none⟩ k _ hk
          have hbk := (below_drewN hb (1 + nn)).setCell (p := ⟨gb, 3, none⟩) hB (.bool false)
          generalize (wr.drewN (1 + nn)).setCell ⟨gb, 3, none⟩ (.bool false) = w6 at *
          have d0 := cell_of_row w6 gb 0 _ _ _ hgk
          have d2 := cell_of_row w6 gb 2 _ _ _ hgk
          have fd := fun o => frozen_of_row w6 gb o _ _ hgk
          simp at d0 d2
          have db1 : w6.cell? ⟨b1, o1, none⟩ = some (.slice av m0 cv) := (World.cell?_of_block (hoth b1 (Ne.symm hgb1))).trans hcy1
          have HGK := Lib.hid hgk
          have HOTH := Lib.hid hoth
          clear hgk hoth c0 c1 c2 c3 f hcy1 hcy2
          go_wp2
          go_still_tail 14, (by kernel_rfl)
          change wpList _ _ _ _ _ w6.drew
          have e0 : w6.drew.cell? ⟨gb, 0, none⟩ = _ := d0
          have e1 : w6.drew.cell? ⟨gb, 1, none⟩ = some (.slice (some ⟨b2, o2, none⟩) M cw) := cell_of_row w6 gb 1 _ _ _ HGK.out
          have e2 : w6.drew.cell? ⟨gb, 2, none⟩ = _ := d2
          have fe : ∀ o, w6.drew.frozen? ⟨gb, o, none⟩ = false := fd
          have hbk7 : Below B w w6.drew := hbk.drew
          have HOTH7 := Lib.hid (show ∀ k, k ≠ gb → w6.drew.heap[k]? = wr.heap[k]? from HOTH.out)
          have HGK7 := Lib.hid (show w6.drew.heap[gb]? = _ from HGK.out)
          clear HOTH HGK d0 d2 fd hbk db1
          generalize w6.drew = w7 at *
          go_wp2
          generalize hX : wrap64 (wrap64 (held - (cv : Int)) - 1) = X
          have hX0 : -9223372036854775808 ≤ X := by rw [← hX]; exact wrap64_ge _
          have hX1 : X ≤ 9223372036854775807 := by rw [← hX]; exact wrap64_le _
          have q1 := heap_setCell_same w7 gb 2 _ _ (.int .i64 X) HGK7.out
          have q2 := heap_setCell_same _ gb 0 _ _ (.slice (dropA (some ⟨b1, o1, none⟩) 1 cl) (M - 1) (cl - 1)) q1
          have q3 := heap_setCell_same _ gb 1 _ _ (.slice (dropA (some ⟨b2, o2, none⟩) 1 cw) (M - 1) (cw - 1)) q2
          have hb8 := ((hbk7.setCell (p := ⟨gb, 2, none⟩) hB (.int .i64 X)).setCell (p := ⟨gb, 0, none⟩) hB (.slice (dropA (some ⟨b1, o1, none⟩) 1 cl) (M - 1) (cl - 1))).setCell (p := ⟨gb, 1, none⟩) hB (.slice (dropA (some ⟨b2, o2, none⟩) 1 cw) (M - 1) (cw - 1))
          have hoth8 : ∀ k, k ≠ gb → (((w7.setCell ⟨gb, 2, none⟩ (.int .i64 X)).setCell ⟨gb, 0, none⟩ (.slice (dropA (some ⟨b1, o1, none⟩) 1 cl) (M - 1) (cl - 1))).setCell ⟨gb, 1, none⟩ (.slice (dropA (some ⟨b2, o2, none⟩) 1 cw) (M - 1) (cw - 1))).heap[k]? = wr.heap[k]? := fun k hk => by
            rw [heap_setCell_other _ ⟨gb, 1, none⟩ k _ hk, heap_setCell_other _ ⟨gb, 0, none⟩ k _ hk, heap_setCell_other _ ⟨gb, 2, none⟩ k _ hk, HOTH7.out k hk]
          generalize ((w7.setCell ⟨gb, 2, none⟩ (.int .i64 X)).setCell ⟨gb, 0, none⟩ (.slice (dropA (some ⟨b1, o1, none⟩) 1 cl) (M - 1) (cl - 1))).setCell ⟨gb, 1, none⟩ (.slice (dropA (some ⟨b2, o2, none⟩) 1 cw) (M - 1) (cw - 1)) = w8 at *
          obtain ⟨hbk8, hkk8⟩ := book_dropped hoth8 q3 HG.out hB hgb1 hgb2 HT.out HU.out HLW.out hX0 hX1 HI'.out
          have z0 := bkLen_eq (cell_of_row w8 gb 0 _ _ _ q3)
          have z1 := bkLen_eq (cell_of_row wr gb 0 _ _ _ HG.out)
          refine ⟨⟨k + 1, by have := EL.out; omega, by rw [HK1.out, HK2.out, HK3.out]; exact hbk8, hb8, hkp.trans hkk8⟩, ?_⟩
          rw [z0, z1]; omega
        · have n2' := Lib.hid n2
          by_cases n3 : 4000 < M
          · go_wp2
            go_region_held3 (fun w => w.cell? ⟨gb, 3, none⟩ = some (.bool false) ∧ w.cell? ⟨gb, 0, none⟩ = some (.slice (some ⟨b1, o1, none⟩) M cl) ∧ w.cell? ⟨gb, 1, none⟩ = some (.slice (some ⟨b2, o2, none⟩) M cw) ∧ w.cell? ⟨b1, o1, none⟩ = some (.slice av m0 cv) ∧ w.cell? ⟨b2, o2, none⟩ = some (.slice au m0 cu)) (first | exact ⟨c3, c0, c1, hcy1, hcy2⟩ | exact KS.out _) (first | (go_at_call 17; refine (same_any _ _ _ _ _ _ _ _ _ (R1.drewN _) (R2.drewN _) true (by simp)).mono ?_; rintro e w' ⟨rfl, nn, rfl⟩))
            have hgk := HG3.out (1 + nn)
            have hoth : ∀ k, k ≠ gb → ((wr.drewN (1 + nn)).setCell ⟨gb, 3, none⟩ (.bool false)).heap[k]? = wr.heap[k]? := fun k hk => heap_setCell_other (wr.drewN (1 + nn)) ⟨gb, 3, none⟩ k _ hk
            have hbk := (below_drewN hb (1 + nn)).setCell (p := ⟨gb, 3, none⟩) hB (.bool false)
            generalize (wr.drewN (1 + nn)).setCell ⟨gb, 3, none⟩ (.bool false) = w6 at *
            have d0 := cell_of_row w6 gb 0 _ _ _ hgk
            have d2 := cell_of_row w6 gb 2 _ _ _ hgk
            have fd := fun o => frozen_of_row w6 gb o _ _ hgk
            simp at d0 d2
            have db1 : w6.cell? ⟨b1, o1, none⟩ = some (.slice av m0 cv) := (World.cell?_of_block (hoth b1 (Ne.symm hgb1))).trans hcy1
            have HGK := Lib.hid hgk
            have HOTH := Lib.hid hoth
            clear hgk hoth c0 c1 c2 c3 f hcy1 hcy2
            go_wp2
            go_still_tail 14, (by kernel_rfl)
            change wpList _ _ _ _ _ w6.drew
            have e0 : w6.drew.cell? ⟨gb, 0, none⟩ = _ := d0
            have e1 : w6.drew.cell? ⟨gb, 1, none⟩ = some (.slice (some ⟨b2, o2, none⟩) M cw) := cell_of_row w6 gb 1 _ _ _ HGK.out
            have e2 : w6.drew.cell? ⟨gb, 2, none⟩ = _ := d2
            have fe : ∀ o, w6.drew.frozen? ⟨gb, o, none⟩ = false := fd
            have hbk7 : Below B w w6.drew := hbk.drew
            have HOTH7 := Lib.hid (show ∀ k, k ≠ gb → w6.drew.heap[k]? = wr.heap[k]? from HOTH.out)
            have HGK7 := Lib.hid (show w6.drew.heap[gb]? = _ from HGK.out)
            clear HOTH HGK d0 d2 fd hbk db1
            generalize w6.drew = w7 at *
            go_wp2
            generalize hX : wrap64 (wrap64 (held - (cv : Int)) - 1) = X
            have hX0 : -9223372036854775808 ≤ X := by rw [← hX]; exact wrap64_ge _
            have hX1 : X ≤ 9223372036854775807 := by rw [← hX]; exact wrap64_le _
            have q1 := heap_setCell_same w7 gb 2 _ _ (.int .i64 X) HGK7.out
            have q2 := heap_setCell_same _ gb 0 _ _ (.slice (dropA (some ⟨b1, o1, none⟩) 1 cl) (M - 1) (cl - 1)) q1
            have q3 := heap_setCell_same _ gb 1 _ _ (.slice (dropA (some ⟨b2, o2, none⟩) 1 cw) (M - 1) (cw - 1)) q2
            have hb8 := ((hbk7.setCell (p := ⟨gb, 2, none⟩) hB (.int .i64 X)).setCell (p := ⟨gb, 0, none⟩) hB (.slice (dropA (some ⟨b1, o1, none⟩) 1 cl) (M - 1) (cl - 1))).setCell (p := ⟨gb, 1, none⟩) hB (.slice (dropA (some ⟨b2, o2, none⟩) 1 cw) (M - 1) (cw - 1))
            have hoth8 : ∀ k, k ≠ gb → (((w7.setCell ⟨gb, 2, none⟩ (.int .i64 X)).setCell ⟨gb, 0, none⟩ (.slice (dropA (some ⟨b1, o1, none⟩) 1 cl) (M - 1) (cl - 1))).setCell ⟨gb, 1, none⟩ (.slice (dropA (some ⟨b2, o2, none⟩) 1 cw) (M - 1) (cw - 1))).heap[k]? = wr.heap[k]? := fun k hk => by
              rw [heap_setCell_other _ ⟨gb, 1, none⟩ k _ hk, heap_setCell_other _ ⟨gb, 0, none⟩ k _ hk, heap_setCell_other _ ⟨gb, 2, none⟩ k _ hk, HOTH7.out k hk]
            generalize ((w7.setCell ⟨gb, 2, none⟩ (.int .i64 X)).setCell ⟨gb, 0, none⟩ (.slice (dropA (some ⟨b1, o1, none⟩) 1 cl) (M - 1) (cl - 1))).setCell ⟨gb, 1, none⟩ (.slice (dropA (some ⟨b2, o2, none⟩) 1 cw) (M - 1) (cw - 1)) = w8 at *
            obtain ⟨hbk8, hkk8⟩ := book_dropped hoth8 q3 HG.out hB hgb1 hgb2 HT.out HU.out HLW.out hX0 hX1 HI'.out
            have z0 := bkLen_eq (cell_of_row w8 gb 0 _ _ _ q3)
            have z1 := bkLen_eq (cell_of_row wr gb 0 _ _ _ HG.out)
            refine ⟨⟨k + 1, by have := EL.out; omega, by rw [HK1.out, HK2.out, HK3.out]; exact hbk8, hb8, hkp.trans hkk8⟩, ?_⟩
            rw [z0, z1]; omega
          · have HH := Lib.hid (show BkI wr B gb (.slice av m0 cv :: L) (.slice au m0 cu :: W) (d0 :: D) from HBK.out)
            have hN3 : M ≤ 4000 := by omega
            have hN2 : held ≤ 1000000 := by omega
            go_wp2
            go_end0
            exact ⟨rfl, ⟨u, HUQ.out, k, by rw [HKL.out, HKW.out, HKD.out]; exact HH.out⟩, hb, hkp⟩
      · have HN := Lib.hid n1
        have HH := Lib.hid (show BkI wr B gb L W D from ⟨_, _, _, HG.out, hB, hlv, hwv, hlw, h0, h1, HI.out⟩)
        clear hlv hwv hlw
        go_wp2
        go_end0
        exact ⟨rfl, ⟨u, HUQ.out, k, by rw [HKL.out, HKW.out, HKD.out]; exact HH.out⟩, hb, hkp⟩
end Go.Proofs.YtdepdediggokgaaDoor
