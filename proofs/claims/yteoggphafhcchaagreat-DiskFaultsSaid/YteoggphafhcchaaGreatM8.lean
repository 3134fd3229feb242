import Derived.Test.YteoggphafhcchaaGreatM7
import Derived.Deep.RegionWith
namespace Go.Proofs.YteoggphafhcchaaGreat
open Go Go.RowKit
set_option maxRecDepth 100000
set_option maxHeartbeats 1000000
set_option linter.unusedVariables false
set_option linter.unusedSimpArgs false
open Go.Maps Go.WideMaps
theorem relabel {w w' : World} {ρ : Nat → Nat} {e s r n n' : Nat} {v v' : Value} {xs xs' : List Value} (h : OwnL w ρ e s r v n xs) (dom : ∀ k, ρ k ≠ 0 → k < w.heap.size) (ho : w'.ownsRow 0 e s v' n' xs') (hat : v'.ownBlock = v.ownBlock ∨ v'.ownBlock = some w.heap.size) (hr : r ≠ 0) (hw : w.heap.size ≤ w'.heap.size) :
    ∃ ρ', Ext w.heap.size ρ ρ' ∧ (∀ k, ρ' k ≠ 0 → k < w'.heap.size) ∧ OwnL w' ρ' e s r v' n' xs' := by
  have h0 : ρ w.heap.size = 0 := by
    rcases Nat.eq_zero_or_pos (ρ w.heap.size) with h | h
    · exact h
    · have := dom w.heap.size (by omega); omega
  rcases hat with hat | hat
  · exact ⟨ρ, Ext.refl _ _, fun k hk => Nat.lt_of_lt_of_le (dom k hk) hw, ho, fun k hk => h.2 k (by rw [← hat]; exact hk)⟩
  · refine ⟨put1 ρ w.heap.size r, Ext.put r h0 (Nat.le_refl _), fun k hk => ?_, ho, fun k hk => ?_⟩
    · unfold put1 at hk
      split at hk
      · rename_i e
        subst e
        exact (ho.lt _ hat).2
      · exact Nat.lt_of_lt_of_le (dom k hk) hw
    · rw [hat] at hk; cases hk; simp [put1]
/-- The map of names turned. -/
theorem DAt.names1 {w w' : World} {L : Lay} {gd : Nat} {d : Dm} (h : DAt w L gd d) (hg : w.grownBy w' (some L.nb)) {m : List (Nm × Nat)} (hN : NAt w' L.ρ 2 L.fa L.nb m) : DAt w' L gd { d with names := m } ∧ Upd L.ρ L.ρ w w' := by
  have ho : Only L.ρ (· = 2) w w' := Only.of_grown hg (fun k e => by cases e; exact h.nm.lt.2)
  have hk : ∀ k, L.ρ k ≠ 0 → L.ρ k ≠ 2 → w'.heap[k]? = w.heap[k]? := fun k h0 h1 => ho.block k (h.dom k h0) h1
  refine ⟨⟨(hk gd (by rw [h.lg]; omega) (by rw [h.lg]; omega)).trans h.g, h.lg, fun k e => Nat.lt_of_lt_of_le (h.dom k e) ho.size, hN, h.sf.keep (fun k e => hk k (by omega) (by omega)) (fun _ e => e) (fun _ _ _ => rfl), h.cl.keep (fun k e => hk k (by omega) (by omega)) (fun _ e => e),
    h.ch.keep (fun k e => hk k (by omega) (by omega)) (fun _ e => e), h.pl.keep (fun k e => hk k (by omega) (by omega)) (fun _ e => e), fun i f hf => ?_⟩, Upd.of_only ho (by omega) (Ext.refl _ _)⟩
  obtain ⟨vn, vs, vl, hx⟩ := h.fs i f hf
  exact ⟨vn, vs, vl, hx.keep (fun k e => hk k (by omega) (by omega)) (fun _ _ => rfl)⟩
/-- One more change laid behind the others. -/
theorem DAt.ch1 {w w4 : World} {L : Lay} {gd : Nat} {d : Dm} (h : DAt w L gd d) (hg : w.grownBy w4 L.ch.ownBlock) {v' : Value} {c : Chg} {n' : Nat} (hn : n' = d.changes.length + 1) (ho : w4.ownsRow 0 79 3 v' n' (d.changes.flatMap (chV L.fa) ++ chV L.fa c)) (hat : v'.ownBlock = L.ch.ownBlock ∨ v'.ownBlock = some w.heap.size) :
    ∃ L', DAt (w4.setCell ⟨gd, 8, none⟩ v') L' gd { d with changes := d.changes ++ [c] } ∧ Upd L.ρ L'.ρ w (w4.setCell ⟨gd, 8, none⟩ v') := by
  subst hn
  have o1 : Only L.ρ (fun r => r = 5 ∨ r = 1) w w4 := Only.of_grown hg (fun k e => .inl (h.ch.2 k e))
  have g4 : w4.heap[gd]? = some (boxDisk L d) := (hg.block gd h.lt (fun e => by have := h.ch.2 gd e.symm; rw [h.lg] at this; omega)).trans h.g
  have o2 : Only L.ρ (fun r => r = 5 ∨ r = 1) w (w4.setCell ⟨gd, 8, none⟩ v') := o1.trans (Only.setCell w4 gd 8 v' (.inr h.lg))
  have ho' : (w4.setCell ⟨gd, 8, none⟩ v').ownsRow 0 79 3 v' (d.changes.length + 1) (d.changes.flatMap (chV L.fa) ++ chV L.fa c) := ownsRow_setCell_other ho (a := ⟨gd, 8, none⟩) (fun e => by
    rcases hat with hat | hat
    · have := h.ch.2 gd (by rw [← hat]; exact e); rw [h.lg] at this; omega
    · rw [hat] at e; have e1 : w.heap.size = gd := Option.some.inj e; have := h.lt; omega) v'
  obtain ⟨ρ', he, hd, hO⟩ := relabel h.ch h.dom ho' hat (by omega) o2.size
  have hk : ∀ k, L.ρ k ≠ 0 → L.ρ k ≠ 5 → L.ρ k ≠ 1 → (w4.setCell ⟨gd, 8, none⟩ v').heap[k]? = w.heap[k]? := fun k h0 h1 h2 => o2.block k (h.dom k h0) (by omega)
  have hs : ∀ r, r ≠ 0 → ∀ k, L.ρ k = r → ρ' k = r := fun r hr k e => (he.same k (by omega)).trans e
  refine ⟨{ L with ρ := ρ', ch := v' }, ⟨heap_setCell_same w4 gd 8 _ _ v' g4, hs 1 (by omega) gd h.lg, hd, h.nm.keep (fun k e => hk k (by omega) (by omega) (by omega)) (hs 2 (by omega)) (fun _ _ _ => rfl), h.sf.keep (fun k e => hk k (by omega) (by omega) (by omega)) (hs 3 (by omega)) (fun _ _ _ => rfl), h.cl.keep (fun k e => hk k (by omega) (by omega) (by omega)) (hs 4 (by omega)),
    ?_, h.pl.keep (fun k e => hk k (by omega) (by omega) (by omega)) (hs 6 (by omega)), fun i f hf => ?_⟩, Upd.of_only o2 (by omega) he⟩
  · show OwnL _ ρ' 79 3 5 v' (d.changes ++ [c]).length ((d.changes ++ [c]).flatMap (chV L.fa))
    simpa using hO
  · obtain ⟨vn, vs, vl, hx⟩ := h.fs i f hf
    exact ⟨vn, vs, vl, hx.keep (fun k e => hk k (by omega) (by omega) (by omega)) (fun k e => he.same k e)⟩
theorem keepm {w w' : World} {nb : Nat} (hg : w.grownBy w' (some nb)) {b o : Nat} (hne : b ≠ nb) {v : Value} (h : w.cell? ⟨b, o, none⟩ = some v) : w'.cell? ⟨b, o, none⟩ = some v :=
  (World.cell?_of_block (hg.block b (World.block_lt_of_cell? w _ h) (fun e => hne (Option.some.inj e)))).trans h
theorem sl44 : Sl Tryz.prog 44 79 (.agg #[.string ByteArray.empty, .string ByteArray.empty, .pointer none]) 3 40 := ⟨Tryz.underlying44, by kernel_rfl, rfl, by decide⟩
theorem new_ch (w : World) (f t : ByteArray) (m : Value) {k : Nat} (hk : w.heap.size = k) (j : Nat) (u : Value) (h : [.string f, .string t, m][j]? = some u) : (w.alloc (boxC f t m)).cell? ((⟨k, 0, none⟩ : Addr).add j) = some u := by
  subst hk
  rw [Addr.add_lit, cell_of_row _ _ _ _ _ _ (heap_alloc_new w _), Nat.zero_add]
  simpa using h
theorem one_chV (fa : Nat → Nat) (c : Chg) : ∀ u ∈ chV fa c, u.oneCell' = true := by
  intro u hu
  unfold chV at hu
  simp only [List.mem_cons, List.not_mem_nil, or_false] at hu
  rcases hu with rfl | rfl | rfl
  · rfl
  · rfl
  · cases c.made <;> rfl
/-- What a change asks of a disk. -/
structure ChOk (d : Dm) (c : Chg) : Prop where
  nd : (keysOf d.names).Nodup
  src : c.src.length ≤ maxLen
  dst : c.dst.length ≤ maxLen
  few : d.names.length < 1000000
  many : d.changes.length < 1099511627776
  old : c.made = none → lk d.names c.src ≠ none
  new : c.made ≠ none → c.dst ≠ []
theorem Dm.usedFor_used (d : Dm) (c : Chg) (u : Int) : ({ d with used := u } : Dm).change c = { d.change c with used := ({ d with used := u } : Dm).usedFor c } := rfl
theorem change_make (w : World) (L : Lay) (gd : Nat) (d : Dm) (h : DAt w L gd d) (src dst : Nm) (i : Nat) (hc : ChOk d ⟨src, dst, some i⟩) :
    Calls Tryz.prog 50 #[.pointer (some ⟨gd, 0, none⟩), .agg #[.string (bs src), .string (bs dst), .pointer (some ⟨L.fa i, 0, none⟩)]] w fun e w' => e = .returned (.tuple #[]) ∧ ∃ L', DAt w' L' gd (d.change ⟨src, dst, some i⟩) ∧ Upd L.ρ L'.ρ w w' := by
  obtain ⟨f, hf⟩ : ∃ f, f = bs src := ⟨_, rfl⟩
  obtain ⟨t, ht⟩ : ∃ t, t = bs dst := ⟨_, rfl⟩
  obtain ⟨m, hm⟩ : ∃ m, m = Value.pointer (some ⟨L.fa i, 0, none⟩) := ⟨_, rfl⟩
  rw [← hf, ← ht]
  obtain ⟨w1, hw1⟩ : ∃ w1, w1 = w.alloc (boxC f t (.pointer (some ⟨L.fa i, 0, none⟩))) := ⟨_, rfl⟩
  have hb1 : Below w.heap.size w w1 := by rw [hw1]; exact bel1 _ _
  have g1 : w1.heap[w.heap.size]? = some (boxC f t (.pointer (some ⟨L.fa i, 0, none⟩))) := by rw [hw1]; exact heap_alloc_new w _
  have hd1 := h.below hb1
  have HD1 := Lib.hid hd1
  have HU1 := Lib.hid (Upd.of_below (ρ := L.ρ) hb1)
  obtain ⟨-, -, -, -, -, -, c6, -⟩ := hd1.cells
  obtain ⟨b0, b1, b2⟩ := box3 g1
  have G1 := Lib.hid g1
  have HC := Lib.hid hc
  have HT := Lib.hid (And.intro hf ht)
  have hnw : w.heap.size ≠ L.nb := by have := h.nm.lt.1; omega
  have hgn : gd ≠ L.nb := fun e => by have h1 := h.nm.lt.2; have h2 := h.lg; rw [← e, h2] at h1; omega
  have h0w : L.ρ w.heap.size = 0 := by
    rcases Nat.eq_zero_or_pos (L.ρ w.heap.size) with h9 | h9
    · exact h9
    · have := h.dom w.heap.size (by omega); omega
  clear h hb1 g1 hd1 hc hf ht hm
  go_enter Tryz.func50, Tryz.ntmps50
  go_upto_region 1 with (fail)
  rw [← hw1]
  clear hw1
  go_wp2_with fail
  go_region_held3 (fun w' => w'.cell? ⟨gd, 6, none⟩ = some (.map (some L.nb)) ∧ w'.cell? ⟨w.heap.size, 0, none⟩ = some (.string f) ∧ w'.cell? ⟨w.heap.size, 1, none⟩ = some (.string t) ∧ w'.cell? ⟨w.heap.size, 2, none⟩ = some (.pointer (some ⟨L.fa i, 0, none⟩))) (first | exact ⟨c6, b0, b1, b2⟩ | exact ⟨keepm hgr2 hgn c6, keepm hgr2 hnw b0, keepm hgr2 hnw b1, keepm hgr2 hnw b2⟩) (first | (go_at_call 30; rw [HT.out.1, HT.out.2]; refine (do_any w1.drew L.ρ 2 L.fa L.nb d.names ⟨src, dst, some i⟩ HD1.out.nm HC.out.nd HC.out.src HC.out.dst HC.out.few HC.out.old HC.out.new).mono ?_; rintro e w2 ⟨rfl, hm2, hgr2⟩))
  have hdu := (HD1.out.below (show Below w1.heap.size w1 w1.drew from (Below.refl _ _).drew)).names1 hgr2 hm2
  have HU2 := Lib.hid ((HU1.out.trans (Upd.of_below (show Below w1.heap.size w1 w1.drew from (Below.refl _ _).drew))).trans hdu.2)
  have HD2 := Lib.hid hdu.1
  have G2 := Lib.hid ((hgr2.block w.heap.size (Array.getElem?_eq_some_iff.1 G1.out).1 (fun e => hnw (Option.some.inj e))).trans G1.out)
  have z2 : w.heap.size < w2.heap.size := (Array.getElem?_eq_some_iff.1 G2.out).1
  have hlt2 : gd < w2.heap.size := hdu.1.lt
  obtain ⟨-, -, -, -, -, -, -, -, e8, -⟩ := hdu.1.cells
  obtain ⟨b0', b1', b2'⟩ := box3 G2.out
  clear hm2 hgr2 hdu c6 b0 b1 b2
  go_wp2_with fail
  have hb3 : Below w2.heap.size w2 (w2.drew.alloc (boxC f t (.pointer (some ⟨L.fa i, 0, none⟩)))) := (show Below w2.heap.size w2 w2.drew from (Below.refl _ _).drew).alloc (Nat.le_refl _) _
  have HD3 := Lib.hid (HD2.out.below hb3)
  have HU3 := Lib.hid (HU2.out.trans (Upd.of_below hb3))
  have HN3 := Lib.hid (fun j u => new_ch w2.drew f t (.pointer (some ⟨L.fa i, 0, none⟩)) (k := w2.heap.size) rfl j u)
  have HQ1 := Lib.hid (show (d.changes.length + 1) * 40 ≤ 140737488355328 by have := HC.out.many; omega)
  have HQ2 := Lib.hid (show d.changes.length + 1 ≤ maxLen by have := HC.out.many; simp [maxLen]; omega)
  have h1v : ∀ u ∈ [Value.string f, .string t, (.pointer (some ⟨L.fa i, 0, none⟩))], u.oneCell' = true := by
    rw [HT.out.1, HT.out.2]; exact one_chV L.fa ⟨src, dst, some i⟩
  have H1V := Lib.hid h1v
  clear hb3 h1v
  go_region_law (first
    | (refine S_appendN rfl (.tmp 67) (.tmp 69) 44 (by rfl) sl44 0 L.ch d.changes.length (d.changes.flatMap (chV L.fa)) (by rfl) HD3.out.ch.1 ⟨w2.heap.size, 0, none⟩ 1 1 [.string f, .string t, (.pointer (some ⟨L.fa i, 0, none⟩))] (by rfl) (by rfl) HN3.out H1V.out HQ1.out HQ2.out (Nat.zero_le _) (fun a4 c4 w4 ho4 hg4 hat4 => ?_)
       have hgr4 := HD3.out.ch1 hg4 (c := ⟨src, dst, some i⟩) rfl (by rw [HT.out.1, HT.out.2] at ho4; exact ho4) hat4
       have k8g := HD3.out.g
       have k4 : w4.heap[gd]? = some (boxDisk L { d with names := Chg.act ⟨src, dst, some i⟩ d.names }) := (hg4.block gd HD3.out.lt (fun e => by have h9 := HD3.out.ch.2 gd e.symm; rw [HD3.out.lg] at h9; omega)).trans HD3.out.g
       have e8' := cell_of_row _ _ 8 _ _ _ k4
       have f8' := frozen_of_row w4 gd 8 _ _ k4
       simp only [List.getElem?_toArray, List.getElem?_cons_zero, List.getElem?_cons_succ] at e8'
       clear k8g k4))
  all_goals
    have HE4 := Lib.hid hgr4
    clear hgr4 ho4 hg4 hat4 e8 b0' b1' b2'
    go_wp2_with fail
    go_end0
    obtain ⟨L', h1, h2⟩ := HE4.out
    exact ⟨rfl, L', h1, HU3.out.trans h2⟩
end Go.Proofs.YteoggphafhcchaaGreat
