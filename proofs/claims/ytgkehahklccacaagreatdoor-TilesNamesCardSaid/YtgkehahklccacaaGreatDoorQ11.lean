import Derived.Test.YtgkehahklccacaaGreatDoorQ10
import Derived.Deep.RegionWith
namespace Go.Proofs.YtgkehahklccacaaGreatDoor
open Go Go.RowKit
set_option maxRecDepth 100000
set_option maxHeartbeats 1000000
set_option linter.unusedVariables false
set_option linter.unusedSimpArgs false
open Go.Maps Go.WideMaps
theorem ownsMap_tight {w : World} {P : Program} {k : TypeId} {R : Value → Option (DataW Unit × List MemPlace)} {b n : Nat} {D : DataW Unit} (h : w.ownsMap P k R b n D) : w.ownsMap P k R b (size D) D := by
  obtain ⟨es, clock, hb, F, hs, rfl⟩ := h
  exact ⟨es, clock, hb, F, by simp [Maps.size, length_sorted], rfl⟩
theorem litS_inj {s t : Nm} (h : Lit.string s = Lit.string t) : s = t := by injection h
theorem NAt.put {w' : World} {ρ : Nat → Nat} {r : Nat} {fa : Nat → Nat} {b n i : Nat} {m : List (Nm × Nat)} {D : DataW Unit} {s : Nm} (ht : Tidy D) (hρ : ρ b = r) (hz : size D = m.length) (hl : ∀ s : Nm, D.atKey (.string s) .nil = (match lk m s with | none => .nil | some i => .lit (.int .i64 (fa i : Nat))) ∧ has D (.string s) = (lk m s).isSome)
    (hm' : w'.ownsMap Tryz.prog 9 ptrR b n (D.put (.string s) (.lit (.int .i64 (fa i : Nat))))) : NAt w' ρ r fa b (ins m s i) := by
  have hs := size_put (k := .string s) ht (.lit (.int .i64 (fa i : Nat)))
  have hsz : size (D.put (.string s) (.lit (.int .i64 (fa i : Nat)))) = (ins m s i).length := by
    rw [hs, (hl s).2, len_ins, hz]
    by_cases h : s ∈ keysOf m
    · rw [if_pos (lk_some.2 h), if_pos h]
    · rw [if_neg (by rw [lk_none.2 h]; simp), if_neg h]
  refine ⟨_, by have := ownsMap_tight hm'; rwa [hsz] at this, hρ, hsz, fun t => ?_⟩
  rw [lk_ins]
  by_cases e : t = s
  · subst e
    rw [if_pos rfl]
    exact ⟨atKey_put_same ht.isMap (show WideAt.IsKeyLit (.string t) from trivial) _ _, has_put_same ht.isMap (show WideAt.IsKeyLit (.string t) from trivial) _⟩
  · rw [if_neg e]
    exact ⟨(atKey_put_other (fun h => e (litS_inj h)) _ _).trans (hl t).1, (has_put_other (fun h => e (litS_inj h)) _).trans (hl t).2⟩
theorem del_facts {fa : Nat → Nat} {m : List (Nm × Nat)} {D : DataW Unit} {s : Nm} (hn : (keysOf m).Nodup) (ht : Tidy D) (hz : size D = m.length) (hl : ∀ s : Nm, D.atKey (.string s) .nil = (match lk m s with | none => .nil | some i => .lit (.int .i64 (fa i : Nat))) ∧ has D (.string s) = (lk m s).isSome) (hs : s ∈ keysOf m) :
    size (D.del (.string s)) = (era m s).length ∧ ∀ t : Nm, (D.del (.string s)).atKey (.string t) .nil = (match lk (era m s) t with | none => .nil | some i => .lit (.int .i64 (fa i : Nat))) ∧ has (D.del (.string s)) (.string t) = (lk (era m s) t).isSome := by
  have hd := size_del (k := .string s) ht
  rw [(hl s).2, if_pos (lk_some.2 hs), hz] at hd
  refine ⟨by have := len_era hs; omega, fun t => ?_⟩
  rw [lk_era hn]
  by_cases e : t = s
  · subst e
    rw [if_pos rfl]
    exact ⟨atKey_del_same _, has_del_same⟩
  · rw [if_neg e]
    exact ⟨(atKey_del_other (fun h => e (litS_inj h)) _).trans (hl t).1, (has_del_other (fun h => e (litS_inj h))).trans (hl t).2⟩
theorem NAt.del {w w' : World} {ρ : Nat → Nat} {r : Nat} {fa : Nat → Nat} {b n n' : Nat} {m : List (Nm × Nat)} {D : DataW Unit} {s : Nm} (hn : (keysOf m).Nodup) (hm : w.ownsMap Tryz.prog 9 ptrR b n D) (hρ : ρ b = r) (hz : size D = m.length) (hl : ∀ s : Nm, D.atKey (.string s) .nil = (match lk m s with | none => .nil | some i => .lit (.int .i64 (fa i : Nat))) ∧ has D (.string s) = (lk m s).isSome)
    (hm' : w'.ownsMap Tryz.prog 9 ptrR b n' (D.del (.string s))) (hs : s ∈ keysOf m) : NAt w' ρ r fa b (era m s) := by
  obtain ⟨h1, h2⟩ := del_facts hn (hm.tidy law9) hz hl hs
  exact ⟨_, by have := ownsMap_tight hm'; rwa [h1] at this, hρ, h1, h2⟩
theorem kL_bs (s : Nm) : kL (bs s) = .string s := by simp [kL, bs]
theorem at_bs (D : DataW Unit) (s : Nm) : at? D (bs s) = D.atKey (.string s) .nil := by unfold at?; rw [kL_bs]
theorem bs_ne {s : Nm} (h : s ≠ []) : ((bs s).toList == []) = false := by
  rw [ByteArray.toList_eq]; simpa [bs] using h
/-- change.do, on a map of names. -/
theorem do_any (w : World) (ρ : Nat → Nat) (r : Nat) (fa : Nat → Nat) (b : Nat) (m : List (Nm × Nat)) (c : Chg) (hN : NAt w ρ r fa b m) (hn : (keysOf m).Nodup) (h1 : c.src.length ≤ maxLen) (h2 : c.dst.length ≤ maxLen) (h3 : m.length < 1000000)
    (h4 : c.made = none → lk m c.src ≠ none) (h5 : c.made ≠ none → c.dst ≠ []) :
    Calls Tryz.prog 52 #[.agg #[.string (bs c.src), .string (bs c.dst), madeV fa c.made], .map (some b)] w fun e w' => e = .returned (.tuple #[]) ∧ NAt w' ρ r fa b (c.act m) ∧ w.grownBy w' (some b) := by
  obtain ⟨D, hm, hρ, hz, hl⟩ := hN
  obtain ⟨src, dst, made⟩ := c
  dsimp only at h1 h2 h4 h5 ⊢
  cases made with
  | some i =>
    have hd : dst ≠ [] := h5 (by simp)
    refine (do_make w b m.length D hm h3 (bs src) (bs dst) (lenBs h2) (bs_ne hd) (fa i)).mono ?_
    rintro e w' ⟨he, hm', hg⟩
    rw [kL_bs] at hm'
    refine ⟨he, ?_, hg⟩
    unfold Chg.act
    simp only [hd, if_false]
    exact NAt.put (hm.tidy law9) hρ hz hl hm'
  | none =>
    cases hk : lk m src with
    | none => exact absurd hk (h4 rfl)
    | some i =>
      have hs : src ∈ keysOf m := lk_some.1 (by rw [hk]; rfl)
      have hat : at? D (bs src) = .lit (.int .i64 (fa i : Nat)) := by rw [at_bs, (hl src).1, hk]
      by_cases hd : dst = []
      · subst hd
        refine (do_drop w b m.length D hm (bs src) (lenBs h1)).mono ?_
        rintro e w' ⟨he, hm', hg⟩
        rw [kL_bs] at hm'
        refine ⟨he, ?_, hg⟩
        unfold Chg.act
        simp only [hk, if_true]
        exact NAt.del hn hm hρ hz hl hm' hs
      · refine (do_move w b m.length D hm h3 (bs src) (bs dst) (lenBs h1) (lenBs h2) (bs_ne hd) (fa i) hat).mono ?_
        rintro e w' ⟨he, hm', hg⟩
        rw [kL_bs, kL_bs] at hm'
        refine ⟨he, ?_, hg⟩
        unfold Chg.act
        simp only [hk, hd, if_false]
        obtain ⟨g1, g2⟩ := del_facts hn (hm.tidy law9) hz hl hs
        exact NAt.put ((hm.tidy law9).del _) hρ g1 g2 hm'
end Go.Proofs.YtgkehahklccacaaGreatDoor
namespace Go.Proofs.YtgkehahklccacaaGreatDoor
open Go Go.RowKit
set_option maxRecDepth 100000
set_option maxHeartbeats 1000000
set_option linter.unusedVariables false
set_option linter.unusedSimpArgs false
open Go.Maps Go.WideMaps
theorem relabel {w w' : World} {ρ : Nat → Nat} {e s r n n' : Nat} {v v' : Value} {xs xs' : List Value} (h : OwnL w ρ e s r v n xs) (dom : ∀ k, ρ k ≠ 0 → k < w.heap.size) (ho : w'.ownsRow 0 e s v' n' xs') (hat : v'.ownBlock = v.ownBlock ∨ v'.ownBlock = some w.heap.size) (hr : r ≠ 0) (hw : w.heap.size ≤ w'.heap.size) :
    ∃ ρ', Ext w.heap.size ρ ρ' ∧ (∀ k, ρ' k ≠ 0 → k < w'.heap.size) ∧ OwnL w' ρ' e s r v' n' xs' := by
  have h0 : ρ w.heap.size = 0 := by
    rcases Nat.eq_zero_or_pos (ρ w.heap.size) with h | h
    · exact h
    · have := dom w.heap.size (by omega); omega
  rcases hat with hat | hat
  · exact ⟨ρ, Ext.refl _ _, fun k hk => Nat.lt_of_lt_of_le (dom k hk) hw, ho, fun k hk => h.2 k (by rw [← hat]; exact hk)⟩
  · refine ⟨put1 ρ w.heap.size r, Ext.put r h0 (Nat.le_refl _), fun k hk => ?_, ho, fun k hk => ?_⟩
    · unfold put1 at hk
      split at hk
      · rename_i e
        subst e
        exact (ho.lt _ hat).2
      · exact Nat.lt_of_lt_of_le (dom k hk) hw
    · rw [hat] at hk; cases hk; simp [put1]
/-- The map of names turned. -/
theorem DAt.names1 {w w' : World} {L : Lay} {gd : Nat} {d : Dm} (h : DAt w L gd d) (hg : w.grownBy w' (some L.nb)) {m : List (Nm × Nat)} (hN : NAt w' L.ρ 2 L.fa L.nb m) : DAt w' L gd { d with names := m } ∧ Upd L.ρ L.ρ w w' := by
  have ho : Only L.ρ (· = 2) w w' := Only.of_grown hg (fun k e => by cases e; exact h.nm.lt.2)
  have hk : ∀ k, L.ρ k ≠ 0 → L.ρ k ≠ 2 → w'.heap[k]? = w.heap[k]? := fun k h0 h1 => ho.block k (h.dom k h0) h1
  refine ⟨⟨(hk gd (by rw [h.lg]; omega) (by rw [h.lg]; omega)).trans h.g, h.lg, fun k e => Nat.lt_of_lt_of_le (h.dom k e) ho.size, hN, h.sf.keep (fun k e => hk k (by omega) (by omega)) (fun _ e => e) (fun _ _ _ => rfl), h.cl.keep (fun k e => hk k (by omega) (by omega)) (fun _ e => e),
    h.ch.keep (fun k e => hk k (by omega) (by omega)) (fun _ e => e), h.pl.keep (fun k e => hk k (by omega) (by omega)) (fun _ e => e), fun i f hf => ?_⟩, Upd.of_only ho (by omega) (Ext.refl _ _)⟩
  obtain ⟨vn, vs, vl, hx⟩ := h.fs i f hf
  exact ⟨vn, vs, vl, hx.keep (fun k e => hk k (by omega) (by omega)) (fun _ _ => rfl)⟩
/-- One more change laid behind the others. -/
theorem DAt.ch1 {w w4 : World} {L : Lay} {gd : Nat} {d : Dm} (h : DAt w L gd d) (hg : w.grownBy w4 L.ch.ownBlock) {v' : Value} {c : Chg} {n' : Nat} (hn : n' = d.changes.length + 1) (ho : w4.ownsRow 0 112 3 v' n' (d.changes.flatMap (chV L.fa) ++ chV L.fa c)) (hat : v'.ownBlock = L.ch.ownBlock ∨ v'.ownBlock = some w.heap.size) :
    ∃ L', DAt (w4.setCell ⟨gd, 8, none⟩ v') L' gd { d with changes := d.changes ++ [c] } ∧ Upd L.ρ L'.ρ w (w4.setCell ⟨gd, 8, none⟩ v') := by
  subst hn
  have o1 : Only L.ρ (fun r => r = 5 ∨ r = 1) w w4 := Only.of_grown hg (fun k e => .inl (h.ch.2 k e))
  have g4 : w4.heap[gd]? = some (boxDisk L d) := (hg.block gd h.lt (fun e => by have := h.ch.2 gd e.symm; rw [h.lg] at this; omega)).trans h.g
  have o2 : Only L.ρ (fun r => r = 5 ∨ r = 1) w (w4.setCell ⟨gd, 8, none⟩ v') := o1.trans (Only.setCell w4 gd 8 v' (.inr h.lg))
  have ho' : (w4.setCell ⟨gd, 8, none⟩ v').ownsRow 0 112 3 v' (d.changes.length + 1) (d.changes.flatMap (chV L.fa) ++ chV L.fa c) := ownsRow_setCell_other ho (a := ⟨gd, 8, none⟩) (fun e => by
    rcases hat with hat | hat
    · have := h.ch.2 gd (by rw [← hat]; exact e); rw [h.lg] at this; omega
    · rw [hat] at e; have e1 : w.heap.size = gd := Option.some.inj e; have := h.lt; omega) v'
  obtain ⟨ρ', he, hd, hO⟩ := relabel h.ch h.dom ho' hat (by omega) o2.size
  have hk : ∀ k, L.ρ k ≠ 0 → L.ρ k ≠ 5 → L.ρ k ≠ 1 → (w4.setCell ⟨gd, 8, none⟩ v').heap[k]? = w.heap[k]? := fun k h0 h1 h2 => o2.block k (h.dom k h0) (by omega)
  have hs : ∀ r, r ≠ 0 → ∀ k, L.ρ k = r → ρ' k = r := fun r hr k e => (he.same k (by omega)).trans e
  refine ⟨{ L with ρ := ρ', ch := v' }, ⟨heap_setCell_same w4 gd 8 _ _ v' g4, hs 1 (by omega) gd h.lg, hd, h.nm.keep (fun k e => hk k (by omega) (by omega) (by omega)) (hs 2 (by omega)) (fun _ _ _ => rfl), h.sf.keep (fun k e => hk k (by omega) (by omega) (by omega)) (hs 3 (by omega)) (fun _ _ _ => rfl), h.cl.keep (fun k e => hk k (by omega) (by omega) (by omega)) (hs 4 (by omega)),
    ?_, h.pl.keep (fun k e => hk k (by omega) (by omega) (by omega)) (hs 6 (by omega)), fun i f hf => ?_⟩, Upd.of_only o2 (by omega) he⟩
  · show OwnL _ ρ' 112 3 5 v' (d.changes ++ [c]).length ((d.changes ++ [c]).flatMap (chV L.fa))
    simpa using hO
  · obtain ⟨vn, vs, vl, hx⟩ := h.fs i f hf
    exact ⟨vn, vs, vl, hx.keep (fun k e => hk k (by omega) (by omega) (by omega)) (fun k e => he.same k e)⟩
theorem keepm {w w' : World} {nb : Nat} (hg : w.grownBy w' (some nb)) {b o : Nat} (hne : b ≠ nb) {v : Value} (h : w.cell? ⟨b, o, none⟩ = some v) : w'.cell? ⟨b, o, none⟩ = some v :=
  (World.cell?_of_block (hg.block b (World.block_lt_of_cell? w _ h) (fun e => hne (Option.some.inj e)))).trans h
theorem sl44 : Sl Tryz.prog 48 112 (.agg #[.string ByteArray.empty, .string ByteArray.empty, .pointer none]) 3 40 := ⟨Tryz.underlying48, by kernel_rfl, rfl, by decide⟩
theorem new_ch (w : World) (f t : ByteArray) (m : Value) {k : Nat} (hk : w.heap.size = k) (j : Nat) (u : Value) (h : [.string f, .string t, m][j]? = some u) : (w.alloc (boxC f t m)).cell? ((⟨k, 0, none⟩ : Addr).add j) = some u := by
  subst hk
  rw [Addr.add_lit, cell_of_row _ _ _ _ _ _ (heap_alloc_new w _), Nat.zero_add]
  simpa using h
theorem one_chV (fa : Nat → Nat) (c : Chg) : ∀ u ∈ chV fa c, u.oneCell' = true := by
  intro u hu
  unfold chV at hu
  simp only [List.mem_cons, List.not_mem_nil, or_false] at hu
  rcases hu with rfl | rfl | rfl
  · rfl
  · rfl
  · cases c.made <;> rfl
/-- What a change asks of a disk. -/
structure ChOk (d : Dm) (c : Chg) : Prop where
  nd : (keysOf d.names).Nodup
  src : c.src.length ≤ maxLen
  dst : c.dst.length ≤ maxLen
  few : d.names.length < 1000000
  many : d.changes.length < 1099511627776
  old : c.made = none → lk d.names c.src ≠ none
  new : c.made ≠ none → c.dst ≠ []
theorem Dm.usedFor_used (d : Dm) (c : Chg) (u : Int) : ({ d with used := u } : Dm).change c = { d.change c with used := ({ d with used := u } : Dm).usedFor c } := rfl
theorem change_make (w : World) (L : Lay) (gd : Nat) (d : Dm) (h : DAt w L gd d) (src dst : Nm) (i : Nat) (hc : ChOk d ⟨src, dst, some i⟩) :
    Calls Tryz.prog 96 #[.pointer (some ⟨gd, 0, none⟩), .agg #[.string (bs src), .string (bs dst), .pointer (some ⟨L.fa i, 0, none⟩)]] w fun e w' => e = .returned (.tuple #[]) ∧ ∃ L', DAt w' L' gd (d.change ⟨src, dst, some i⟩) ∧ Upd L.ρ L'.ρ w w' := by
  obtain ⟨f, hf⟩ : ∃ f, f = bs src := ⟨_, rfl⟩
  obtain ⟨t, ht⟩ : ∃ t, t = bs dst := ⟨_, rfl⟩
  obtain ⟨m, hm⟩ : ∃ m, m = Value.pointer (some ⟨L.fa i, 0, none⟩) := ⟨_, rfl⟩
  rw [← hf, ← ht]
  obtain ⟨w1, hw1⟩ : ∃ w1, w1 = w.alloc (boxC f t (.pointer (some ⟨L.fa i, 0, none⟩))) := ⟨_, rfl⟩
  have hb1 : Below w.heap.size w w1 := by rw [hw1]; exact bel1 _ _
  have g1 : w1.heap[w.heap.size]? = some (boxC f t (.pointer (some ⟨L.fa i, 0, none⟩))) := by rw [hw1]; exact heap_alloc_new w _
  have hd1 := h.below hb1
  have HD1 := Lib.hid hd1
  have HU1 := Lib.hid (Upd.of_below (ρ := L.ρ) hb1)
  obtain ⟨-, -, -, -, -, -, c6, -⟩ := hd1.cells
  obtain ⟨b0, b1, b2⟩ := box3 g1
  have G1 := Lib.hid g1
  have HC := Lib.hid hc
  have HT := Lib.hid (And.intro hf ht)
  have hnw : w.heap.size ≠ L.nb := by have := h.nm.lt.1; omega
  have hgn : gd ≠ L.nb := fun e => by have h1 := h.nm.lt.2; have h2 := h.lg; rw [← e, h2] at h1; omega
  have h0w : L.ρ w.heap.size = 0 := by
    rcases Nat.eq_zero_or_pos (L.ρ w.heap.size) with h9 | h9
    · exact h9
    · have := h.dom w.heap.size (by omega); omega
  clear h hb1 g1 hd1 hc hf ht hm
  go_enter Tryz.func96, Tryz.ntmps96
  go_upto_region 1 with (fail)
  rw [← hw1]
  clear hw1
  go_wp2_with fail
  go_region_held3 (fun w' => w'.cell? ⟨gd, 6, none⟩ = some (.map (some L.nb)) ∧ w'.cell? ⟨w.heap.size, 0, none⟩ = some (.string f) ∧ w'.cell? ⟨w.heap.size, 1, none⟩ = some (.string t) ∧ w'.cell? ⟨w.heap.size, 2, none⟩ = some (.pointer (some ⟨L.fa i, 0, none⟩))) (first | exact ⟨c6, b0, b1, b2⟩ | exact ⟨keepm hgr2 hgn c6, keepm hgr2 hnw b0, keepm hgr2 hnw b1, keepm hgr2 hnw b2⟩) (first | (go_at_call 52; rw [HT.out.1, HT.out.2]; refine (do_any w1.drew L.ρ 2 L.fa L.nb d.names ⟨src, dst, some i⟩ HD1.out.nm HC.out.nd HC.out.src HC.out.dst HC.out.few HC.out.old HC.out.new).mono ?_; rintro e w2 ⟨rfl, hm2, hgr2⟩))
  have hdu := (HD1.out.below (show Below w1.heap.size w1 w1.drew from (Below.refl _ _).drew)).names1 hgr2 hm2
  have HU2 := Lib.hid ((HU1.out.trans (Upd.of_below (show Below w1.heap.size w1 w1.drew from (Below.refl _ _).drew))).trans hdu.2)
  have HD2 := Lib.hid hdu.1
  have G2 := Lib.hid ((hgr2.block w.heap.size (Array.getElem?_eq_some_iff.1 G1.out).1 (fun e => hnw (Option.some.inj e))).trans G1.out)
  have z2 : w.heap.size < w2.heap.size := (Array.getElem?_eq_some_iff.1 G2.out).1
  have hlt2 : gd < w2.heap.size := hdu.1.lt
  obtain ⟨-, -, -, -, -, -, -, -, e8, -⟩ := hdu.1.cells
  obtain ⟨b0', b1', b2'⟩ := box3 G2.out
  clear hm2 hgr2 hdu c6 b0 b1 b2
  go_wp2_with fail
  have hb3 : Below w2.heap.size w2 (w2.drew.alloc (boxC f t (.pointer (some ⟨L.fa i, 0, none⟩)))) := (show Below w2.heap.size w2 w2.drew from (Below.refl _ _).drew).alloc (Nat.le_refl _) _
  have HD3 := Lib.hid (HD2.out.below hb3)
  have HU3 := Lib.hid (HU2.out.trans (Upd.of_below hb3))
  have HN3 := Lib.hid (fun j u => new_ch w2.drew f t (.pointer (some ⟨L.fa i, 0, none⟩)) (k := w2.heap.size) rfl j u)
  have HQ1 := Lib.hid (show (d.changes.length + 1) * 40 ≤ 140737488355328 by have := HC.out.many; omega)
  have HQ2 := Lib.hid (show d.changes.length + 1 ≤ maxLen by have := HC.out.many; simp [maxLen]; omega)
  have h1v : ∀ u ∈ [Value.string f, .string t, (.pointer (some ⟨L.fa i, 0, none⟩))], u.oneCell' = true := by
    rw [HT.out.1, HT.out.2]; exact one_chV L.fa ⟨src, dst, some i⟩
  have H1V := Lib.hid h1v
  clear hb3 h1v
  go_region_law (first
    | (refine S_appendN rfl (.tmp 67) (.tmp 69) 48 (by rfl) sl44 0 L.ch d.changes.length (d.changes.flatMap (chV L.fa)) (by rfl) HD3.out.ch.1 ⟨w2.heap.size, 0, none⟩ 1 1 [.string f, .string t, (.pointer (some ⟨L.fa i, 0, none⟩))] (by rfl) (by rfl) HN3.out H1V.out HQ1.out HQ2.out (Nat.zero_le _) (fun a4 c4 w4 ho4 hg4 hat4 => ?_)
       have hgr4 := HD3.out.ch1 hg4 (c := ⟨src, dst, some i⟩) rfl (by rw [HT.out.1, HT.out.2] at ho4; exact ho4) hat4
       have k8g := HD3.out.g
       have k4 : w4.heap[gd]? = some (boxDisk L { d with names := Chg.act ⟨src, dst, some i⟩ d.names }) := (hg4.block gd HD3.out.lt (fun e => by have h9 := HD3.out.ch.2 gd e.symm; rw [HD3.out.lg] at h9; omega)).trans HD3.out.g
       have e8' := cell_of_row _ _ 8 _ _ _ k4
       have f8' := frozen_of_row w4 gd 8 _ _ k4
       simp only [List.getElem?_toArray, List.getElem?_cons_zero, List.getElem?_cons_succ] at e8'
       clear k8g k4))
  all_goals
    have HE4 := Lib.hid hgr4
    clear hgr4 ho4 hg4 hat4 e8 b0' b1' b2'
    go_wp2_with fail
    go_end0
    obtain ⟨L', h1, h2⟩ := HE4.out
    exact ⟨rfl, L', h1, HU3.out.trans h2⟩
end Go.Proofs.YtgkehahklccacaaGreatDoor
namespace Go.Proofs.YtgkehahklccacaaGreatDoor
open Go Go.RowKit
set_option maxRecDepth 100000
set_option maxHeartbeats 1000000
set_option linter.unusedVariables false
set_option linter.unusedSimpArgs false
open Go.Maps Go.WideMaps
theorem change_same (w : World) (L : Lay) (gd : Nat) (d : Dm) (h : DAt w L gd d) (src dst : Nm) (hc : ChOk d ⟨src, dst, none⟩) (hs : dst = src) :
    Calls Tryz.prog 96 #[.pointer (some ⟨gd, 0, none⟩), .agg #[.string (bs src), .string (bs dst), .pointer none]] w fun e w' => e = .returned (.tuple #[]) ∧ ∃ L', DAt w' L' gd (d.change ⟨src, dst, none⟩) ∧ Upd L.ρ L'.ρ w w' := by
  obtain ⟨f, hf⟩ : ∃ f, f = bs src := ⟨_, rfl⟩
  obtain ⟨t, ht⟩ : ∃ t, t = bs dst := ⟨_, rfl⟩
  have hft : (t.toList == f.toList) = decide (dst = src) := by
    rw [hf, ht, ByteArray.toList_eq, ByteArray.toList_eq]; by_cases h9 : dst = src <;> simp [bs, h9]
  have ht0 : (t.toList == []) = decide (dst = []) := by
    rw [ht, ByteArray.toList_eq]; cases dst <;> simp [bs]
  rw [← hf, ← ht]
  obtain ⟨w0, hw0⟩ : ∃ w0, w0 = w.alloc (boxC f t (.pointer none)) := ⟨_, rfl⟩
  have hb0 : Below w.heap.size w w0 := by rw [hw0]; exact bel1 _ _
  have g0 : w0.heap[w.heap.size]? = some (boxC f t (.pointer none)) := by rw [hw0]; exact heap_alloc_new w _
  have hd0 := h.below hb0
  have HD0 := Lib.hid hd0
  have HU0 := Lib.hid (Upd.of_below (ρ := L.ρ) hb0)
  obtain ⟨-, -, c2, -, -, -, c6, -, -, -, -, fr⟩ := hd0.cells
  have f2 := fr 2
  obtain ⟨b0, b1, b2⟩ := box3 g0
  have G0 := Lib.hid g0
  have HC := Lib.hid hc
  have HT := Lib.hid (And.intro hf ht)
  have hlt := h.lt
  have hlt0 : gd < w0.heap.size := hd0.lt
  have z0 : w.heap.size < w0.heap.size := by rw [hw0]; simp
  have hnw : w.heap.size ≠ L.nb := by have := h.nm.lt.1; omega
  have hgn : gd ≠ L.nb := fun e => by have h1 := h.nm.lt.2; have h2 := h.lg; rw [← e, h2] at h1; omega
  have e1 : (t.toList != f.toList) = false := by rw [bne, hft, decide_eq_true hs]; rfl
  have e1' : (t.toList == f.toList) = true := by rw [hft, decide_eq_true hs]
  have HE := Lib.hid (show d.change ⟨src, dst, none⟩ = { ({ d with names := Chg.act ⟨src, dst, none⟩ d.names } : Dm) with changes := d.changes ++ [⟨src, dst, none⟩] } by unfold Dm.change Dm.usedFor; simp [hs])
  clear hs hft ht0
  clear h hb0 g0 hd0 hc hf ht fr
  go_enter Tryz.func96, Tryz.ntmps96
  go_upto_region 1 with (fail)
  rw [← hw0]
  clear hw0
  go_wp2_with fail
  have HD1 := HD0
  have HU1 := HU0
  have G1 := G0
  clear c2 f2 HD0 HU0 G0 hlt0
  go_region_held3 (fun w' => w'.cell? ⟨gd, 6, none⟩ = some (.map (some L.nb)) ∧ w'.cell? ⟨w.heap.size, 0, none⟩ = some (.string f) ∧ w'.cell? ⟨w.heap.size, 1, none⟩ = some (.string t) ∧ w'.cell? ⟨w.heap.size, 2, none⟩ = some (.pointer none)) (first | exact ⟨c6, b0, b1, b2⟩ | exact ⟨keepm hgr2 hgn c6, keepm hgr2 hnw b0, keepm hgr2 hnw b1, keepm hgr2 hnw b2⟩) (first | (go_at_call 52; rw [HT.out.1, HT.out.2]; refine (do_any w0.drew L.ρ 2 L.fa L.nb d.names ⟨src, dst, none⟩ HD1.out.nm HC.out.nd HC.out.src HC.out.dst HC.out.few HC.out.old HC.out.new).mono ?_; rintro e w2 ⟨rfl, hm2, hgr2⟩))
  have hdu := (HD1.out.below (show Below w0.heap.size w0 w0.drew from (Below.refl _ _).drew)).names1 hgr2 hm2
  have HU2 := Lib.hid ((HU1.out.trans (Upd.of_below (show Below w0.heap.size w0 w0.drew from (Below.refl _ _).drew))).trans hdu.2)
  have HD2 := Lib.hid hdu.1
  have G2 := Lib.hid ((hgr2.block w.heap.size (Array.getElem?_eq_some_iff.1 G1.out).1 (fun e => hnw (Option.some.inj e))).trans G1.out)
  have z2 : w.heap.size < w2.heap.size := (Array.getElem?_eq_some_iff.1 G2.out).1
  have hlt2 : gd < w2.heap.size := hdu.1.lt
  obtain ⟨-, -, -, -, -, -, -, -, e8, -⟩ := hdu.1.cells
  obtain ⟨b0', b1', b2'⟩ := box3 G2.out
  clear hm2 hgr2 hdu c6 b0 b1 b2
  go_wp2_with fail
  have hb3 : Below w2.heap.size w2 (w2.drew.alloc (boxC f t (.pointer none))) := (show Below w2.heap.size w2 w2.drew from (Below.refl _ _).drew).alloc (Nat.le_refl _) _
  have HD3 := Lib.hid (HD2.out.below hb3)
  have HU3 := Lib.hid (HU2.out.trans (Upd.of_below hb3))
  have HN3 := Lib.hid (fun j u => new_ch w2.drew f t (.pointer none) (k := w2.heap.size) rfl j u)
  have HQ1 := Lib.hid (show (d.changes.length + 1) * 40 ≤ 140737488355328 by have := HC.out.many; omega)
  have HQ2 := Lib.hid (show d.changes.length + 1 ≤ maxLen by have := HC.out.many; simp [maxLen]; omega)
  have h1v : ∀ u ∈ [Value.string f, .string t, (.pointer none)], u.oneCell' = true := by
    rw [HT.out.1, HT.out.2]; exact one_chV L.fa ⟨src, dst, none⟩
  have H1V := Lib.hid h1v
  clear hb3 h1v
  go_region_law (first
    | (refine S_appendN rfl (.tmp 67) (.tmp 69) 48 (by rfl) sl44 0 L.ch d.changes.length (d.changes.flatMap (chV L.fa)) (by rfl) HD3.out.ch.1 ⟨w2.heap.size, 0, none⟩ 1 1 [.string f, .string t, (.pointer none)] (by rfl) (by rfl) HN3.out H1V.out HQ1.out HQ2.out (Nat.zero_le _) (fun a4 c4 w4 ho4 hg4 hat4 => ?_)
       have hgr4 := HD3.out.ch1 hg4 (c := ⟨src, dst, none⟩) rfl (by rw [HT.out.1, HT.out.2] at ho4; exact ho4) hat4
       have k8g := HD3.out.g
       have k4 : w4.heap[gd]? = some (boxDisk L { d with names := Chg.act ⟨src, dst, none⟩ d.names }) := (hg4.block gd HD3.out.lt (fun e => by have h9 := HD3.out.ch.2 gd e.symm; rw [HD3.out.lg] at h9; omega)).trans HD3.out.g
       have e8' := cell_of_row _ _ 8 _ _ _ k4
       have f8' := frozen_of_row w4 gd 8 _ _ k4
       simp only [List.getElem?_toArray, List.getElem?_cons_zero, List.getElem?_cons_succ] at e8'
       clear k8g k4))
  all_goals
    have HE4 := Lib.hid hgr4
    clear hgr4 ho4 hg4 hat4 e8 b0' b1' b2'
    go_wp2_with fail
    go_end0
    obtain ⟨L', h1, h2⟩ := HE4.out
    exact ⟨rfl, L', by rw [HE.out]; exact h1, HU3.out.trans h2⟩
end Go.Proofs.YtgkehahklccacaaGreatDoor
namespace Go.Proofs.YtgkehahklccacaaGreatDoor
open Go Go.RowKit
set_option maxRecDepth 100000
set_option maxHeartbeats 1000000
set_option linter.unusedVariables false
set_option linter.unusedSimpArgs false
open Go.Maps Go.WideMaps
theorem change_move0 (w : World) (L : Lay) (gd : Nat) (d : Dm) (h : DAt w L gd d) (src dst : Nm) (hc : ChOk d ⟨src, dst, none⟩) (hs : dst ≠ src) (hd : dst ≠ []) (hk : lk d.names dst = none) :
    Calls Tryz.prog 96 #[.pointer (some ⟨gd, 0, none⟩), .agg #[.string (bs src), .string (bs dst), .pointer none]] w fun e w' => e = .returned (.tuple #[]) ∧ ∃ L', DAt w' L' gd (d.change ⟨src, dst, none⟩) ∧ Upd L.ρ L'.ρ w w' := by
  obtain ⟨f, hf⟩ : ∃ f, f = bs src := ⟨_, rfl⟩
  obtain ⟨t, ht⟩ : ∃ t, t = bs dst := ⟨_, rfl⟩
  have hft : (t.toList == f.toList) = decide (dst = src) := by
    rw [hf, ht, ByteArray.toList_eq, ByteArray.toList_eq]; by_cases h9 : dst = src <;> simp [bs, h9]
  have ht0 : (t.toList == []) = decide (dst = []) := by
    rw [ht, ByteArray.toList_eq]; cases dst <;> simp [bs]
  rw [← hf, ← ht]
  obtain ⟨w0, hw0⟩ : ∃ w0, w0 = w.alloc (boxC f t (.pointer none)) := ⟨_, rfl⟩
  have hb0 : Below w.heap.size w w0 := by rw [hw0]; exact bel1 _ _
  have g0 : w0.heap[w.heap.size]? = some (boxC f t (.pointer none)) := by rw [hw0]; exact heap_alloc_new w _
  have hd0 := h.below hb0
  have HD0 := Lib.hid hd0
  have HU0 := Lib.hid (Upd.of_below (ρ := L.ρ) hb0)
  obtain ⟨-, -, c2, -, -, -, c6, -, -, -, -, fr⟩ := hd0.cells
  have f2 := fr 2
  obtain ⟨b0, b1, b2⟩ := box3 g0
  have G0 := Lib.hid g0
  have HC := Lib.hid hc
  have HT := Lib.hid (And.intro hf ht)
  have hlt := h.lt
  have hlt0 : gd < w0.heap.size := hd0.lt
  have z0 : w.heap.size < w0.heap.size := by rw [hw0]; simp
  have hnw : w.heap.size ≠ L.nb := by have := h.nm.lt.1; omega
  have hgn : gd ≠ L.nb := fun e => by have h1 := h.nm.lt.2; have h2 := h.lg; rw [← e, h2] at h1; omega
  have hlk : ∀ nq : Nat, (Instr.lookup 47 (.map (some L.nb)) (.string t) false).run Tryz.prog (w0.drewN nq) = .ok (madeV L.fa (lk d.names dst)) (w0.drewN nq) := fun nq => by
    rw [ht]; exact (hd0.below (below_drewN (Below.refl _ _) nq)).nm.look hc.dst
  rw [hk, show madeV L.fa none = .pointer none from rfl] at hlk
  have e1 : (t.toList != f.toList) = true := by rw [bne, hft, decide_eq_false hs]; rfl
  have e1' : (t.toList == f.toList) = false := by rw [hft, decide_eq_false hs]
  have e2 : (t.toList == []) = false := by rw [ht0, decide_eq_false hd]
  have HE := Lib.hid (show d.change ⟨src, dst, none⟩ = { ({ d with names := Chg.act ⟨src, dst, none⟩ d.names } : Dm) with changes := d.changes ++ [⟨src, dst, none⟩] } by unfold Dm.change Dm.usedFor; simp [hs, hd, hk])
  clear hs hd hk hft ht0
  clear h hb0 g0 hd0 hc hf ht fr
  go_enter Tryz.func96, Tryz.ntmps96
  go_upto_region 1 with (fail)
  rw [← hw0]
  clear hw0
  go_wp2_with fail
  go_quiet (fail)
  obtain ⟨wq, hwq⟩ : ∃ wq, wq = w0.drewN nq := ⟨_, rfl⟩
  have hbq : Below w0.heap.size w0 wq := by rw [hwq]; exact below_drewN (Below.refl _ _) nq
  have HD1 := Lib.hid (HD0.out.below hbq)
  have HU1 := Lib.hid (HU0.out.trans (Upd.of_below (ρ := L.ρ) hbq))
  have G1 := Lib.hid ((hbq.block _ z0).trans G0.out)
  have b0q : wq.cell? ⟨w.heap.size, 0, none⟩ = some (.string f) := by rw [hwq]; exact b0
  have b1q : wq.cell? ⟨w.heap.size, 1, none⟩ = some (.string t) := by rw [hwq]; exact b1
  rw [← hwq]
  clear hwq c2 f2 b0 b1 b2 c6 hlk HD0 HU0 G0 hbq
  go_wp2_with fail
  obtain ⟨b0, b1, b2⟩ := box3 G1.out
  obtain ⟨-, -, -, -, -, -, c6, -⟩ := HD1.out.cells
  clear b0q b1q
  go_region_held3 (fun w' => w'.cell? ⟨gd, 6, none⟩ = some (.map (some L.nb)) ∧ w'.cell? ⟨w.heap.size, 0, none⟩ = some (.string f) ∧ w'.cell? ⟨w.heap.size, 1, none⟩ = some (.string t) ∧ w'.cell? ⟨w.heap.size, 2, none⟩ = some (.pointer none)) (first | exact ⟨c6, b0, b1, b2⟩ | exact ⟨keepm hgr2 hgn c6, keepm hgr2 hnw b0, keepm hgr2 hnw b1, keepm hgr2 hnw b2⟩) (first | (go_at_call 52; rw [HT.out.1, HT.out.2]; refine (do_any wq.drew L.ρ 2 L.fa L.nb d.names ⟨src, dst, none⟩ HD1.out.nm HC.out.nd HC.out.src HC.out.dst HC.out.few HC.out.old HC.out.new).mono ?_; rintro e w2 ⟨rfl, hm2, hgr2⟩))
  have hdu := (HD1.out.below (show Below wq.heap.size wq wq.drew from (Below.refl _ _).drew)).names1 hgr2 hm2
  have HU2 := Lib.hid ((HU1.out.trans (Upd.of_below (show Below wq.heap.size wq wq.drew from (Below.refl _ _).drew))).trans hdu.2)
  have HD2 := Lib.hid hdu.1
  have G2 := Lib.hid ((hgr2.block w.heap.size (Array.getElem?_eq_some_iff.1 G1.out).1 (fun e => hnw (Option.some.inj e))).trans G1.out)
  have z2 : w.heap.size < w2.heap.size := (Array.getElem?_eq_some_iff.1 G2.out).1
  have hlt2 : gd < w2.heap.size := hdu.1.lt
  obtain ⟨-, -, -, -, -, -, -, -, e8, -⟩ := hdu.1.cells
  obtain ⟨b0', b1', b2'⟩ := box3 G2.out
  clear hm2 hgr2 hdu c6 b0 b1 b2
  go_wp2_with fail
  have hb3 : Below w2.heap.size w2 (w2.drew.alloc (boxC f t (.pointer none))) := (show Below w2.heap.size w2 w2.drew from (Below.refl _ _).drew).alloc (Nat.le_refl _) _
  have HD3 := Lib.hid (HD2.out.below hb3)
  have HU3 := Lib.hid (HU2.out.trans (Upd.of_below hb3))
  have HN3 := Lib.hid (fun j u => new_ch w2.drew f t (.pointer none) (k := w2.heap.size) rfl j u)
  have HQ1 := Lib.hid (show (d.changes.length + 1) * 40 ≤ 140737488355328 by have := HC.out.many; omega)
  have HQ2 := Lib.hid (show d.changes.length + 1 ≤ maxLen by have := HC.out.many; simp [maxLen]; omega)
  have h1v : ∀ u ∈ [Value.string f, .string t, (.pointer none)], u.oneCell' = true := by
    rw [HT.out.1, HT.out.2]; exact one_chV L.fa ⟨src, dst, none⟩
  have H1V := Lib.hid h1v
  clear hb3 h1v
  go_region_law (first
    | (refine S_appendN rfl (.tmp 67) (.tmp 69) 48 (by rfl) sl44 0 L.ch d.changes.length (d.changes.flatMap (chV L.fa)) (by rfl) HD3.out.ch.1 ⟨w2.heap.size, 0, none⟩ 1 1 [.string f, .string t, (.pointer none)] (by rfl) (by rfl) HN3.out H1V.out HQ1.out HQ2.out (Nat.zero_le _) (fun a4 c4 w4 ho4 hg4 hat4 => ?_)
       have hgr4 := HD3.out.ch1 hg4 (c := ⟨src, dst, none⟩) rfl (by rw [HT.out.1, HT.out.2] at ho4; exact ho4) hat4
       have k8g := HD3.out.g
       have k4 : w4.heap[gd]? = some (boxDisk L { d with names := Chg.act ⟨src, dst, none⟩ d.names }) := (hg4.block gd HD3.out.lt (fun e => by have h9 := HD3.out.ch.2 gd e.symm; rw [HD3.out.lg] at h9; omega)).trans HD3.out.g
       have e8' := cell_of_row _ _ 8 _ _ _ k4
       have f8' := frozen_of_row w4 gd 8 _ _ k4
       simp only [List.getElem?_toArray, List.getElem?_cons_zero, List.getElem?_cons_succ] at e8'
       clear k8g k4))
  all_goals
    have HE4 := Lib.hid hgr4
    clear hgr4 ho4 hg4 hat4 e8 b0' b1' b2'
    go_wp2_with fail
    go_end0
    obtain ⟨L', h1, h2⟩ := HE4.out
    exact ⟨rfl, L', by rw [HE.out]; exact h1, HU3.out.trans h2⟩
end Go.Proofs.YtgkehahklccacaaGreatDoor
namespace Go.Proofs.YtgkehahklccacaaGreatDoor
open Go Go.RowKit
set_option maxRecDepth 100000
set_option maxHeartbeats 1000000
set_option linter.unusedVariables false
set_option linter.unusedSimpArgs false
open Go.Maps Go.WideMaps
theorem change_move1 (w : World) (L : Lay) (gd : Nat) (d : Dm) (h : DAt w L gd d) (src dst : Nm) (hc : ChOk d ⟨src, dst, none⟩) (hs : dst ≠ src) (hd : dst ≠ []) (j : Nat) (hk : lk d.names dst = some j) (hj : ∃ fj, d.fs[j]? = some fj) :
    Calls Tryz.prog 96 #[.pointer (some ⟨gd, 0, none⟩), .agg #[.string (bs src), .string (bs dst), .pointer none]] w fun e w' => e = .returned (.tuple #[]) ∧ ∃ L', DAt w' L' gd (d.change ⟨src, dst, none⟩) ∧ Upd L.ρ L'.ρ w w' := by
  obtain ⟨f, hf⟩ : ∃ f, f = bs src := ⟨_, rfl⟩
  obtain ⟨t, ht⟩ : ∃ t, t = bs dst := ⟨_, rfl⟩
  have hft : (t.toList == f.toList) = decide (dst = src) := by
    rw [hf, ht, ByteArray.toList_eq, ByteArray.toList_eq]; by_cases h9 : dst = src <;> simp [bs, h9]
  have ht0 : (t.toList == []) = decide (dst = []) := by
    rw [ht, ByteArray.toList_eq]; cases dst <;> simp [bs]
  rw [← hf, ← ht]
  obtain ⟨w0, hw0⟩ : ∃ w0, w0 = w.alloc (boxC f t (.pointer none)) := ⟨_, rfl⟩
  have hb0 : Below w.heap.size w w0 := by rw [hw0]; exact bel1 _ _
  have g0 : w0.heap[w.heap.size]? = some (boxC f t (.pointer none)) := by rw [hw0]; exact heap_alloc_new w _
  have hd0 := h.below hb0
  have HD0 := Lib.hid hd0
  have HU0 := Lib.hid (Upd.of_below (ρ := L.ρ) hb0)
  obtain ⟨-, -, c2, -, -, -, c6, -, -, -, -, fr⟩ := hd0.cells
  have f2 := fr 2
  obtain ⟨b0, b1, b2⟩ := box3 g0
  have G0 := Lib.hid g0
  have HC := Lib.hid hc
  have HT := Lib.hid (And.intro hf ht)
  have hlt := h.lt
  have hlt0 : gd < w0.heap.size := hd0.lt
  have z0 : w.heap.size < w0.heap.size := by rw [hw0]; simp
  have hnw : w.heap.size ≠ L.nb := by have := h.nm.lt.1; omega
  have hgn : gd ≠ L.nb := fun e => by have h1 := h.nm.lt.2; have h2 := h.lg; rw [← e, h2] at h1; omega
  have hlk : ∀ nq : Nat, (Instr.lookup 47 (.map (some L.nb)) (.string t) false).run Tryz.prog (w0.drewN nq) = .ok (madeV L.fa (lk d.names dst)) (w0.drewN nq) := fun nq => by
    rw [ht]; exact (hd0.below (below_drewN (Below.refl _ _) nq)).nm.look hc.dst
  rw [hk, show madeV L.fa (some j) = .pointer (some ⟨L.fa j, 0, none⟩) from rfl] at hlk
  obtain ⟨fj, hfj⟩ : ∃ fj, d.fs[j]? = some fj := hj
  obtain ⟨vn, vs, vl, hfa⟩ := hd0.fs j fj hfj
  obtain ⟨av, cv, hvn, -⟩ := owns_shape hfa.now.1
  have n1 := cell_of_row _ _ 1 _ _ _ hfa.box
  simp only [List.getElem?_toArray, List.getElem?_cons_zero, List.getElem?_cons_succ] at n1
  rw [hvn] at n1
  obtain ⟨nv, hnv⟩ : ∃ nv, nv = fj.now.length := ⟨_, rfl⟩
  have hfile : d.file j = fj := by unfold Dm.file; rw [hfj]; rfl
  rw [← hnv] at n1
  have e1 : (t.toList != f.toList) = true := by rw [bne, hft, decide_eq_false hs]; rfl
  have e1' : (t.toList == f.toList) = false := by rw [hft, decide_eq_false hs]
  have e2 : (t.toList == []) = false := by rw [ht0, decide_eq_false hd]
  have HE := Lib.hid (show d.change ⟨src, dst, none⟩ = { ({ d with used := wrap64 (d.used - (nv : Int)), names := Chg.act ⟨src, dst, none⟩ d.names } : Dm) with changes := d.changes ++ [⟨src, dst, none⟩] } by unfold Dm.change Dm.usedFor; simp [hs, hd, hk, hfile, hnv])
  clear hs hd hk hft ht0 hfa hfj hvn hfile hnv
  clear h hb0 g0 hd0 hc hf ht fr
  go_enter Tryz.func96, Tryz.ntmps96
  go_upto_region 1 with (fail)
  rw [← hw0]
  clear hw0
  go_wp2_with fail
  go_quiet (fail)
  obtain ⟨wq, hwq⟩ : ∃ wq, wq = w0.drewN nq := ⟨_, rfl⟩
  have hbq : Below w0.heap.size w0 wq := by rw [hwq]; exact below_drewN (Below.refl _ _) nq
  have c2q : wq.cell? ⟨gd, 2, none⟩ = some (.int .i64 d.used) := by rw [hwq]; exact c2
  have f2q : wq.frozen? ⟨gd, 2, none⟩ = false := by rw [hwq]; exact f2
  have n1q : wq.cell? ⟨L.fa j, 1, none⟩ = some (.slice av nv cv) := by rw [hwq]; exact n1
  have b0q : wq.cell? ⟨w.heap.size, 0, none⟩ = some (.string f) := by rw [hwq]; exact b0
  have b1q : wq.cell? ⟨w.heap.size, 1, none⟩ = some (.string t) := by rw [hwq]; exact b1
  rw [← hwq]
  clear hwq c2 f2 n1 b0 b1 b2 c6
  go_wp2_with fail
  go_still_tail 10, (by kernel_rfl)
  change wpList _ _ _ _ _ wq.drew
  obtain ⟨wz, hwz⟩ : ∃ wz, wz = wq.drew := ⟨_, rfl⟩
  have hbz : Below w0.heap.size w0 wz := by rw [hwz]; exact hbq.drew
  have c2z : wz.cell? ⟨gd, 2, none⟩ = some (.int .i64 d.used) := by rw [hwz]; exact c2q
  have f2z : wz.frozen? ⟨gd, 2, none⟩ = false := by rw [hwz]; exact f2q
  rw [← hwz]
  have hdz := HD0.out.below hbz
  have hoz : Only L.ρ (· = 1) wz (wz.setCell ⟨gd, 2, none⟩ (.int .i64 (wrap64 (d.used - (nv : Int))))) := Only.setCell wz gd 2 _ hdz.lg
  have HD1 := Lib.hid (hdz.own1 hoz (d' := { d with used := wrap64 (d.used - (nv : Int)) }) (heap_setCell_same wz gd 2 _ _ _ hdz.g) rfl rfl rfl rfl rfl rfl)
  have HU1 := Lib.hid ((HU0.out.trans (Upd.of_below (ρ := L.ρ) hbz)).trans (Upd.of_only hoz (by omega) (Ext.refl _ _)))
  have G1 := Lib.hid ((heap_setCell_other wz ⟨gd, 2, none⟩ w.heap.size (.int .i64 (wrap64 (d.used - (nv : Int)))) (by show w.heap.size ≠ gd; omega)).trans ((hbz.block _ z0).trans G0.out))
  obtain ⟨w1, hw1⟩ : ∃ w1, w1 = wz.setCell ⟨gd, 2, none⟩ (.int .i64 (wrap64 (d.used - (nv : Int)))) := ⟨_, rfl⟩
  clear hlk c2q f2q b0q b1q n1q hwz hbz hdz hoz hbq
  go_upto_region 5 with (fail)
  rw [← hw1] at HD1 HU1 G1 ⊢
  obtain ⟨b0, b1, b2⟩ := box3 G1.out
  obtain ⟨-, -, -, -, -, -, c6, -⟩ := HD1.out.cells
  clear hw1 c2z f2z HD0 HU0 G0 z0 hlt0
  go_wp2_with fail
  go_region_held3 (fun w' => w'.cell? ⟨gd, 6, none⟩ = some (.map (some L.nb)) ∧ w'.cell? ⟨w.heap.size, 0, none⟩ = some (.string f) ∧ w'.cell? ⟨w.heap.size, 1, none⟩ = some (.string t) ∧ w'.cell? ⟨w.heap.size, 2, none⟩ = some (.pointer none)) (first | exact ⟨c6, b0, b1, b2⟩ | exact ⟨keepm hgr2 hgn c6, keepm hgr2 hnw b0, keepm hgr2 hnw b1, keepm hgr2 hnw b2⟩) (first | (go_at_call 52; rw [HT.out.1, HT.out.2]; refine (do_any w1.drew L.ρ 2 L.fa L.nb d.names ⟨src, dst, none⟩ HD1.out.nm HC.out.nd HC.out.src HC.out.dst HC.out.few HC.out.old HC.out.new).mono ?_; rintro e w2 ⟨rfl, hm2, hgr2⟩))
  have hdu := (HD1.out.below (show Below w1.heap.size w1 w1.drew from (Below.refl _ _).drew)).names1 hgr2 hm2
  have HU2 := Lib.hid ((HU1.out.trans (Upd.of_below (show Below w1.heap.size w1 w1.drew from (Below.refl _ _).drew))).trans hdu.2)
  have HD2 := Lib.hid hdu.1
  have G2 := Lib.hid ((hgr2.block w.heap.size (Array.getElem?_eq_some_iff.1 G1.out).1 (fun e => hnw (Option.some.inj e))).trans G1.out)
  have z2 : w.heap.size < w2.heap.size := (Array.getElem?_eq_some_iff.1 G2.out).1
  have hlt2 : gd < w2.heap.size := hdu.1.lt
  obtain ⟨-, -, -, -, -, -, -, -, e8, -⟩ := hdu.1.cells
  obtain ⟨b0', b1', b2'⟩ := box3 G2.out
  clear hm2 hgr2 hdu c6 b0 b1 b2
  go_wp2_with fail
  have hb3 : Below w2.heap.size w2 (w2.drew.alloc (boxC f t (.pointer none))) := (show Below w2.heap.size w2 w2.drew from (Below.refl _ _).drew).alloc (Nat.le_refl _) _
  have HD3 := Lib.hid (HD2.out.below hb3)
  have HU3 := Lib.hid (HU2.out.trans (Upd.of_below hb3))
  have HN3 := Lib.hid (fun j u => new_ch w2.drew f t (.pointer none) (k := w2.heap.size) rfl j u)
  have HQ1 := Lib.hid (show (d.changes.length + 1) * 40 ≤ 140737488355328 by have := HC.out.many; omega)
  have HQ2 := Lib.hid (show d.changes.length + 1 ≤ maxLen by have := HC.out.many; simp [maxLen]; omega)
  have h1v : ∀ u ∈ [Value.string f, .string t, (.pointer none)], u.oneCell' = true := by
    rw [HT.out.1, HT.out.2]; exact one_chV L.fa ⟨src, dst, none⟩
  have H1V := Lib.hid h1v
  clear hb3 h1v
  go_region_law (first
    | (refine S_appendN rfl (.tmp 67) (.tmp 69) 48 (by rfl) sl44 0 L.ch d.changes.length (d.changes.flatMap (chV L.fa)) (by rfl) HD3.out.ch.1 ⟨w2.heap.size, 0, none⟩ 1 1 [.string f, .string t, (.pointer none)] (by rfl) (by rfl) HN3.out H1V.out HQ1.out HQ2.out (Nat.zero_le _) (fun a4 c4 w4 ho4 hg4 hat4 => ?_)
       have hgr4 := HD3.out.ch1 hg4 (c := ⟨src, dst, none⟩) rfl (by rw [HT.out.1, HT.out.2] at ho4; exact ho4) hat4
       have k8g := HD3.out.g
       have k4 : w4.heap[gd]? = some (boxDisk L { d with used := wrap64 (d.used - (nv : Int)), names := Chg.act ⟨src, dst, none⟩ d.names }) := (hg4.block gd HD3.out.lt (fun e => by have h9 := HD3.out.ch.2 gd e.symm; rw [HD3.out.lg] at h9; omega)).trans HD3.out.g
       have e8' := cell_of_row _ _ 8 _ _ _ k4
       have f8' := frozen_of_row w4 gd 8 _ _ k4
       simp only [List.getElem?_toArray, List.getElem?_cons_zero, List.getElem?_cons_succ] at e8'
       clear k8g k4))
  all_goals
    have HE4 := Lib.hid hgr4
    clear hgr4 ho4 hg4 hat4 e8 b0' b1' b2'
    go_wp2_with fail
    go_end0
    obtain ⟨L', h1, h2⟩ := HE4.out
    exact ⟨rfl, L', by rw [HE.out]; exact h1, HU3.out.trans h2⟩
end Go.Proofs.YtgkehahklccacaaGreatDoor
namespace Go.Proofs.YtgkehahklccacaaGreatDoor
open Go Go.RowKit
set_option maxRecDepth 100000
set_option maxHeartbeats 1000000
set_option linter.unusedVariables false
set_option linter.unusedSimpArgs false
open Go.Maps Go.WideMaps
theorem change_drop (w : World) (L : Lay) (gd : Nat) (d : Dm) (h : DAt w L gd d) (src : Nm) (hc : ChOk d ⟨src, [], none⟩) (hs : src ≠ []) (hk0 : lk d.names [] = none) (j : Nat) (hk : lk d.names src = some j) (hj : ∃ fj, d.fs[j]? = some fj) (dst : Nm) (hd : dst = []) :
    Calls Tryz.prog 96 #[.pointer (some ⟨gd, 0, none⟩), .agg #[.string (bs src), .string (bs dst), .pointer none]] w fun e w' => e = .returned (.tuple #[]) ∧ ∃ L', DAt w' L' gd (d.change ⟨src, [], none⟩) ∧ Upd L.ρ L'.ρ w w' := by
  obtain ⟨f, hf⟩ : ∃ f, f = bs src := ⟨_, rfl⟩
  obtain ⟨t, ht⟩ : ∃ t, t = bs dst := ⟨_, rfl⟩
  have hft : (t.toList == f.toList) = decide (dst = src) := by
    rw [hf, ht, ByteArray.toList_eq, ByteArray.toList_eq]; by_cases h9 : dst = src <;> simp [bs, h9]
  have ht0 : (t.toList == []) = decide (dst = []) := by
    rw [ht, ByteArray.toList_eq]; cases dst <;> simp [bs]
  rw [← hf, ← ht]
  obtain ⟨w0, hw0⟩ : ∃ w0, w0 = w.alloc (boxC f t (.pointer none)) := ⟨_, rfl⟩
  have hb0 : Below w.heap.size w w0 := by rw [hw0]; exact bel1 _ _
  have g0 : w0.heap[w.heap.size]? = some (boxC f t (.pointer none)) := by rw [hw0]; exact heap_alloc_new w _
  have hd0 := h.below hb0
  have HD0 := Lib.hid hd0
  have HU0 := Lib.hid (Upd.of_below (ρ := L.ρ) hb0)
  obtain ⟨-, -, c2, -, -, -, c6, -, -, -, -, fr⟩ := hd0.cells
  have f2 := fr 2
  obtain ⟨b0, b1, b2⟩ := box3 g0
  have G0 := Lib.hid g0
  have HC := Lib.hid hc
  have HT := Lib.hid (And.intro hf ht)
  have hlt := h.lt
  have hlt0 : gd < w0.heap.size := hd0.lt
  have z0 : w.heap.size < w0.heap.size := by rw [hw0]; simp
  have hnw : w.heap.size ≠ L.nb := by have := h.nm.lt.1; omega
  have hgn : gd ≠ L.nb := fun e => by have h1 := h.nm.lt.2; have h2 := h.lg; rw [← e, h2] at h1; omega
  subst hd
  have hlk : ∀ nq : Nat, (Instr.lookup 47 (.map (some L.nb)) (.string t) false).run Tryz.prog (w0.drewN nq) = .ok (.pointer none) (w0.drewN nq) := fun nq => by
    rw [ht, (hd0.below (below_drewN (Below.refl _ _) nq)).nm.look hc.dst, hk0]; rfl
  have hlk2 : ∀ wx : World, Below w0.heap.size w0 wx → (Instr.lookup 47 (.map (some L.nb)) (.string f) false).run Tryz.prog wx = .ok (.pointer (some ⟨L.fa j, 0, none⟩)) wx := fun wx hx => by
    rw [hf, (hd0.below hx).nm.look hc.src, hk]; rfl
  obtain ⟨fj, hfj⟩ : ∃ fj, d.fs[j]? = some fj := hj
  obtain ⟨vn, vs, vl, hfa⟩ := hd0.fs j fj hfj
  obtain ⟨av, cv, hvn, -⟩ := owns_shape hfa.now.1
  have n1 := cell_of_row _ _ 1 _ _ _ hfa.box
  simp only [List.getElem?_toArray, List.getElem?_cons_zero, List.getElem?_cons_succ] at n1
  rw [hvn] at n1
  obtain ⟨nv, hnv⟩ : ∃ nv, nv = fj.now.length := ⟨_, rfl⟩
  have hfile : d.file j = fj := by unfold Dm.file; rw [hfj]; rfl
  rw [← hnv] at n1
  have e1 : (t.toList != f.toList) = true := by rw [bne, hft, decide_eq_false (fun e => hs e.symm)]; rfl
  have e1' : (t.toList == f.toList) = false := by rw [hft, decide_eq_false (fun e => hs e.symm)]
  have e2 : (t.toList == []) = true := by rw [ht0]; rfl
  have HE := Lib.hid (show d.change ⟨src, [], none⟩ = { ({ d with used := wrap64 (d.used - (nv : Int)), names := Chg.act ⟨src, [], none⟩ d.names } : Dm) with changes := d.changes ++ [⟨src, [], none⟩] } by unfold Dm.change Dm.usedFor Dm.lenOf; simp [Ne.symm hs, hk, hk0, hfile, hnv])
  have HLK := Lib.hid hlk2
  clear hs hk hk0 hft ht0 hfa hfj hvn hfile hnv hlk2
  clear h hb0 g0 hd0 hc hf ht fr
  go_enter Tryz.func96, Tryz.ntmps96
  go_upto_region 1 with (fail)
  rw [← hw0]
  clear hw0
  go_wp2_with fail
  go_quiet (fail)
  obtain ⟨wq, hwq⟩ : ∃ wq, wq = w0.drewN nq := ⟨_, rfl⟩
  have hbq : Below w0.heap.size w0 wq := by rw [hwq]; exact below_drewN (Below.refl _ _) nq
  have c2q : wq.cell? ⟨gd, 2, none⟩ = some (.int .i64 d.used) := by rw [hwq]; exact c2
  have c6q : wq.cell? ⟨gd, 6, none⟩ = some (.map (some L.nb)) := by rw [hwq]; exact c6
  have f2q : wq.frozen? ⟨gd, 2, none⟩ = false := by rw [hwq]; exact f2
  have n1q : wq.cell? ⟨L.fa j, 1, none⟩ = some (.slice av nv cv) := by rw [hwq]; exact n1
  have b0q : wq.cell? ⟨w.heap.size, 0, none⟩ = some (.string f) := by rw [hwq]; exact b0
  have b1q : wq.cell? ⟨w.heap.size, 1, none⟩ = some (.string t) := by rw [hwq]; exact b1
  have hlq := HLK.out wq hbq
  have hlq2 := HLK.out wq.drew hbq.drew
  rw [← hwq]
  clear hwq c2 f2 n1 b0 b1 b2 c6 HLK
  go_wp2_with fail
  go_still_tail 16, (by kernel_rfl)
  change wpList _ _ _ _ _ wq.drew
  obtain ⟨wz, hwz⟩ : ∃ wz, wz = wq.drew := ⟨_, rfl⟩
  have hbz : Below w0.heap.size w0 wz := by rw [hwz]; exact hbq.drew
  have c2z : wz.cell? ⟨gd, 2, none⟩ = some (.int .i64 d.used) := by rw [hwz]; exact c2q
  have f2z : wz.frozen? ⟨gd, 2, none⟩ = false := by rw [hwz]; exact f2q
  rw [← hwz]
  have hdz := HD0.out.below hbz
  have hoz : Only L.ρ (· = 1) wz (wz.setCell ⟨gd, 2, none⟩ (.int .i64 (wrap64 (d.used - (nv : Int))))) := Only.setCell wz gd 2 _ hdz.lg
  have HD1 := Lib.hid (hdz.own1 hoz (d' := { d with used := wrap64 (d.used - (nv : Int)) }) (heap_setCell_same wz gd 2 _ _ _ hdz.g) rfl rfl rfl rfl rfl rfl)
  have HU1 := Lib.hid ((HU0.out.trans (Upd.of_below (ρ := L.ρ) hbz)).trans (Upd.of_only hoz (by omega) (Ext.refl _ _)))
  have G1 := Lib.hid ((heap_setCell_other wz ⟨gd, 2, none⟩ w.heap.size (.int .i64 (wrap64 (d.used - (nv : Int)))) (by show w.heap.size ≠ gd; omega)).trans ((hbz.block _ z0).trans G0.out))
  obtain ⟨w1, hw1⟩ : ∃ w1, w1 = wz.setCell ⟨gd, 2, none⟩ (.int .i64 (wrap64 (d.used - (nv : Int)))) := ⟨_, rfl⟩
  clear hlk c2q f2q b0q b1q n1q hwz hbz hdz hoz hbq hlq hlq2 c6q
  go_upto_region 7 with (fail)
  rw [← hw1] at HD1 HU1 G1 ⊢
  obtain ⟨b0, b1, b2⟩ := box3 G1.out
  obtain ⟨-, -, -, -, -, -, c6, -⟩ := HD1.out.cells
  clear hw1 c2z f2z HD0 HU0 G0 z0 hlt0
  go_wp2_with fail
  go_region_held3 (fun w' => w'.cell? ⟨gd, 6, none⟩ = some (.map (some L.nb)) ∧ w'.cell? ⟨w.heap.size, 0, none⟩ = some (.string f) ∧ w'.cell? ⟨w.heap.size, 1, none⟩ = some (.string t) ∧ w'.cell? ⟨w.heap.size, 2, none⟩ = some (.pointer none)) (first | exact ⟨c6, b0, b1, b2⟩ | exact ⟨keepm hgr2 hgn c6, keepm hgr2 hnw b0, keepm hgr2 hnw b1, keepm hgr2 hnw b2⟩) (first | (go_at_call 52; rw [HT.out.1, HT.out.2]; refine (do_any w1.drew L.ρ 2 L.fa L.nb d.names ⟨src, [], none⟩ HD1.out.nm HC.out.nd HC.out.src HC.out.dst HC.out.few HC.out.old HC.out.new).mono ?_; rintro e w2 ⟨rfl, hm2, hgr2⟩))
  have hdu := (HD1.out.below (show Below w1.heap.size w1 w1.drew from (Below.refl _ _).drew)).names1 hgr2 hm2
  have HU2 := Lib.hid ((HU1.out.trans (Upd.of_below (show Below w1.heap.size w1 w1.drew from (Below.refl _ _).drew))).trans hdu.2)
  have HD2 := Lib.hid hdu.1
  have G2 := Lib.hid ((hgr2.block w.heap.size (Array.getElem?_eq_some_iff.1 G1.out).1 (fun e => hnw (Option.some.inj e))).trans G1.out)
  have z2 : w.heap.size < w2.heap.size := (Array.getElem?_eq_some_iff.1 G2.out).1
  have hlt2 : gd < w2.heap.size := hdu.1.lt
  obtain ⟨-, -, -, -, -, -, -, -, e8, -⟩ := hdu.1.cells
  obtain ⟨b0', b1', b2'⟩ := box3 G2.out
  clear hm2 hgr2 hdu c6 b0 b1 b2
  go_wp2_with fail
  have hb3 : Below w2.heap.size w2 (w2.drew.alloc (boxC f t (.pointer none))) := (show Below w2.heap.size w2 w2.drew from (Below.refl _ _).drew).alloc (Nat.le_refl _) _
  have HD3 := Lib.hid (HD2.out.below hb3)
  have HU3 := Lib.hid (HU2.out.trans (Upd.of_below hb3))
  have HN3 := Lib.hid (fun j u => new_ch w2.drew f t (.pointer none) (k := w2.heap.size) rfl j u)
  have HQ1 := Lib.hid (show (d.changes.length + 1) * 40 ≤ 140737488355328 by have := HC.out.many; omega)
  have HQ2 := Lib.hid (show d.changes.length + 1 ≤ maxLen by have := HC.out.many; simp [maxLen]; omega)
  have h1v : ∀ u ∈ [Value.string f, .string t, (.pointer none)], u.oneCell' = true := by
    rw [HT.out.1, HT.out.2]; exact one_chV L.fa ⟨src, [], none⟩
  have H1V := Lib.hid h1v
  clear hb3 h1v
  go_region_law (first
    | (refine S_appendN rfl (.tmp 67) (.tmp 69) 48 (by rfl) sl44 0 L.ch d.changes.length (d.changes.flatMap (chV L.fa)) (by rfl) HD3.out.ch.1 ⟨w2.heap.size, 0, none⟩ 1 1 [.string f, .string t, (.pointer none)] (by rfl) (by rfl) HN3.out H1V.out HQ1.out HQ2.out (Nat.zero_le _) (fun a4 c4 w4 ho4 hg4 hat4 => ?_)
       have hgr4 := HD3.out.ch1 hg4 (c := ⟨src, [], none⟩) rfl (by rw [HT.out.1, HT.out.2] at ho4; exact ho4) hat4
       have k8g := HD3.out.g
       have k4 : w4.heap[gd]? = some (boxDisk L { d with used := wrap64 (d.used - (nv : Int)), names := Chg.act ⟨src, [], none⟩ d.names }) := (hg4.block gd HD3.out.lt (fun e => by have h9 := HD3.out.ch.2 gd e.symm; rw [HD3.out.lg] at h9; omega)).trans HD3.out.g
       have e8' := cell_of_row _ _ 8 _ _ _ k4
       have f8' := frozen_of_row w4 gd 8 _ _ k4
       simp only [List.getElem?_toArray, List.getElem?_cons_zero, List.getElem?_cons_succ] at e8'
       clear k8g k4))
  all_goals
    have HE4 := Lib.hid hgr4
    clear hgr4 ho4 hg4 hat4 e8 b0' b1' b2'
    go_wp2_with fail
    go_end0
    obtain ⟨L', h1, h2⟩ := HE4.out
    exact ⟨rfl, L', by rw [HE.out]; exact h1, HU3.out.trans h2⟩
end Go.Proofs.YtgkehahklccacaaGreatDoor
