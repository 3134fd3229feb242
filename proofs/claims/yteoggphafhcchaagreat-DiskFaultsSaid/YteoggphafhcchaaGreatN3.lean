import Derived.Test.YteoggphafhcchaaGreatN1
import Derived.Test.YteoggphafhcchaaGreatM19
import Derived.Test.YteoggphafhcchaaGreatM9d
namespace Go.Proofs.YteoggphafhcchaaGreat
open Go Go.RowKit
set_option maxRecDepth 100000
set_option maxHeartbeats 1000000
set_option linter.unusedVariables false
set_option linter.unusedSimpArgs false
open Go.Maps Go.WideMaps
/-- A slice of numbers that the disk does not hold. -/
def NsAt (w : World) (ρ : Nat → Nat) (a : Option Addr) (n : Nat) (ns : List Int) : Prop := ns.length = n ∧ ∀ j x, ns[j]? = some x → ∃ b off, a = some ⟨b, off, none⟩ ∧ w.cell? ⟨b, off + j, none⟩ = some (.int .i64 x) ∧ ρ b = 0 ∧ -9223372036854775808 ≤ x ∧ x ≤ 9223372036854775807
theorem NsAt.upd {w w' : World} {ρ ρ' : Nat → Nat} {a : Option Addr} {n : Nat} {ns : List Int} (h : NsAt w ρ a n ns) (hu : Upd ρ ρ' w w') : NsAt w' ρ' a n ns := ⟨h.1, fun j x hx => by
  obtain ⟨b, off, e, hc, hr, hx0⟩ := h.2 j x hx
  have hb := World.block_lt_of_cell? w _ hc
  exact ⟨b, off, e, (World.cell?_of_block (a := ⟨b, off + j, none⟩) (hu.block b hb hr)).trans hc, hu.ext.old b hb hr, hx0⟩⟩
/-- Files whose runs can be played. -/
def Fine (fs : List Fl) : Prop := ∀ f ∈ fs, okR f.loose f.safe.length ∧ f.loose.length < 1099511627776
theorem playN_neg (l : List Run) (n : Int) (b : List UInt8) (hn : n ≤ 0) : playN l n b = b := by
  cases l with
  | nil => rfl
  | cons u r => rw [playN, if_pos hn]
theorem playN_len {l : List Run} : ∀ {n : Int} {b : List UInt8}, okR l b.length → (playN l n b).length ≤ 2147483647 := by
  induction l with
  | nil => intro n b h; exact h
  | cons u r ih =>
    intro n b h
    rw [playN]
    split
    · exact h.1
    · rename_i hn
      obtain ⟨h1, h2, h3⟩ := h
      by_cases hl : u.laid = []
      · have hp : u.play n.toNat b = b.take u.cut := by unfold Run.play; rw [if_pos hl, hl]; simp
        rw [hp]
        refine ih ?_
        rw [List.length_take, Nat.min_eq_left (h2 hl)]
        rw [if_pos hl, hl] at h3; exact h3
      · have hp : u.play n.toNat b = b ++ u.laid.take n.toNat := by unfold Run.play; rw [if_neg hl]
        rw [hp]
        rw [if_neg hl] at h3
        have hle := h3.le
        by_cases hn2 : n - (u.units : Int) ≤ 0
        · rw [playN_neg _ _ _ hn2, List.length_append, List.length_take]; omega
        · have hun : u.laid.length ≤ u.units := by unfold Run.units; omega
          rw [List.take_of_length_le (by omega)]
          exact ih (by rw [List.length_append]; exact h3)
theorem Fl.keep_fine {f : Fl} (h : okR f.loose f.safe.length) (n : Int) : okR (f.keep n).loose (f.keep n).safe.length ∧ (f.keep n).loose.length < 1099511627776 := ⟨playN_len h, by unfold Fl.keep; simp⟩
theorem Fine.set {fs : List Fl} (h : Fine fs) (i : Nat) {f : Fl} (hf : okR f.loose f.safe.length ∧ f.loose.length < 1099511627776) : Fine (fs.set i f) := fun g hg => by
  rcases List.mem_or_eq_of_mem_set hg with h1 | h1
  · exact h g h1
  · rw [h1]; exact hf
theorem okR_nil : okR [] 0 := Nat.zero_le _
theorem Fine.at {fs : List Fl} (h : Fine fs) (i : Nat) : okR (fs[i]?.getD ⟨[], [], []⟩).loose (fs[i]?.getD ⟨[], [], []⟩).safe.length ∧ (fs[i]?.getD ⟨[], [], []⟩).loose.length < 1099511627776 := by
  cases e : fs[i]? with
  | none => exact ⟨okR_nil, by simp⟩
  | some f => exact h f (List.mem_of_getElem? e)
theorem keepAll_snoc (l : List Nat) (i : Nat) : ∀ (ns : List Int) (fs : List Fl), keepAll (l ++ [i]) ns fs = (keepAll l ns fs).set i (((keepAll l ns fs)[i]?.getD ⟨[], [], []⟩).keep (ns[l.length]?.getD 0)) := by
  induction l with
  | nil => intro ns fs; cases ns <;> rfl
  | cons x r ih =>
    intro ns fs
    rw [List.cons_append, keepAll, ih]
    rw [keepAll]
    cases ns with
    | nil => simp
    | cons y t => simp
theorem keepAll_len (l : List Nat) : ∀ (ns : List Int) (fs : List Fl), (keepAll l ns fs).length = fs.length := by
  induction l with
  | nil => intro ns fs; rfl
  | cons x r ih => intro ns fs; rw [keepAll, ih, List.length_set]
theorem keepAll_fine (l : List Nat) : ∀ (ns : List Int) (fs : List Fl), Fine fs → Fine (keepAll l ns fs) := by
  induction l with
  | nil => intro ns fs h; exact h
  | cons x r ih => intro ns fs h; rw [keepAll]; exact ih _ _ (h.set _ (Fl.keep_fine (h.at x).1 _))
/-- The safe names written. -/
theorem DAt.safeTo {w w' : World} {L : Lay} {gd : Nat} {d : Dm} {m : List (Nm × Nat)} (h : DAt w L gd d) (hg : w.grownBy w' (some L.sb)) (hn : NAt w' L.ρ 3 L.fa L.sb m) : DAt w' L gd { d with safe := m } := by
  have hs := h.sf.lt.2
  have hk : ∀ k, L.ρ k ≠ 0 → L.ρ k ≠ 3 → w'.heap[k]? = w.heap[k]? := fun k h0 h1 => hg.block k (h.dom k h0) (fun e => by have := Option.some.inj e; rw [this] at h1; exact h1 hs)
  refine ⟨(hk gd (by rw [h.lg]; omega) (by rw [h.lg]; omega)).trans h.g, h.lg, fun k e => Nat.lt_of_lt_of_le (h.dom k e) hg.size, h.nm.keep (fun k e => hk k (by omega) (by omega)) (fun _ e => e) (fun _ _ _ => rfl), hn, h.cl.keep (fun k e => hk k (by omega) (by omega)) (fun _ e => e), h.ch.keep (fun k e => hk k (by omega) (by omega)) (fun _ e => e), h.pl.keep (fun k e => hk k (by omega) (by omega)) (fun _ e => e), fun i f hf => ?_⟩
  obtain ⟨vn, vs, vl, hx⟩ := h.fs i f hf
  exact ⟨vn, vs, vl, hx.keep (fun k e => hk k (by omega) (by omega)) (fun _ _ => rfl)⟩
end Go.Proofs.YteoggphafhcchaaGreat
namespace Go.Proofs.YteoggphafhcchaaGreat
open Go Go.RowKit
set_option maxRecDepth 100000
set_option maxHeartbeats 1000000
set_option linter.unusedVariables false
set_option linter.unusedSimpArgs false
open Go.Maps Go.WideMaps
/-- Names cloned from the safe ones, and a number for the bytes in use. -/
theorem DAt.cloned {w w4 : World} {L : Lay} {gd nb : Nat} {d : Dm} {m : List (Nm × Nat)} (h : DAt w L gd d) (hnb : nb = w.heap.size) (hb : Below nb w w4) (hz : nb < w4.heap.size) (hN : ∀ (ρ' : Nat → Nat) (r' : Nat), ρ' nb = r' → NAt w4 ρ' r' L.fa nb m) (u : Int) :
    DAt ((w4.setCell ⟨gd, 6, none⟩ (.map (some nb))).setCell ⟨gd, 2, none⟩ (.int .i64 u)) { L with ρ := put1 L.ρ nb 2, nb := nb } gd { d with names := m, used := u } ∧ Upd L.ρ (put1 L.ρ nb 2) w ((w4.setCell ⟨gd, 6, none⟩ (.map (some nb))).setCell ⟨gd, 2, none⟩ (.int .i64 u)) := by
  have hgl := h.lt
  have hx : w4.heap[gd]? = some (boxDisk L d) := (hb.block gd (by omega)).trans h.g
  have hlg := h.lg
  obtain ⟨w6, hw6⟩ : ∃ w6, w6 = (w4.setCell ⟨gd, 6, none⟩ (.map (some nb))).setCell ⟨gd, 2, none⟩ (.int .i64 u) := ⟨_, rfl⟩
  rw [← hw6]
  have g6 : w6.heap[gd]? = some (boxDisk { L with ρ := put1 L.ρ nb 2, nb := nb } { d with names := m, used := u }) := by
    rw [hw6]; exact heap_setCell_same _ gd 2 _ _ _ (heap_setCell_same w4 gd 6 _ _ _ hx)
  have ho : Only L.ρ (· = 1) w w6 := by
    rw [hw6]
    exact ((Only.of_below (by rw [← hnb]; exact hb)).trans (Only.setCell w4 gd 6 _ hlg)).trans (Only.setCell _ gd 2 _ hlg)
  have h0 : L.ρ nb = 0 := h.new _ (by omega)
  have he : Ext w.heap.size L.ρ (put1 L.ρ nb 2) := Ext.put 2 h0 (by omega)
  have hk : ∀ k, L.ρ k ≠ 0 → L.ρ k ≠ 1 → w6.heap[k]? = w.heap[k]? := fun k h0 h1 => ho.block k (h.dom k h0) h1
  have hs : ∀ r, r ≠ 0 → ∀ k, L.ρ k = r → put1 L.ρ nb 2 k = r := fun r hr k e => (he.same k (by omega)).trans e
  have z6 : w6.heap.size = w4.heap.size := by rw [hw6]; simp
  have e6 : w6.heap[nb]? = w4.heap[nb]? := by
    rw [hw6]; exact (heap_setCell_other _ ⟨gd, 2, none⟩ nb _ (by simp; omega)).trans (heap_setCell_other w4 ⟨gd, 6, none⟩ nb _ (by simp; omega))
  have hp2 : put1 L.ρ nb 2 nb = 2 := by unfold put1; rw [if_pos rfl]
  refine ⟨⟨g6, hs 1 (by omega) gd hlg, fun k e => ?_, ?_, h.sf.keep (fun k e => hk k (by omega) (by omega)) (hs 3 (by omega)) (fun _ _ _ => rfl), h.cl.keep (fun k e => hk k (by omega) (by omega)) (hs 4 (by omega)), h.ch.keep (fun k e => hk k (by omega) (by omega)) (hs 5 (by omega)), h.pl.keep (fun k e => hk k (by omega) (by omega)) (hs 6 (by omega)), fun i f hf => ?_⟩, Upd.of_only ho (by omega) he⟩
  · by_cases e' : k = nb
    · rw [e', z6]; exact hz
    · have e2 : put1 L.ρ nb 2 k ≠ 0 := e
      unfold put1 at e2
      rw [if_neg e'] at e2
      rw [z6]; exact Nat.lt_of_lt_of_le (h.dom k e2) ((show w.heap.size ≤ w4.heap.size from hb.size))
  · obtain ⟨D, ⟨es, ck, hbk, hr⟩, h1, h2, h3⟩ := hN (put1 L.ρ nb 2) 2 hp2
    exact ⟨D, ⟨es, ck, e6.trans hbk, hr⟩, h1, h2, h3⟩
  · obtain ⟨vn, vs, vl, hx⟩ := h.fs i f hf
    exact ⟨vn, vs, vl, hx.keep (fun k e => hk k (by omega) (by omega)) (fun k e => he.same k e)⟩
theorem DAt.usedTo {w : World} {L : Lay} {gd : Nat} {d : Dm} (h : DAt w L gd d) (u : Int) : DAt (w.setCell ⟨gd, 2, none⟩ (.int .i64 u)) L gd { d with used := u } :=
  h.own1 (Only.setCell w gd 2 _ h.lg) (heap_setCell_same w gd 2 _ _ _ h.g) rfl rfl rfl rfl rfl rfl
/-- What ends a Restart. -/
theorem DAt.ended {w : World} {L : Lay} {gd : Nat} {d : Dm} (h : DAt w L gd d) : DAt ((((w.setCell ⟨gd, 8, none⟩ (.slice none 0 0)).setCell ⟨gd, 9, none⟩ (.slice none 0 0)).setCell ⟨gd, 5, none⟩ (.bool true)).setCell ⟨gd, 4, none⟩ (.int .i64 ((d.epoch : Int) + 1))) { L with ch := .slice none 0 0, pl := .slice none 0 0 } gd { d with changes := [], plan := [], power := true, epoch := d.epoch + 1 } ∧
    Upd L.ρ L.ρ w ((((w.setCell ⟨gd, 8, none⟩ (.slice none 0 0)).setCell ⟨gd, 9, none⟩ (.slice none 0 0)).setCell ⟨gd, 5, none⟩ (.bool true)).setCell ⟨gd, 4, none⟩ (.int .i64 ((d.epoch : Int) + 1))) := by
  have hlg := h.lg
  obtain ⟨w6, hw6⟩ : ∃ w6, w6 = (((w.setCell ⟨gd, 8, none⟩ (.slice none 0 0)).setCell ⟨gd, 9, none⟩ (.slice none 0 0)).setCell ⟨gd, 5, none⟩ (.bool true)).setCell ⟨gd, 4, none⟩ (.int .i64 ((d.epoch : Int) + 1)) := ⟨_, rfl⟩
  rw [← hw6]
  have g6 : w6.heap[gd]? = some (boxDisk { L with ch := .slice none 0 0, pl := .slice none 0 0 } { d with changes := [], plan := [], power := true, epoch := d.epoch + 1 }) := by
    rw [hw6]
    have h9 := heap_setCell_same _ gd 4 _ _ (.int .i64 ((d.epoch : Int) + 1)) (heap_setCell_same _ gd 5 _ _ (.bool true) (heap_setCell_same _ gd 9 _ _ (.slice none 0 0) (heap_setCell_same w gd 8 _ _ (.slice none 0 0) h.g)))
    exact h9
  have ho : Only L.ρ (· = 1) w w6 := by
    rw [hw6]
    exact (((Only.setCell w gd 8 _ hlg).trans (Only.setCell _ gd 9 _ hlg)).trans (Only.setCell _ gd 5 _ hlg)).trans (Only.setCell _ gd 4 _ hlg)
  have hk : ∀ k, L.ρ k ≠ 0 → L.ρ k ≠ 1 → w6.heap[k]? = w.heap[k]? := fun k h0 h1 => ho.block k (h.dom k h0) h1
  refine ⟨⟨g6, hlg, fun k e => Nat.lt_of_lt_of_le (h.dom k e) ho.size, h.nm.keep (fun k e => hk k (by omega) (by omega)) (fun _ e => e) (fun _ _ _ => rfl), h.sf.keep (fun k e => hk k (by omega) (by omega)) (fun _ e => e) (fun _ _ _ => rfl), h.cl.keep (fun k e => hk k (by omega) (by omega)) (fun _ e => e), OwnL.nil _ _ _ _ _, PlAt.nil _ _, fun i f hf => ?_⟩, Upd.of_only ho (by omega) (Ext.refl _ _)⟩
  obtain ⟨vn, vs, vl, hx⟩ := h.fs i f hf
  exact ⟨vn, vs, vl, hx.keep (fun k e => hk k (by omega) (by omega)) (fun _ _ => rfl)⟩
theorem keepAll_now (l : List Nat) : ∀ (ns : List Int) (fs : List Fl), Fine fs → (∀ f ∈ fs, f.now.length ≤ 2147483647) → ∀ f ∈ keepAll l ns fs, f.now.length ≤ 2147483647 := by
  induction l with
  | nil => intro ns fs _ h; exact h
  | cons x r ih =>
    intro ns fs hf h
    rw [keepAll]
    refine ih _ _ (hf.set _ (Fl.keep_fine (hf.at x).1 _)) (fun f hm => ?_)
    rcases List.mem_or_eq_of_mem_set hm with h1 | h1
    · exact h f h1
    · rw [h1]; exact playN_len (hf.at x).1
def lenF (fs : List Fl) (i : Nat) : Nat := (fs[i]?.getD ⟨[], [], []⟩).now.length
theorem lenF_le {fs : List Fl} (h : ∀ f ∈ fs, f.now.length ≤ 2147483647) (i : Nat) : lenF fs i ≤ 2147483647 := by
  unfold lenF
  cases e : fs[i]? with
  | none => simp
  | some f => exact h f (List.mem_of_getElem? e)
/-- The bytes that a map's names find. -/
def sumL (len : Nat → Nat) (m : List (Nm × Nat)) : Nat := (m.map fun p => len p.2).sum
theorem wrapSum (len : Nat → Nat) (B : Nat) (hB : ∀ i, len i ≤ B) : ∀ (m : List (Nm × Nat)) (u : Nat), u + m.length * B < 9223372036854775808 → m.foldl (fun (u : Int) p => wrap64 (u + (len p.2 : Int))) (u : Int) = ((u + sumL len m : Nat) : Int) := by
  intro m
  induction m with
  | nil => intro u h; simp [sumL]
  | cons p r ih =>
    intro u h
    have hl := hB p.2
    rw [List.length_cons] at h
    have h1 : u + len p.2 + r.length * B < 9223372036854775808 := by rw [Nat.add_mul] at h; omega
    rw [List.foldl_cons, show wrap64 ((u : Int) + (len p.2 : Int)) = ((u + len p.2 : Nat) : Int) by rw [wrap64_small (by omega) (by omega)]; push_cast; rfl, ih _ h1]
    unfold sumL
    rw [List.map_cons, List.sum_cons]; push_cast; omega
def lenOn (fs : List Fl) (m : List (Nm × Nat)) (s : Nm) : Nat := match lk m s with | some i => lenF fs i | none => 0
theorem lenOn_some {fs : List Fl} {m : List (Nm × Nat)} {s : Nm} {i : Nat} (h : lk m s = some i) : lenOn fs m s = lenF fs i := by unfold lenOn; rw [h]
theorem lenOn_le {fs : List Fl} (h : ∀ f ∈ fs, f.now.length ≤ 2147483647) (m : List (Nm × Nat)) (s : Nm) : lenOn fs m s ≤ 2147483647 := by
  unfold lenOn
  split
  · exact lenF_le h _
  · omega
theorem sumL_keys (fs : List Fl) {m : List (Nm × Nat)} (hn : (keysOf m).Nodup) {ss : List Nm} (hp : ss.Perm (keysOf m)) : (ss.map (lenOn fs m)).sum = sumL (lenF fs) m := by
  rw [(hp.map _).sum_nat]
  unfold sumL keysOf
  rw [List.map_map]
  congr 1
  exact List.map_congr_left fun p hp => lenOn_some (lk_of_mem hn (s := p.1) (i := p.2) hp)
theorem sum_used (fs : List Fl) (h : ∀ f ∈ fs, f.now.length ≤ 2147483647) {m : List (Nm × Nat)} (hm : m.length ≤ 4096) (hn : (keysOf m).Nodup) {ss : List Nm} (hp : ss.Perm (keysOf m)) : (((ss.map (lenOn fs m)).sum : Nat) : Int) = m.foldl (fun (u : Int) p => wrap64 (u + ((fs[p.2]?.getD ⟨[], [], []⟩).now.length : Int))) 0 := by
  have h3 := wrapSum (lenF fs) 2147483647 (lenF_le h) m 0 (by omega)
  rw [sumL_keys fs hn hp]
  exact (congrArg (Nat.cast (R := Int)) (Nat.zero_add (sumL (lenF fs) m))).symm.trans h3.symm
end Go.Proofs.YteoggphafhcchaaGreat
