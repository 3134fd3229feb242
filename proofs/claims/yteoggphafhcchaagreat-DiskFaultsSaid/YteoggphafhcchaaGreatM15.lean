import Derived.Test.YteoggphafhcchaaGreatM14
namespace Go.Proofs.YteoggphafhcchaaGreat
open Go Go.RowKit
set_option maxRecDepth 100000
set_option maxHeartbeats 1000000
set_option linter.unusedVariables false
set_option linter.unusedSimpArgs false
open Go.Maps Go.WideMaps
theorem DAt.relab {w : World} {L : Lay} {gd : Nat} {d : Dm} (h : DAt w L gd d) {ρ' : Nat → Nat} (hs : ∀ k, L.ρ k ≠ 0 → ρ' k = L.ρ k) (hd : ∀ k, ρ' k ≠ 0 → k < w.heap.size) : DAt w { L with ρ := ρ' } gd d := by
  have hr : ∀ r, r ≠ 0 → ∀ k, L.ρ k = r → ρ' k = r := fun r hr k e => (hs k (by omega)).trans e
  refine ⟨h.g, hr 1 (by omega) gd h.lg, hd, h.nm.keep (fun _ _ => rfl) (hr 2 (by omega)) (fun _ _ _ => rfl), h.sf.keep (fun _ _ => rfl) (hr 3 (by omega)) (fun _ _ _ => rfl), h.cl.keep (fun _ _ => rfl) (hr 4 (by omega)), h.ch.keep (fun _ _ => rfl) (hr 5 (by omega)), h.pl.keep (fun _ _ => rfl) (hr 6 (by omega)), fun i f hf => ?_⟩
  obtain ⟨vn, vs, vl, hx⟩ := h.fs i f hf
  exact ⟨vn, vs, vl, hx.keep (fun _ _ => rfl) hs⟩
theorem FAt.lt {w : World} {ρ : Nat → Nat} {i g : Nat} {f : Fl} {vn vs vl : Value} (h : FAt w ρ i g f vn vs vl) : g < w.heap.size := (Array.getElem?_eq_some_iff.1 h.box).1
theorem FAt.cells {w : World} {ρ : Nat → Nat} {i g : Nat} {f : Fl} {vn vs vl : Value} (h : FAt w ρ i g f vn vs vl) : w.cell? ⟨g, 0, none⟩ = some (.int .i64 ((i : Int) + 1)) ∧ w.cell? ⟨g, 1, none⟩ = some vn ∧ w.cell? ⟨g, 2, none⟩ = some vs ∧ w.cell? ⟨g, 3, none⟩ = some vl ∧ ∀ o, w.frozen? ⟨g, o, none⟩ = false := by
  have h := h.box
  refine ⟨?_, ?_, ?_, ?_, fun o => frozen_of_row w g o _ _ h⟩ <;> (rw [cell_of_row _ _ _ _ _ _ h]; rfl)
/-- A file's bytes written. -/
theorem DAt.nowTo {w w4 : World} {L : Lay} {gd i : Nat} {d : Dm} (h : DAt w L gd d) (hi : i < d.fs.length) {vn vs vl : Value} (hf : FAt w L.ρ i (L.fa i) (d.file i) vn vs vl) (hg : w.grownBy w4 vn.ownBlock) {v' : Value} {l : List UInt8} (ho : w4.ownsRow 0 5 1 v' l.length (l.map b8)) (hat : v'.ownBlock = vn.ownBlock ∨ v'.ownBlock = some w.heap.size) :
    ∃ ρ', DAt (w4.setCell ⟨L.fa i, 1, none⟩ v') { L with ρ := ρ' } gd (d.setF i ⟨l, (d.file i).safe, (d.file i).loose⟩) ∧ Upd L.ρ ρ' w (w4.setCell ⟨L.fa i, 1, none⟩ v') ∧ FAt (w4.setCell ⟨L.fa i, 1, none⟩ v') ρ' i (L.fa i) ⟨l, (d.file i).safe, (d.file i).loose⟩ v' vs vl := by
  have hlg := hf.lg
  have hgl := hf.lt
  have hgb : ∀ k, vn.ownBlock = some k → k ≠ L.fa i := fun k hk e => by have := hf.now.2 k hk; rw [e, hlg] at this; omega
  have o1 : Only L.ρ (fun r => r = 8 + 4 * i ∨ r = 7 + 4 * i) w w4 := Only.of_grown hg (fun k e => .inl (hf.now.2 k e))
  have o2 : Only L.ρ (fun r => r = 8 + 4 * i ∨ r = 7 + 4 * i) w (w4.setCell ⟨L.fa i, 1, none⟩ v') := o1.trans (Only.setCell w4 _ 1 v' (.inr hlg))
  have ho' : (w4.setCell ⟨L.fa i, 1, none⟩ v').ownsRow 0 5 1 v' l.length (l.map b8) := own_same ho (fun k hk => heap_setCell_other w4 ⟨L.fa i, 1, none⟩ k _ (fun e => by
    have e1 : k = L.fa i := e
    rcases hat with hat | hat
    · exact hgb k (by rw [← hat]; exact hk) e1
    · rw [hat] at hk; have := Option.some.inj hk; omega))
  obtain ⟨ρ', he, hd, hO⟩ := relabel hf.now h.dom ho' hat (by omega) o2.size
  have hk : ∀ k, L.ρ k ≠ 0 → L.ρ k ≠ 8 + 4 * i → L.ρ k ≠ 7 + 4 * i → (w4.setCell ⟨L.fa i, 1, none⟩ v').heap[k]? = w.heap[k]? := fun k h0 h1 h2 => o2.block k (h.dom k h0) (by omega)
  have hbx : w4.heap[L.fa i]? = some (boxFile i vn vs vl) := (hg.block _ hgl (fun e => hgb _ e.symm rfl)).trans hf.box
  have hF : FAt (w4.setCell ⟨L.fa i, 1, none⟩ v') ρ' i (L.fa i) ⟨l, (d.file i).safe, (d.file i).loose⟩ v' vs vl :=
    ⟨heap_setCell_same w4 _ 1 _ _ v' hbx, (he.same _ (by omega)).trans hlg, hO, hf.safe.keep (fun k e => hk k (by omega) (by omega) (by omega)) (fun k e => (he.same k (by omega)).trans e), hf.loose.keep (fun k e => hk k (by omega) (by omega) (by omega)) (fun k e => he.same k (by omega))⟩
  exact ⟨ρ', h.file1 hi (o2.mono (fun r hr => by omega)) he hd hF, Upd.of_only o2 (by omega) he, hF⟩
/-- One more run laid behind a file's others. -/
theorem DAt.looseTo {w w4 : World} {L : Lay} {gd i : Nat} {d : Dm} (h : DAt w L gd d) (hi : i < d.fs.length) {f : Fl} (hfile : d.file i = f) {vn vs vl : Value} (hf : FAt w L.ρ i (L.fa i) f vn vs vl) (hg : w.grownBy w4 vl.ownBlock) {v' lv : Value} {u : Run} {rs : List (Value × Int)} {n' : Nat} (hn : n' = f.loose.length + 1)
    (hrs : rs.length = f.loose.length) (hall : ∀ (k : Nat) (p : Value × Int) (u : Run), rs[k]? = some p → f.loose[k]? = some u → p.2 = (u.cut : Int) ∧ RdL w L.ρ p.1 u.laid) (hlv : RdL w L.ρ lv u.laid)
    (hO0 : OwnL w L.ρ 86 2 (10 + 4 * i) vl f.loose.length (rs.flatMap runV)) (ho : w4.ownsRow 0 86 2 v' n' (rs.flatMap runV ++ [lv, .int .i64 u.cut])) (hat : v'.ownBlock = vl.ownBlock ∨ v'.ownBlock = some w.heap.size) :
    ∃ ρ', DAt (w4.setCell ⟨L.fa i, 3, none⟩ v') { L with ρ := ρ' } gd (d.setF i ⟨f.now, f.safe, f.loose ++ [u]⟩) ∧ Upd L.ρ ρ' w (w4.setCell ⟨L.fa i, 3, none⟩ v') := by
  subst hfile
  subst hn
  have hlg := hf.lg
  have hgl := hf.lt
  have hgb : ∀ k, vl.ownBlock = some k → k ≠ L.fa i := fun k hk e => by have := hO0.2 k hk; rw [e, hlg] at this; omega
  have o1 : Only L.ρ (fun r => r = 10 + 4 * i ∨ r = 7 + 4 * i) w w4 := Only.of_grown hg (fun k e => .inl (hO0.2 k e))
  have o2 : Only L.ρ (fun r => r = 10 + 4 * i ∨ r = 7 + 4 * i) w (w4.setCell ⟨L.fa i, 3, none⟩ v') := o1.trans (Only.setCell w4 _ 3 v' (.inr hlg))
  have ho' : (w4.setCell ⟨L.fa i, 3, none⟩ v').ownsRow 0 86 2 v' ((d.file i).loose.length + 1) (rs.flatMap runV ++ [lv, .int .i64 u.cut]) := own_same ho (fun k hk => heap_setCell_other w4 ⟨L.fa i, 3, none⟩ k _ (fun e => by
    have e1 : k = L.fa i := e
    rcases hat with hat | hat
    · exact hgb k (by rw [← hat]; exact hk) e1
    · rw [hat] at hk; have := Option.some.inj hk; omega))
  obtain ⟨ρ', he, hd, hO⟩ := relabel hO0 h.dom ho' hat (by omega) o2.size
  have hk : ∀ k, L.ρ k ≠ 0 → L.ρ k ≠ 10 + 4 * i → L.ρ k ≠ 7 + 4 * i → (w4.setCell ⟨L.fa i, 3, none⟩ v').heap[k]? = w.heap[k]? := fun k h0 h1 h2 => o2.block k (h.dom k h0) (by omega)
  have hrd : ∀ {v : Value} {l : List UInt8}, RdL w L.ρ v l → RdL (w4.setCell ⟨L.fa i, 3, none⟩ v') ρ' v l := fun hx => hx.keep (fun k e => hk k (by omega) (by omega) (by omega)) (fun k e => (he.same k (by omega)).trans e)
  have hbx : w4.heap[L.fa i]? = some (boxFile i vn vs vl) := (hg.block _ hgl (fun e => hgb _ e.symm rfl)).trans hf.box
  have hF : FAt (w4.setCell ⟨L.fa i, 3, none⟩ v') ρ' i (L.fa i) ⟨(d.file i).now, (d.file i).safe, (d.file i).loose ++ [u]⟩ vn vs v' :=
    ⟨heap_setCell_same w4 _ 3 _ _ v' hbx, (he.same _ (by omega)).trans hlg, hf.now.keep (fun k e => hk k (by omega) (by omega) (by omega)) (fun k e => (he.same k (by omega)).trans e), hf.safe.keep (fun k e => hk k (by omega) (by omega) (by omega)) (fun k e => (he.same k (by omega)).trans e),
      rs ++ [(lv, (u.cut : Int))], by simp [hrs], by
        show OwnL _ ρ' 86 2 (10 + 4 * i) v' ((d.file i).loose ++ [u]).length _
        rw [List.flatMap_append, List.length_append]
        exact hO, fun k p x hp hx => by
        by_cases hkl : k < rs.length
        · rw [List.getElem?_append_left hkl] at hp
          have hx' : ((d.file i).loose ++ [u])[k]? = some x := hx
          rw [List.getElem?_append_left (by omega)] at hx'
          exact ⟨(hall k p x hp hx').1, hrd (hall k p x hp hx').2⟩
        · rw [List.getElem?_append_right (by omega)] at hp
          have hx' : ((d.file i).loose ++ [u])[k]? = some x := hx
          rw [List.getElem?_append_right (by omega)] at hx'
          have h1 := (List.getElem?_eq_some_iff.1 hp).1
          obtain h2 : k - rs.length = 0 := by simp at h1; omega
          rw [h2] at hp
          rw [show k - (d.file i).loose.length = 0 by omega] at hx'
          simp at hp hx'
          subst hp; subst hx'
          exact ⟨rfl, hrd hlv⟩⟩
  exact ⟨ρ', h.file1 hi (o2.mono (fun r hr => by omega)) he hd hF, Upd.of_only o2 (by omega) he⟩
theorem Dm.file_set {d : Dm} {i : Nat} (hi : i < d.fs.length) (f : Fl) : (d.setF i f).file i = f := by unfold Dm.setF Dm.file; simp [hi]
theorem Dm.set_set {d : Dm} {i : Nat} (f f2 : Fl) : (d.setF i f).setF i f2 = d.setF i f2 := by unfold Dm.setF; simp
theorem RdL.nil (w : World) (ρ : Nat → Nat) : RdL w ρ (.slice none 0 0) [] := ⟨none, 0, rfl, R8.nil w 0, fun b off e => by cases e⟩
theorem sl82 : Sl Tryz.prog 82 86 (.agg #[.slice none 0 0, .int .i64 0]) 2 32 := ⟨Tryz.underlying82, by kernel_rfl, rfl, by decide⟩
/-- b[:n] of an owned row. -/
theorem own_take {w : World} {e s n m : Nat} {a : Option Addr} {c : Nat} {xs : List Value} (h : w.ownsRow 0 e s (.slice a n c) n xs) (hm : m ≤ n) : w.ownsRow 0 e s (.slice a m c) m (xs.take (m * s)) := by
  obtain ⟨h1, h2⟩ := h
  refine ⟨by rw [List.length_take]; have := Nat.mul_le_mul_right s hm; omega, ?_⟩
  rcases h2 with ⟨hv, hx⟩ | ⟨g, cap, cur, hv, hb, hg, hn, hc, hs, ht⟩
  · injection hv with e1 e2 e3
    subst e1 e3
    left
    subst hx
    obtain rfl : m = 0 := by omega
    exact ⟨rfl, by simp⟩
  · injection hv with e1 e2 e3
    subst e1 e3
    right
    exact ⟨g, c, cur, rfl, hb, hg, by omega, hc, hs, by rw [← ht, List.take_take]; congr 1; have := Nat.mul_le_mul_right s hm; omega⟩
end Go.Proofs.YteoggphafhcchaaGreat
