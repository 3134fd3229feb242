import Derived.Test.YteoggphafhcchaaGreatV3
namespace Go.Proofs.YteoggphafhcchaaGreat
open Go Go.RowKit Go.Shelf Go.Lib Go.Sort
set_option maxRecDepth 100000
set_option maxHeartbeats 1000000
set_option linter.unusedVariables false
set_option linter.unusedSimpArgs false
open Go.Maps Go.WideMaps
section
variable {α : Type} [Inhabited α]
theorem holds_blk (enc : α → Value) {w : World} {g : Nat} {cur : Array Value} {e : TypeId} {ss : List α} (hb : w.heap[g]? = some (.cells cur e (0, 0))) (ht : cur.toList.take ss.length = ss.map enc) : Holds enc w g 0 ss.toArray := by
  intro j hj
  have hj' : j < ss.length := by simpa using hj
  refine ⟨?_, by simp [World.frozen?, hb]⟩
  have h1 : (cur.toList.take ss.length)[j]? = (ss.map enc)[j]? := by rw [ht]
  rw [List.getElem?_take_of_lt hj'] at h1
  simp only [World.cell?, hb, Nat.zero_add]
  simp only [Option.isSome_none, Bool.false_eq_true, if_false]
  rw [← Array.getElem?_toList, h1]
  simp [hj']
theorem heap_srt (enc : α → Value) {w : World} {g n : Nat} {os : Array Obj} {cur : Array Value} {e : TypeId} {fr : Nat × Nat} (d : Array α) (hb : w.heap[g]? = some (.cells cur e fr)) :
    (sortWorld enc w g 0 n d os).heap[g]? = some (.cells (putCells enc 0 d cur) e fr) := by
  have hg : g < w.heap.size := (Array.getElem?_eq_some_iff.1 hb).1
  unfold sortWorld
  rw [heap_grow_old _ _ (by simpa [putRow, mapBlock, Sort.ahead] using hg)]
  simp [putRow, mapBlock, Sort.ahead, Array.getElem?_modify, hb, onCells]
theorem grownBy_srt (enc : α → Value) {w : World} {g n : Nat} {os : Array Obj} (d : Array α) : w.grownBy (sortWorld enc w g 0 n d os) (some g) := by
  refine ⟨rfl, rfl, rfl, by simp [sortWorld, putRow, mapBlock, Sort.ahead], fun k hk hne => ?_⟩
  exact sort_block enc w g 0 n d os k (fun e => hne (by rw [e])) hk
theorem take_put (enc : α → Value) (cur : Array Value) (ts : List α) (h : ts.length ≤ cur.size) : (putCells enc 0 ts.toArray cur).toList.take ts.length = ts.map enc := by
  apply List.ext_getElem?
  intro j
  by_cases hj : j < ts.length
  · rw [List.getElem?_take_of_lt hj, Array.getElem?_toList]
    simp [putCells, hj, show j < cur.size by omega]
  · rw [List.getElem?_take_eq_none (by omega), List.getElem?_eq_none (by simp; omega)]
theorem own_srt (enc : α → Value) {w : World} {base g cap n : Nat} {e : TypeId} {os : Array Obj} {cur : Array Value} {m : Nat} {ts : List α} (hl : ts.length = m) (hbase : base ≤ g) (hb : w.heap[g]? = some (.cells cur e (0, 0)))
    (h1 : m ≤ cap) (h2 : cap ≤ maxLen) (h3 : cur.size = cap * 1) :
    (sortWorld enc w g 0 n ts.toArray os).ownsRow base e 1 (.slice (some ⟨g, 0, none⟩) m cap) m (ts.map enc) :=
  ⟨by simp [hl], .inr ⟨g, cap, _, rfl, hbase, heap_srt enc _ hb, h1, h2, by simp [putCells, h3], by rw [Nat.mul_one, ← hl]; exact take_put enc cur ts (by omega)⟩⟩
end
theorem sort_ids (w : World) (fa : Nat → Nat) (N B : Nat) (hnum : ∀ i, i < N → w.cell? ⟨fa i, 0, none⟩ = some (.int .i64 ((i : Int) + 1))) (v : Value) (ids : List Nat) (hids : ∀ i ∈ ids, i < N) (hlen : ids.length < 4611686018427387904)
    (ho : w.ownsRow B 76 1 v ids.length (ids.map fun i => .pointer (some ⟨fa i, 0, none⟩))) (hB : ∀ i, i < N → fa i < B) :
    Calls Tryz.prog 58 #[v, .func (.func 59) #[] #[]] w fun e w' => e = .returned (.tuple #[]) ∧ w'.ownsRow B 76 1 v ids.length ((ids.mergeSort fun x y => decide (x ≤ y)).map fun i => .pointer (some ⟨fa i, 0, none⟩)) ∧ w.grownBy w' v.ownBlock := by
  by_cases h0 : ids = []
  · subst h0
    have key : ∀ p c, Calls Tryz.prog 58 #[.slice p 0 c, .func (.func 59) #[] #[]] w fun e w' => e = .returned (.tuple #[]) ∧ w' = w := fun p c => AnyF.slices_SortFunc_none (ρ := Tryz.sortf58_ren) { Tryz.sortf58 with } p c _ w
    have hw : w.grownBy w v.ownBlock := ⟨rfl, rfl, rfl, Nat.le_refl _, fun _ _ _ => rfl⟩
    obtain ⟨a, c, hv, -⟩ := owns_shape ho
    rw [List.length_nil] at hv
    subst hv
    refine (key a c).mono ?_
    rintro e w' ⟨he, rfl⟩
    exact ⟨he, by simpa using ho, hw⟩
  · have hpos : 0 < ids.length := List.length_pos_iff.2 h0
    have hN : 0 < N := by
      obtain ⟨x, hx⟩ := List.exists_mem_of_ne_nil ids h0
      have := hids x hx; omega
    have : Inhabited { i : Nat // i < N } := ⟨⟨0, hN⟩⟩
    rcases ho.2 with ⟨-, e⟩ | ⟨g, cap, cur, rfl, hb, hg, h1, h2, h3, h4⟩
    · omega
    obtain ⟨dl, hdl⟩ : ∃ dl : List { i : Nat // i < N }, dl.map (·.1) = ids := ⟨ids.pmap (fun i h => ⟨i, h⟩) hids, by simp [List.map_pmap]⟩
    have hdlen : dl.length = ids.length := by rw [← hdl]; simp
    have henc : ids.map (fun i => Value.pointer (some ⟨fa i, 0, none⟩)) = dl.map (ptrE fa N) := by rw [← hdl, List.map_map]; rfl
    rw [henc] at h4
    have hH : Holds (ptrE fa N) w g 0 dl.toArray := holds_blk (ptrE fa N) hg (by rw [hdlen]; simpa using h4)
    have hgl : g < w.heap.size := (Array.getElem?_eq_some_iff.1 hg).1
    have hcmp : CmpReads Tryz.prog 59 #[] (ptrE fa N) (numC N) g 0 dl.toArray.size w := fun m os dk hs x y => by
      have c1 := (sort_cell (ptrE fa N) w g 0 m dk os ⟨fa x.1, 0, none⟩ (by have := hB x.1 x.2; show fa x.1 ≠ g; omega) (World.block_lt_of_cell? w _ (hnum x.1 x.2))).trans (hnum x.1 x.2)
      have c2 := (sort_cell (ptrE fa N) w g 0 m dk os ⟨fa y.1, 0, none⟩ (by have := hB y.1 y.2; show fa y.1 ≠ g; omega) (World.block_lt_of_cell? w _ (hnum y.1 y.2))).trans (hnum y.1 y.2)
      exact bynum_any _ (fa x.1) (fa y.1) _ _ c1 c2
    have hT : ∀ x y : { i : Nat // i < N }, ltOf (numC N) x y = false → ltOf (numC N) y x = false → x = y := fun x y h1 h2 => by
      rw [num_lt] at h1 h2
      simp at h1 h2
      exact Subtype.ext (by omega)
    have hcon := Any.slices_SortFunc_total Tryz.sortf58 (ptrE fa N) (fun x => rfl) (numC N) (num_swo N) 59 #[] g 0 cap dl.toArray w (enters_of Tryz.func59 (by kernel_rfl) rfl) hcmp.lays hH hgl (by simp [hdlen]; omega) hT
    have hcon' : Calls Tryz.prog 58 #[.slice (some ⟨g, 0, none⟩) ids.length cap, .func (.func 59) #[] #[]] w fun e w' => e = .returned (.tuple #[]) ∧ ∃ n os, w' = sortWorld (ptrE fa N) w g 0 n (dl.mergeSort fun x y => !(ltOf (numC N)) y x).toArray os := by
      have e1 : dl.toArray.size = ids.length := by simp [hdlen]
      rw [e1] at hcon
      exact hcon
    refine hcon'.mono ?_
    rintro e w' ⟨he, n, os, rfl⟩
    have hms : (dl.mergeSort fun x y => !(ltOf (numC N)) y x).map (·.1) = ids.mergeSort fun x y => decide (x ≤ y) := by
      rw [← hdl]
      exact List.map_mergeSort (fun a _ b _ => by rw [num_lt]; by_cases h : b.1 < a.1 <;> simp [h] <;> omega)
    refine ⟨he, ?_, grownBy_srt _ _⟩
    have := own_srt (ptrE fa N) (n := n) (os := os) (m := ids.length) (ts := dl.mergeSort fun x y => !(ltOf (numC N)) y x) (by rw [List.length_mergeSort, hdlen]) hb hg h1 h2 h3
    rw [← hms, List.map_map]
    exact this
end Go.Proofs.YteoggphafhcchaaGreat
