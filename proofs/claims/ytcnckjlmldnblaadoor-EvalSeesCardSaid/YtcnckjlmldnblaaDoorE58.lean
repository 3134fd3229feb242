import Derived.Test.YtcnckjlmldnblaaDoorE57
import Derived.Test.YtcnckjlmldnblaaDoorE54
import Derived.BigGuardPart
namespace Go.Proofs.YtcnckjlmldnblaaDoor
open Go Go.RowKit
set_option linter.unusedVariables false
set_option linter.unusedSimpArgs false
/-- A name's value, if it is among the names; else another one. -/
def onlyB (A : List ByteArray) (b : Bc) : Bc := if inSS A b.nm then b else ⟨b.nm, ⟨⟨9, 0, ByteArray.empty, []⟩, none, 0, 0⟩⟩
/-- What stands while the law's only goes on: a box of five, three rows. -/
structure OnW (w2 W : World) (G : Nat) (l1 : List Bc) (l2 l3 : List ByteArray) (v1 v2 v3 : Value) (ck st : Int) : Prop where
  g : W.heap[G]? = some (.cells #[v1, v2, v3, .int .i64 ck, .int .i64 st] 35 (0, 0))
  a : W.ownsRow G 43 5 v1 l1.length (l1.flatMap Bc.cs)
  b : W.ownsRow G 9 1 v2 l2.length (l2.flatMap Sv)
  c : W.ownsRow G 9 1 v3 l3.length (l3.flatMap Sv)
  d23 : Dis v2 v3
  d32 : Dis v3 v2
  bl : Below G w2 W
variable {w2 W W' : World} {G : Nat} {l1 : List Bc} {l2 l3 : List ByteArray} {v1 v2 v3 : Value} {ck st : Int}
theorem OnW.below (h : OnW w2 W G l1 l2 l3 v1 v2 v3 ck st) (hb : Below W.heap.size W W') : OnW w2 W' G l1 l2 l3 v1 v2 v3 ck st :=
  have hG := (Array.getElem?_eq_some_iff.1 h.g).1
  ⟨(hb.block _ hG).trans h.g, own_below h.a hb, own_below h.b hb, own_below h.c hb, h.d23, h.d32, h.bl.trans (hb.mono (by omega))⟩
theorem OnW.box1 (h : OnW w2 W G l1 l2 l3 v1 v2 v3 ck st) {o : Obj} (hg : (W.drew.alloc o).grownBy W' v1.ownBlock) : W'.heap[G]? = some (.cells #[v1, v2, v3, .int .i64 ck, .int .i64 st] 35 (0, 0)) := by
  have hG := (Array.getElem?_eq_some_iff.1 h.g).1
  exact (hg.block G (by simp; omega) (own_ne h.a h.g (by decide)).symm).trans ((Below.heap_alloc W.drew _ G (by simpa using hG)).trans h.g)
theorem OnW.box2 (h : OnW w2 W G l1 l2 l3 v1 v2 v3 ck st) {o : Obj} (hg : (W.drew.alloc o).grownBy W' v2.ownBlock) : W'.heap[G]? = some (.cells #[v1, v2, v3, .int .i64 ck, .int .i64 st] 35 (0, 0)) := by
  have hG := (Array.getElem?_eq_some_iff.1 h.g).1
  exact (hg.block G (by simp; omega) (own_ne h.b h.g (by decide)).symm).trans ((Below.heap_alloc W.drew _ G (by simpa using hG)).trans h.g)
theorem OnW.box3 (h : OnW w2 W G l1 l2 l3 v1 v2 v3 ck st) {o : Obj} (hg : (W.drew.alloc o).grownBy W' v3.ownBlock) : W'.heap[G]? = some (.cells #[v1, v2, v3, .int .i64 ck, .int .i64 st] 35 (0, 0)) := by
  have hG := (Array.getElem?_eq_some_iff.1 h.g).1
  exact (hg.block G (by simp; omega) (own_ne h.c h.g (by decide)).symm).trans ((Below.heap_alloc W.drew _ G (by simpa using hG)).trans h.g)
theorem OnW.add1 (h : OnW w2 W G l1 l2 l3 v1 v2 v3 ck st) {x : Bc} {o : Obj} {v' : Value} (ho : W'.ownsRow G 43 5 v' (l1.length + 1) (l1.flatMap Bc.cs ++ Bc.cs x)) (hg : (W.drew.alloc o).grownBy W' v1.ownBlock) :
    OnW w2 (W'.setCell ⟨G, 0, none⟩ v') G (l1 ++ [x]) l2 l3 v' v2 v3 ck st := by
  have hG := (Array.getElem?_eq_some_iff.1 h.g).1
  have hb : Below W.heap.size W (W.drew.alloc o) := ((Below.refl _ _).drew).alloc (Nat.le_refl _) _
  have hh := h.box1 hg
  refine ⟨heap_setCell_same W' G 0 _ _ _ hh, ?_, ?_, ?_, h.d23, h.d32, ?_⟩
  · rw [List.length_append, List.flatMap_append]
    exact ownsRow_setCell_other (by simpa using ho) (own_ne ho hh (by decide)) _
  · have hb2 := own_grown (own_below h.b hb) (own_below h.a hb) (by decide) hg
    exact ownsRow_setCell_other hb2 (own_ne hb2 hh (by decide)) _
  · have hb2 := own_grown (own_below h.c hb) (own_below h.a hb) (by decide) hg
    exact ownsRow_setCell_other hb2 (own_ne hb2 hh (by decide)) _
  · exact ((h.bl.trans (hb.mono (by omega))).grown hg (by simp; omega) (fun q hq => (h.a.lt q hq).1)).setCell (p := ⟨G, 0, none⟩) (Nat.le_refl _) _
theorem dis_fresh {v u v' : Value} {l : List ByteArray} {o : Obj} (ho' : W.ownsRow G 9 1 v l.length (l.flatMap Sv)) (hd : Dis v u) (hat : v'.ownBlock = u.ownBlock ∨ v'.ownBlock = some (W.drew.alloc o).heap.size) : Dis v v' ∧ Dis v' v := by
  have hlt : ∀ g, v.ownBlock = some g → g < W.heap.size := fun g e => (ho'.lt g e).2
  unfold Dis at *
  rcases hat with e | e
  · rw [e]
    refine ⟨hd, ?_⟩
    rcases hd with k | k
    · cases hv : u.ownBlock with
      | none => exact .inl rfl
      | some g => right; rw [k]; simp
    · exact .inr (Ne.symm k)
  · rw [e]
    refine ⟨?_, .inr ?_⟩
    · cases hv : v.ownBlock with
      | none => exact .inl rfl
      | some g => right; have := hlt g hv; simp; omega
    · intro k
      have := hlt _ k.symm
      simp at this
      omega
theorem OnW.add2 (h : OnW w2 W G l1 l2 l3 v1 v2 v3 ck st) {x : ByteArray} {o : Obj} {v' : Value} (ho : W'.ownsRow G 9 1 v' (l2.length + 1) (l2.flatMap Sv ++ Sv x)) (hg : (W.drew.alloc o).grownBy W' v2.ownBlock) (hat : v'.ownBlock = v2.ownBlock ∨ v'.ownBlock = some (W.drew.alloc o).heap.size) :
    OnW w2 (W'.setCell ⟨G, 1, none⟩ v') G l1 (l2 ++ [x]) l3 v1 v' v3 ck st := by
  have hG := (Array.getElem?_eq_some_iff.1 h.g).1
  have hb : Below W.heap.size W (W.drew.alloc o) := ((Below.refl _ _).drew).alloc (Nat.le_refl _) _
  have hh := h.box2 hg
  obtain ⟨e1, e2⟩ := dis_fresh h.c h.d32 hat
  refine ⟨heap_setCell_same W' G 1 _ _ _ hh, ?_, ?_, ?_, e2, e1, ?_⟩
  · have hb2 := own_grown (own_below h.a hb) (own_below h.b hb) (by decide) hg
    exact ownsRow_setCell_other hb2 (own_ne hb2 hh (by decide)) _
  · rw [List.length_append, List.flatMap_append]
    exact ownsRow_setCell_other (by simpa using ho) (own_ne ho hh (by decide)) _
  · have hb2 := (own_below h.c hb).kept hg h.d32
    exact ownsRow_setCell_other hb2 (own_ne hb2 hh (by decide)) _
  · exact ((h.bl.trans (hb.mono (by omega))).grown hg (by simp; omega) (fun q hq => (h.b.lt q hq).1)).setCell (p := ⟨G, 1, none⟩) (Nat.le_refl _) _
theorem OnW.add3 (h : OnW w2 W G l1 l2 l3 v1 v2 v3 ck st) {x : ByteArray} {o : Obj} {v' : Value} (ho : W'.ownsRow G 9 1 v' (l3.length + 1) (l3.flatMap Sv ++ Sv x)) (hg : (W.drew.alloc o).grownBy W' v3.ownBlock) (hat : v'.ownBlock = v3.ownBlock ∨ v'.ownBlock = some (W.drew.alloc o).heap.size) :
    OnW w2 (W'.setCell ⟨G, 2, none⟩ v') G l1 l2 (l3 ++ [x]) v1 v2 v' ck st := by
  have hG := (Array.getElem?_eq_some_iff.1 h.g).1
  have hb : Below W.heap.size W (W.drew.alloc o) := ((Below.refl _ _).drew).alloc (Nat.le_refl _) _
  have hh := h.box3 hg
  obtain ⟨e1, e2⟩ := dis_fresh h.b h.d23 hat
  refine ⟨heap_setCell_same W' G 2 _ _ _ hh, ?_, ?_, ?_, e1, e2, ?_⟩
  · have hb2 := own_grown (own_below h.a hb) (own_below h.c hb) (by decide) hg
    exact ownsRow_setCell_other hb2 (own_ne hb2 hh (by decide)) _
  · have hb2 := (own_below h.b hb).kept hg h.d23
    exact ownsRow_setCell_other hb2 (own_ne hb2 hh (by decide)) _
  · rw [List.length_append, List.flatMap_append]
    exact ownsRow_setCell_other (by simpa using ho) (own_ne ho hh (by decide)) _
  · exact ((h.bl.trans (hb.mono (by omega))).grown hg (by simp; omega) (fun q hq => (h.c.lt q hq).1)).setCell (p := ⟨G, 2, none⟩) (Nat.le_refl _) _
end Go.Proofs.YtcnckjlmldnblaaDoor
