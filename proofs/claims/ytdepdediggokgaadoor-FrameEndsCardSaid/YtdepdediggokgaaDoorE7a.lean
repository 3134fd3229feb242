import Derived.Test.YtdepdediggokgaaDoorE6
import Derived.Test.YtdepdediggokgaaDoorL4
import Derived.RangeFuncFrom
import Derived.LoopN
import Derived.Deep.DeepCutAuto
import Derived.Deep.CutBlock
import Derived.Laws.ResultCell
namespace Go.Proofs.YtdepdediggokgaaDoor
open Go.RowKit Go.Shelf
set_option linter.unusedVariables false
attribute [local go_sem] Oper.semAt_some
theorem roomy209 (w : World) (a : Option Addr) (n c : Nat) (l : List UInt8) (h : R8 w a n c l) (hn : n ≤ 140737488355328) :
    Calls Tryd.prog 10 #[.slice a n c, .int .u8 209] w fun e w' => ∃ g, e = .returned (.slice (some ⟨g, 0, none⟩) (n+80) (n+80)) ∧
      w'.ownsRow w.heap.size 5 1 (.slice (some ⟨g, 0, none⟩) (n+80) (n+80)) (n+80) ((l ++ List.replicate 80 209).map b8) ∧ Below w.heap.size w w' :=
  roomy_any w a n c l 209 h hn
theorem intact209 (w : World) (a1 a2 : Option Addr) (n1 n2 c1 c2 : Nat) (l : List UInt8) (h1 : R8 w a1 n1 c1 (l ++ List.replicate 80 209)) (h2 : R8 w a2 n2 c2 l) :
    Calls Tryd.prog 13 #[.slice a1 n1 c1, .slice a2 n2 c2, .int .u8 209] w fun e w' => e = .returned (.bool true) ∧ ∃ n, w' = w.drewN n :=
  intact_any w a1 a2 n1 n2 c1 c2 l 209 h1 h2

theorem eqf (wx : World) (bs : Array Value) : Sem.run Tryd.prog (binOp BinOp.eql 77 (Value.func (Fn.func 49) #[] bs) Value.nilFunc) wx = .ok (.bool false) wx := by kernel_rfl
/-- A variable in a block of its own. -/
def Bx (w : World) (b : Nat) (t : TypeId) (v : Value) : Prop := w.heap[b]? = some (Obj.cells #[v] t (0, 0))
theorem Bx.cell {w : World} {b : Nat} {t : TypeId} {v : Value} (h : Bx w b t v) : w.cell? ⟨b, 0, none⟩ = some v := cell_of_row w b 0 _ _ _ h
theorem Bx.frozen {w : World} {b : Nat} {t : TypeId} {v : Value} (h : Bx w b t v) : w.frozen? ⟨b, 0, none⟩ = false := frozen_of_row w b 0 _ _ h
theorem Bx.lt {w : World} {b : Nat} {t : TypeId} {v : Value} (h : Bx w b t v) : b < w.heap.size := (Array.getElem?_eq_some_iff.1 h).1
theorem Bx.below {w w' : World} {b B : Nat} {t : TypeId} {v : Value} (h : Bx w b t v) (hb : Below B w w') (hl : b < B) : Bx w' b t v := (hb.block b hl).trans h
theorem Bx.belowS {w w' : World} {b : Nat} {t : TypeId} {v : Value} (h : Bx w b t v) (hb : Below w.heap.size w w') : Bx w' b t v := h.below hb h.lt
theorem Bx.set {w : World} {b : Nat} {t : TypeId} {v : Value} (h : Bx w b t v) (u : Value) : Bx (w.setCell ⟨b, 0, none⟩ u) b t u := heap_setCell_same w b 0 _ _ u h
theorem Bx.other {w : World} {b b' o : Nat} {t : TypeId} {v u : Value} (h : Bx w b t v) (hne : b ≠ b') : Bx (w.setCell ⟨b', o, none⟩ u) b t v := (heap_setCell_other w ⟨b', o, none⟩ b u hne).trans h
theorem Bx.new (w : World) (t : TypeId) (v : Value) : Bx (w.alloc (.cells #[v] t)) w.heap.size t v := heap_alloc_new w _
theorem Bx.alloc {w : World} {b : Nat} {t : TypeId} {v : Value} (h : Bx w b t v) (o : Obj) : Bx (w.alloc o) b t v := (Below.heap_alloc w o b h.lt).trans h

theorem recOF_in (L : List UInt8) (f : Nat) (n : Int) (l : List UInt8) (at_ : Nat) (h : l = L.drop at_) (i : Nat) (p : Nat × Nat) (hp : (recOF f n l at_)[i]? = some p) : p.1 + 13 + p.2 ≤ L.length := by
  induction f generalizing n l at_ i with
  | zero => simp [recOF] at hp
  | succ f ih =>
    simp only [recOF] at hp
    split at hp
    · simp at hp
    · split at hp
      · rename_i h0 h1
        cases i with
        | zero =>
          simp at hp
          subst hp
          obtain ⟨-, -, h3, -, -⟩ := wholeI_le n l (wholeI n l).1 (by rw [← h1])
          rw [h] at h3
          simp at h3 ⊢
          rw [h] at h0
          simp at h0
          rw [h]
          omega
        | succ i =>
          simp only [List.getElem?_cons_succ] at hp
          exact ih _ _ _ (by rw [h, List.drop_drop]) i hp
      · simp at hp
theorem recOF_bd (f : Nat) (n : Int) (l : List UInt8) (at_ : Nat) : (recOF f n l at_).length = 0 ∨ (0 ≤ n ∧ n + (recOF f n l at_).length ≤ 1099511627776) := by
  induction f generalizing n l at_ with
  | zero => simp [recOF]
  | succ f ih =>
    simp only [recOF]
    split
    · simp
    · split
      · rename_i h0 h1
        obtain ⟨-, -, -, h3, h4⟩ := wholeI_le n l (wholeI n l).1 (by rw [← h1])
        right
        rcases ih (n + 1) (l.drop ((wholeI n l).1 + 13)) (at_ + ((wholeI n l).1 + 13)) with h | ⟨h5, h6⟩
        · simp only [List.length_cons]; omega
        · simp only [List.length_cons]; omega
      · simp
/-- Behind a range in block 4, whichever way it was left. -/
theorem wp_meet4 {P : Program} {c : Code} {Q' : Exit → Act → World → Prop} {a : Act} {w : World} (R : Nat → Nat → World → Prop)
    (h : c.wp P (fun e a' w' => (e = .normal ∨ e = .exit 4) ∧ ∃ D iv, a' = { a with defers := { target := .collected D, args := #[] } :: a.defers } ∧ R D iv w') a w)
    (hn : ∀ D iv w', R D iv w' → Q' .normal { a with defers := { target := .collected D, args := #[] } :: a.defers } w') : c.wp P (Exit.inBlock 4 Q') a w :=
  Code.wp_mono (by
    rintro e a' w' ⟨rfl | rfl, D, iv, rfl, hr⟩
    · exact hn D iv w' hr
    · simpa [Exit.inBlock] using hn D iv w' hr) h
/-- Between two rounds of the range. -/
def RowI (wr : World) (bk bi : Nat) (kk : Int) (no : Nat) (pre : List Nat) (W : World) : Prop :=
  (pre = List.range pre.length ∧ pre.length ≤ no) ∧ Boxed W bi 3 (.int .i64 (pre.length : Int)) ∧ Boxed W bk 3 (.int .i64 kk) ∧ Below wr.heap.size wr W
/-- Where a round has left. -/
def RowX (wr : World) (bk bi : Nat) (kk lv : Int) (no : Nat) (c : Code) (pre : List Nat) (W : World) : Prop :=
  (c = .ret ∧ ¬ pre <+: List.range no) ∨ (c = .exit 4 ∧ kk = 0 ∧ (pre.length : Int) = lv ∧ RowI wr bk bi kk no pre W)
theorem RowI.own (wr : World) (bk bi : Nat) (kk : Int) (no B : Nat) (hB : wr.heap.size ≤ B) : OwnFrom B (RowI wr bk bi kk no) :=
  OwnFrom.and (ownFrom_pure B _) (OwnFrom.and (Own.from (boxed_own bi 3 fun pre : List Nat => .int .i64 (pre.length : Int)) B) (OwnFrom.and (Own.from (boxed_own bk 3 fun _ => .int .i64 kk) B) (ownFrom_below (Nat.le_refl _) hB)))
theorem RowX.own (wr : World) (bk bi : Nat) (kk lv : Int) (no B : Nat) (hB : wr.heap.size ≤ B) (c : Code) : OwnFrom B (RowX wr bk bi kk lv no c) := fun s W W' row hs hg hr => by
  rcases hs with h | ⟨h1, h2, h3, h4⟩
  · exact .inl h
  · exact .inr ⟨h1, h2, h3, RowI.own wr bk bi kk no B hB s W W' row h4 hg hr⟩

/-- Where the third range has left. -/
def SeqR (w : World) (bR m : Nat) (X : List UInt8) (D D2 : Nat) (c : Code) (pre : List Nat) (W : World) : Prop :=
  c = .ret ∧ pre ≠ [] ∧ Boxed W bR 4 (.bool (decide (0 < m) && X.getD 0 0 == 209)) ∧ Below w.heap.size w W ∧ W.heap[D]? = some (Obj.deferred (some [])) ∧ W.heap[D2]? = some (Obj.deferred (some []))
theorem ownFrom_block {β : Type} (B D : Nat) (h : D < B) (o : Obj) : OwnFrom B (fun (_ : β) W => W.heap[D]? = some o) := fun s W W' row hs hg hr =>
  (hg.block D (Array.getElem?_eq_some_iff.1 hs).1 (fun e => by have := (hr _ e.symm).1; omega)).trans hs
theorem SeqR.own (w : World) (bR m : Nat) (X : List UInt8) (D D2 B : Nat) (hB : w.heap.size ≤ B) (hD : D < B) (hD2 : D2 < B) (c : Code) : OwnFrom B (SeqR w bR m X D D2 c) :=
  OwnFrom.and (ownFrom_pure B _) (OwnFrom.and (ownFrom_pure B _) (OwnFrom.and (Own.from (boxed_own bR 4 fun _ : List Nat => .bool (decide (0 < m) && X.getD 0 0 == 209)) B) (OwnFrom.and (ownFrom_below (Nat.le_refl _) hB) (OwnFrom.and (ownFrom_block B D hD _) (ownFrom_block B D2 hD2 _)))))
theorem leave3 (W w : World) (tmps : Array Value) (bR D D2 D3 : Nat) (ht : tmps.getD 8 undef = .pointer (some ⟨bR, 0, none⟩)) (hx : Boxed W bR 4 (.bool true)) (h3 : W.heap[D3]? = some (Obj.deferred (some [])))
    (h2 : W.heap[D2]? = some (Obj.deferred (some []))) (h1 : W.heap[D]? = some (Obj.deferred (some []))) (n12 : D < D2) (n23 : D2 < D3) (hb : Below w.heap.size w W) (hD : w.heap.size ≤ D) :
    bodyPostM Fence.wide 4 Tryd.prog Tryd.f28 (fun e w' => e = .returned (.bool true) ∧ Below w.heap.size w w') Exit.ret { tmps := tmps, defers := [{ target := .collected D3, args := #[] }, { target := .collected D2, args := #[] }, { target := .collected D, args := #[] }] } W := by
  have h2' : (W.putObj D3 (.deferred none)).heap[D2]? = some (Obj.deferred (some [])) := (World.putObj_heap_other (by omega)).trans h2
  have h1' : ((W.putObj D3 (.deferred none)).putObj D2 (.deferred none)).heap[D]? = some (Obj.deferred (some [])) := (World.putObj_heap_other (by omega)).trans ((World.putObj_heap_other (by omega)).trans h1)
  refine ⟨by simp, .inl ⟨_, _, rfl, run_takeDeferred h3, ?_⟩⟩
  refine ⟨by simp, .inl ⟨_, _, rfl, run_takeDeferred h2', ?_⟩⟩
  refine ⟨by simp, .inl ⟨_, _, rfl, run_takeDeferred h1', ?_⟩⟩
  have hbb : ∀ k, k < w.heap.size → (((W.putObj D3 (.deferred none)).putObj D2 (.deferred none)).putObj D (.deferred none)).heap[k]? = w.heap[k]? := fun k hk =>
    (World.putObj_heap_other (by omega)).trans ((World.putObj_heap_other (by omega)).trans ((World.putObj_heap_other (by omega)).trans (hb.block k hk)))
  have hne : bR ≠ D ∧ bR ≠ D2 ∧ bR ≠ D3 := ⟨(fun e => by subst e; rw [Boxed, h1] at hx; cases hx), (fun e => by subst e; rw [Boxed, h2] at hx; cases hx), (fun e => by subst e; rw [Boxed, h3] at hx; cases hx)⟩
  have hxx : Boxed (((W.putObj D3 (.deferred none)).putObj D2 (.deferred none)).putObj D (.deferred none)) bR 4 (.bool true) :=
    (World.putObj_heap_other hne.1).trans ((World.putObj_heap_other hne.2.1).trans ((World.putObj_heap_other hne.2.2).trans hx))
  have hB := belowK_b (n₀ := w.heap.size) (w := w) (Nat.le_refl _)
  have hB3 : Below w.heap.size w (((W.putObj D3 (.deferred none)).putObj D2 (.deferred none)).putObj D (.deferred none)) :=
    ((hb.trans (hB _ D3 _ _ (by omega) h3 rfl rfl)).trans (hB _ D2 _ _ (by omega) h2' rfl rfl)).trans (hB _ D _ _ hD h1' rfl rfl)
  have hc := hxx.cell
  refine ⟨.bool true, ?_, rfl, hB3⟩
  simp only [results, Tryd.f28]
  have ht' : tmps[8]?.getD undef = .pointer (some ⟨bR, 0, none⟩) := by simpa using ht
  simp [Sem.run_bind, Result.andThen, ht', go_sem, hc]

theorem recOF_first (f : Nat) (n : Int) (l : List UInt8) (at_ : Nat) (h : 0 < (recOF f n l at_).length) : 0 < l.length ∧ l.getD 0 0 = 209 := by
  cases f with
  | zero => simp [recOF] at h
  | succ f =>
    simp only [recOF] at h
    split at h
    · simp at h
    · split at h
      · rename_i h0 h1
        refine ⟨by omega, ?_⟩
        unfold wholeI at h1
        split at h1
        · simp at h1
        · unfold wholeF at h1
          by_cases hb : l.getD 0 0 = 209
          · exact hb
          · exfalso; rw [if_neg h0, if_pos (.inl hb)] at h1; simp at h1
      · simp at h
theorem take_first (X : List UInt8) (m : Nat) (h : 0 < (X.take m).length) : 0 < m ∧ (X.take m).getD 0 0 = X.getD 0 0 := by
  simp at h
  refine ⟨by omega, ?_⟩
  simp [List.getD]
  rw [List.getElem?_take_of_lt (by omega)]
theorem third_true (X : List UInt8) (m : Nat) (N : Int) (f : Nat) (os2 : List (Nat × Nat)) (h : recOF f N (X.take m) 0 = os2) (pre : List Nat) (hp : pre ≠ []) (hs : pre <+: List.range os2.length) :
    (decide (0 < m) && X.getD 0 0 == 209) = true := by
  have hl : 0 < os2.length := by
    have := hs.length_le
    simp at this
    have : 0 < pre.length := List.length_pos_iff.2 hp
    omega
  obtain ⟨h1, h2⟩ := recOF_first f N (X.take m) 0 (by rw [h]; exact hl)
  obtain ⟨h3, h4⟩ := take_first X m h1
  rw [h4] at h2
  rw [h2, decide_eq_true h3]; rfl
end Go.Proofs.YtdepdediggokgaaDoor
