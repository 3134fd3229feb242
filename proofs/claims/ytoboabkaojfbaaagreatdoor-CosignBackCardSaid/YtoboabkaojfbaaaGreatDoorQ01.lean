import Derived.Test.YtoboabkaojfbaaaGreatDoorChecked
import Derived.WalkKit
import Derived.RowKit
import Derived.Lib.Hide
import Derived.WalkSpells
import Derived.BigQuiet
import Derived.Deep.QuietTactic
import Derived.Deep.DeepCutAuto
import Derived.Deep.CutBlock
import Derived.Laws.Rows
import Derived.Deep.RegionLaw
import Derived.Deep.AppendLies
import Derived.StillTailTactics
import Derived.Maps.AppendAt
import Derived.OwnWalk
import Derived.Laws.CopyOwn
import Derived.SliceStrings
import Derived.Deep.Slices
import Derived.Laws.AppendOwnNone
import Derived.Lib.SlBytesRow
import Derived.RegionTactic
import Derived.ChangeAlike
import Derived.OpenShut
import Derived.OrdersHeld
import Derived.SizedLaws
import Derived.Deep.RegionHeld3
import Derived.BigGuardPart
import Derived.IntWalk
import Derived.Handy
import Derived.WalkLawsBesides
import Derived.Lib.SlBytesConst
namespace Go.Proofs.YtoboabkaojfbaaaGreatDoor
open Go Go.RowKit
set_option maxRecDepth 100000
set_option maxHeartbeats 4000000
set_option linter.unusedVariables false
set_option linter.unusedSimpArgs false
theorem below_drewN {B : Nat} {a w : World} (h : Below B a w) (n : Nat) : Below B a (w.drewN n) := h.trans ⟨rfl, rfl, rfl, Nat.le_refl _, fun _ _ => rfl⟩

/-- A slice of structs of s cells that can be read in w. -/
def RS {α : Type} (s : Nat) (enc : α → List Value) (w : World) (a : Option Addr) (len cap : Nat) (xs : List α) : Prop :=
  xs.length = len ∧ len ≤ cap ∧ len ≤ 281474976710656 ∧ ∀ i x, xs[i]? = some x → ∃ b off, a = some ⟨b, off, none⟩ ∧ ∀ j v, (enc x)[j]? = some v → w.cell? ⟨b, off + i * s + j, none⟩ = some v
theorem RS.below {α : Type} {s : Nat} {enc : α → List Value} {w w' : World} {a : Option Addr} {len cap : Nat} {xs : List α} (h : RS s enc w a len cap xs) (hb : Below w.heap.size w w') : RS s enc w' a len cap xs := by
  obtain ⟨h1, h2, h3, h4⟩ := h
  refine ⟨h1, h2, h3, fun i x hx => ?_⟩
  obtain ⟨b, off, e, hc⟩ := h4 i x hx
  exact ⟨b, off, e, fun j v hv => by rw [hb.cell (World.block_lt_of_cell? w _ (hc j v hv))]; exact hc j v hv⟩
theorem RS.cell {α : Type} {s : Nat} {enc : α → List Value} {w : World} {b off len cap : Nat} {xs : List α} (h : RS s enc w (some ⟨b, off, none⟩) len cap xs) (i : Nat) (x : α) (hx : xs[i]? = some x) (j : Nat) (v : Value) (hv : (enc x)[j]? = some v) :
    w.cell? ⟨b, off + i * s + j, none⟩ = some v := by
  obtain ⟨b', off', e, hc⟩ := h.2.2.2 i x hx
  obtain ⟨rfl, rfl⟩ : b = b' ∧ off = off' := by simpa using e
  exact hc j v hv
/-- A slice type with one-cell elements in the program's table. -/
structure Sl (P : Program) (t e : TypeId) (z : Value) (size bytes : Nat) : Prop where
  und : P.underlying t = some (.slice e)
  inf : (P.info? e).map (fun i => (i.zero, i.size, i.bytes)) = some (some z, size, bytes)
  zs : z.cells.size = size
  pos : 0 < size
theorem gwk {w1 w2 : World} (hb : Below w1.heap.size w1 w2) : w1.grownBy w2 none := ⟨hb.os, hb.tape, hb.output, hb.size, fun k hk _ => hb.block k hk⟩
theorem own_below {w w' : World} {B e s : Nat} {v : Value} {n : Nat} {xs : List Value} (h : w.ownsRow B e s v n xs) (hb : Below w.heap.size w w') : w'.ownsRow B e s v n xs := h.kept (gwk hb) (by cases v.ownBlock <;> simp)
theorem owns_shape {w : World} {base e size : Nat} {v : Value} {n : Nat} {xs : List Value} (h : w.ownsRow base e size v n xs) :
    ∃ a c, v = .slice a n c ∧ (0 < n → ∃ g, a = some ⟨g, 0, none⟩ ∧ base ≤ g ∧ g < w.heap.size) := by
  rcases h.2 with ⟨rfl, rfl⟩ | ⟨g, cap, cur, rfl, hb, hh, _⟩
  · exact ⟨none, 0, rfl, fun h => by omega⟩
  · exact ⟨_, _, rfl, fun _ => ⟨g, rfl, hb, (Array.getElem?_eq_some_iff.1 hh).1⟩⟩
theorem owns_mono {w : World} {B B' e size : Nat} {v : Value} {n : Nat} {xs : List Value} (h : w.ownsRow B e size v n xs) (hb : B' ≤ B) : w.ownsRow B' e size v n xs := by
  refine ⟨h.1, ?_⟩
  rcases h.2 with h | ⟨g, cap, cur, hv, hg, r⟩
  · exact .inl h
  · exact .inr ⟨g, cap, cur, hv, Nat.le_trans hb hg, r⟩
section
variable {P : Program} {w : World} {ops : Array Oper} {rest : List Oper} {o : Oper} {a : Act} {Q : Exit → Act → World → Prop}
/-- append(v, src...), v owned, src a slice whose cells are known. -/
theorem W_appendN {K : Act → World → Prop} (s x : Operand) (t : TypeId) (ho : o.op = .call { callee := .builtin .append, args := #[s, x], argTypes := #[t, t] })
    {e : TypeId} {z : Value} {size bytes : Nat} (T : Sl P t e z size bytes) (base : Nat) (v : Value) (n : Nat) (xs : List Value) (hs : a.eval s = v) (hown : w.ownsRow base e size v n xs)
    (ad : Addr) (m c : Nat) (l : List Value) (hx : a.eval x = .slice (some ad) m c) (hl : l.length = m * size) (hr : ∀ j u, l[j]? = some u → w.cell? (ad.add j) = some u) (h1 : ∀ u ∈ l, u.oneCell' = true) (hb : (n + m) * bytes ≤ 140737488355328) (hm : n + m ≤ maxLen) (hbase : base ≤ w.heap.size)
    (h : ∀ a' c' w', w'.ownsRow base e size (.slice a' (n + m) c') (n + m) (xs ++ l) → w.grownBy w' v.ownBlock → ((Value.slice a' (n + m) c').ownBlock = v.ownBlock ∨ (Value.slice a' (n + m) c').ownBlock = some w.heap.size) → K (a.put o.dst (.slice a' (n + m) c')) w') : o.wp P a w K Q := by
  obtain ⟨i, hi, hz0, hz1, hz2⟩ := info_parts T.inf
  obtain ⟨v', w', hr2, h2, h3, _, h5⟩ := run_append_own_at (P := P) w base t o.type e i z size bytes T.und hi hz0 hz1 hz2 T.zs T.pos v n xs hown ad m c l hl hr h1 hm hb hbase
  unfold Oper.wp execOp
  simp only [ho, resolve, invoke, builtin, Sem.run_bind, Sem.run_pure, Result.andThen_ok, List.map_toArray, List.map_cons, List.map_nil, hs, hx, hr2]
  obtain ⟨a', c', rfl, _⟩ := owns_shape h2
  exact h a' c' w' h2 h3 h5
end
section
variable {P : Program} {w : World} {ops : Array Oper} {rest : List Oper} {o : Oper} {a : Act} {Q : Exit → Act → World → Prop}
theorem L_appendN (hgd : o.guard = none) (s x : Operand) (t : TypeId) (ho : o.op = .call { callee := .builtin .append, args := #[s, x], argTypes := #[t, t] })
    {e : TypeId} {z : Value} {size bytes : Nat} (T : Sl P t e z size bytes) (base : Nat) (v : Value) (n : Nat) (xs : List Value) (hs : a.eval s = v) (hown : w.ownsRow base e size v n xs)
    (ad : Addr) (m c : Nat) (l : List Value) (hx : a.eval x = .slice (some ad) m c) (hl : l.length = m * size) (hr : ∀ j u, l[j]? = some u → w.cell? (ad.add j) = some u) (h1 : ∀ u ∈ l, u.oneCell' = true) (hb : (n + m) * bytes ≤ 140737488355328) (hm : n + m ≤ maxLen) (hbase : base ≤ w.heap.size)
    (h : ∀ a' c' w', w'.ownsRow base e size (.slice a' (n + m) c') (n + m) (xs ++ l) → w.grownBy w' v.ownBlock → ((Value.slice a' (n + m) c').ownBlock = v.ownBlock ∨ (Value.slice a' (n + m) c').ownBlock = some w.heap.size) → wpList P ops Q rest (a.put o.dst (.slice a' (n + m) c')) w') : wpList P ops Q (o :: rest) a w :=
  wpList_plain hgd fun _ hK => W_appendN s x t ho T base v n xs hs hown ad m c l hx hl hr h1 hb hm hbase fun a' c' w' h2 h3 h4 => hK _ _ (h a' c' w' h2 h3 h4)
end
section
variable {P : Program} {w : World} {ops : Array Oper} {rest : List Oper} {o : Oper} {a : Act} {Q : Exit → Act → World → Prop}
theorem S_appendN {K : Act → World → Prop} {E : Prop} (hgd : o.guard = none) (s x : Operand) (t : TypeId) (ho : o.op = .call { callee := .builtin .append, args := #[s, x], argTypes := #[t, t] })
    {e : TypeId} {z : Value} {size bytes : Nat} (T : Sl P t e z size bytes) (base : Nat) (v : Value) (n : Nat) (xs : List Value) (hs : a.eval s = v) (hown : w.ownsRow base e size v n xs)
    (ad : Addr) (m c : Nat) (l : List Value) (hx : a.eval x = .slice (some ad) m c) (hl : l.length = m * size) (hr : ∀ j u, l[j]? = some u → w.cell? (ad.add j) = some u) (h1 : ∀ u ∈ l, u.oneCell' = true) (hb : (n + m) * bytes ≤ 140737488355328) (hm : n + m ≤ maxLen) (hbase : base ≤ w.heap.size)
    (h : ∀ a' c' w', w'.ownsRow base e size (.slice a' (n + m) c') (n + m) (xs ++ l) → w.grownBy w' v.ownBlock → ((Value.slice a' (n + m) c').ownBlock = v.ownBlock ∨ (Value.slice a' (n + m) c').ownBlock = some w.heap.size) → K (a.put o.dst (.slice a' (n + m) c')) w') :
    if Region.wanted o (yielded ops a.tmps) = true then Oper.wp P o a w K Q else E := by
  rw [if_pos (by simp [Region.wanted, hgd])]
  exact W_appendN s x t ho T base v n xs hs hown ad m c l hx hl hr h1 hb hm hbase h
end
theorem flat_len {α : Type} (enc : α → List Value) (s : Nat) (he : ∀ x, (enc x).length = s) (xs : List α) : (xs.flatMap enc).length = xs.length * s := by
  induction xs with
  | nil => simp
  | cons x t ih => simp [List.flatMap_cons, he, ih, Nat.add_mul]; omega
theorem flat_get {α : Type} (enc : α → List Value) (s : Nat) (he : ∀ x, (enc x).length = s) (xs : List α) : ∀ (i : Nat) (x : α), xs[i]? = some x → ∀ j v, (enc x)[j]? = some v → (xs.flatMap enc)[i * s + j]? = some v := by
  induction xs with
  | nil => intro i x h; simp at h
  | cons y t ih =>
    intro i x h j v hv
    have hj : j < s := by rw [← he x]; exact (List.getElem?_eq_some_iff.1 hv).1
    cases i with
    | zero =>
      simp at h
      subst h
      rw [List.flatMap_cons, Nat.zero_mul, Nat.zero_add, List.getElem?_append_left (by rw [he]; exact hj), hv]
    | succ i =>
      simp only [List.getElem?_cons_succ] at h
      rw [List.flatMap_cons, List.getElem?_append_right (by rw [he, Nat.add_mul]; omega), he, show (i + 1) * s + j - s = i * s + j by rw [Nat.add_mul]; omega]
      exact ih i x h j v hv
theorem RS.of_owns {α : Type} {s : Nat} {enc : α → List Value} {w : World} {base e : Nat} {a : Option Addr} {n c : Nat} {xs : List α} (h : w.ownsRow base e s (.slice a n c) n (xs.flatMap enc)) (hs : 0 < s) (he : ∀ x, (enc x).length = s) (hn : n ≤ 281474976710656) : RS s enc w a n c xs := by
  have hl : xs.length = n := by
    have := h.1
    rw [flat_len enc s he] at this
    exact Nat.eq_of_mul_eq_mul_right hs this
  rcases h.2 with ⟨hv, h0⟩ | ⟨g, cap, cur, hv, hg, hh, hnc, hcm, hcs, htk⟩
  · obtain ⟨rfl, rfl, rfl⟩ := Value.slice.inj hv
    refine ⟨hl, Nat.le_refl _, by omega, fun i x hx => ?_⟩
    have := (List.getElem?_eq_some_iff.1 hx).1
    omega
  · obtain ⟨rfl, -, rfl⟩ := Value.slice.inj hv
    refine ⟨hl, hnc, hn, fun i x hx => ⟨g, 0, rfl, fun j v hv => ?_⟩⟩
    have hi := (List.getElem?_eq_some_iff.1 hx).1
    have hj : j < s := by rw [← he x]; exact (List.getElem?_eq_some_iff.1 hv).1
    have h1 := flat_get enc s he xs i x hx j v hv
    have hlt : i * s + j < n * s := by
      have : (i + 1) * s ≤ n * s := Nat.mul_le_mul_right s (by omega)
      rw [Nat.add_mul] at this; omega
    rw [cell_of_row w g _ cur e (0, 0) hh, Nat.zero_add]
    rw [← htk, List.getElem?_take, if_pos hlt] at h1
    simpa using h1
theorem own_ne {w : World} {B e s n : Nat} {v : Value} {xs : List Value} (h : w.ownsRow B e s v n xs) {g : Nat} {cs : Array Value} {t : TypeId} {fz : Nat × Nat} (hg : w.heap[g]? = some (.cells cs t fz)) (hne : t ≠ e) : v.ownBlock ≠ some g := by
  rcases h.2 with ⟨rfl, _⟩ | ⟨g', cap, cur, rfl, _, hh, _⟩
  · simp [Value.ownBlock]
  · simp only [Value.ownBlock, ne_eq, Option.some.injEq]
    rintro rfl
    rw [hh] at hg
    simp at hg
    exact hne hg.2.1.symm
section
variable {P : Program} {w : World} {ops : Array Oper} {rest : List Oper} {o : Oper} {a : Act} {Q : Exit → Act → World → Prop}
end
end Go.Proofs.YtoboabkaojfbaaaGreatDoor
namespace Go.Proofs.YtoboabkaojfbaaaGreatDoor
open Go Go.RowKit
set_option maxRecDepth 100000
set_option maxHeartbeats 1000000
set_option linter.unusedVariables false
set_option linter.unusedSimpArgs false
/-- A slice of bytes that can be read in w: its elements are l. -/
def R8 (w : World) (a : Option Addr) (len cap : Nat) (l : List UInt8) : Prop :=
  l.length = len ∧ len ≤ cap ∧ len ≤ 281474976710656 ∧ ∀ i (h : i < l.length), ∃ b off, a = some ⟨b, off, none⟩ ∧ w.cell? ⟨b, off + i, none⟩ = some (.int .u8 (l[i].toNat : Int))

theorem R8.at {w : World} {a : Option Addr} {len cap : Nat} {l : List UInt8} (h : R8 w a len cap l) {i : Nat} (hi : i < len) :
    ∃ b off c, a = some ⟨b, off, none⟩ ∧ l[i]? = some c ∧ w.cell? ⟨b, off + i, none⟩ = some (.int .u8 (c.toNat : Int)) := by
  obtain ⟨h1, h2, h3, h4⟩ := h
  obtain ⟨b, off, e, hc⟩ := h4 i (by omega)
  exact ⟨b, off, l[i], e, by simp, hc⟩

def b8 (c : UInt8) : Value := .int .u8 (c.toNat : Int)
theorem b8_one (l : List UInt8) : ∀ u ∈ l.map b8, u.oneCell' = true := by
  intro u hu
  obtain ⟨_, _, rfl⟩ := List.mem_map.1 hu
  rfl
theorem R8.take {w : World} {a : Option Addr} {len cap : Nat} {l : List UInt8} (h : R8 w a len cap l) (n : Nat) (hn : n ≤ len) : R8 w a n cap (l.take n) := by
  obtain ⟨h1, h2, h3, h4⟩ := h
  refine ⟨by simp; omega, by omega, by omega, fun i hi => ?_⟩
  simp at hi
  obtain ⟨b, off, e, hc⟩ := h4 i (by omega)
  exact ⟨b, off, e, by simpa using hc⟩
theorem R8.nil (w : World) (c : Nat) : R8 w none 0 c [] := ⟨rfl, by omega, by omega, fun i hi => by simp at hi⟩
theorem R8.below {w w' : World} {a : Option Addr} {len cap : Nat} {l : List UInt8} (h : R8 w a len cap l) (hb : Below w.heap.size w w') : R8 w' a len cap l := by
  obtain ⟨h1, h2, h3, h4⟩ := h
  refine ⟨h1, h2, h3, fun i hi => ?_⟩
  obtain ⟨b, off, e, hc⟩ := h4 i hi
  exact ⟨b, off, e, by rw [hb.cell (World.block_lt_of_cell? w _ hc)]; exact hc⟩
theorem R8.belowB {B : Nat} {w0 w' : World} {a : Option Addr} {len cap : Nat} {l : List UInt8} (h : R8 w0 a len cap l) (hB : w0.heap.size ≤ B) (hb : Below B w0 w') : R8 w' a len cap l :=
  h.below (hb.mono hB)
theorem R8.cells {w : World} {a : Option Addr} {len cap : Nat} {l : List UInt8} (h : R8 w a len cap l) {ad : Addr} (ha : a = some ad) : ∀ j u, (l.map b8)[j]? = some u → w.cell? (ad.add j) = some u := by
  intro j u hu
  obtain ⟨h1, h2, h3, h4⟩ := h
  have hj : j < l.length := by
    have := (List.getElem?_eq_some_iff.1 hu).1
    simpa using this
  obtain ⟨b, off, e, hc⟩ := h4 j hj
  obtain rfl := Option.some.inj (ha.symm.trans e)
  simp [hj] at hu
  rw [Addr.add_lit, hc, ← hu]; rfl
theorem R8.of_owns {w : World} {base e : Nat} {a : Option Addr} {n c : Nat} {l : List UInt8} (h : w.ownsRow base e 1 (.slice a n c) n (l.map b8)) (hn : n ≤ 281474976710656) : R8 w a n c l := by
  obtain ⟨h1, h2⟩ := h
  simp at h1
  rcases h2 with ⟨h2, rfl⟩ | ⟨g, cap, cur, hv, hg, hh, hnc, hcm, hcs, ht⟩
  · obtain rfl : l = [] := List.eq_nil_of_length_eq_zero h1
    exact ⟨rfl, by omega, by omega, fun i hi => by simp at hi⟩
  · obtain ⟨rfl, -, rfl⟩ := Value.slice.inj hv
    refine ⟨h1, hnc, hn, fun i hi => ⟨g, 0, rfl, ?_⟩⟩
    rw [cell_of_row w g _ cur e (0, 0) hh]
    have hi2 : (cur.toList.take (n * 1))[i]? = (l.map b8)[i]? := by rw [ht]
    rw [List.getElem?_take, if_pos (by omega)] at hi2
    simp [hi] at hi2
    simpa [b8] using hi2

theorem R8.lit (w : World) (e : TypeId) (fr : Nat × Nat) (l : List UInt8) (n : Nat) (hn : l.length = n) (hs : n ≤ 281474976710656) (cs : Array Value) (hc : cs = (l.map b8).toArray) :
    R8 (w.alloc (.cells cs e fr)) (some ⟨w.heap.size, 0, none⟩) n n l := by
  refine ⟨hn, Nat.le_refl _, hs, fun i hi => ⟨w.heap.size, 0, rfl, ?_⟩⟩
  have hh : (w.alloc (.cells cs e fr)).heap[w.heap.size]? = some (.cells cs e fr) := heap_alloc_new w _
  rw [cell_of_row _ _ _ cs e fr hh, hc]
  simp [hi, b8]
/-- Where 'x[k:]' begins. -/
def dropA (a : Option Addr) (k cap : Nat) : Option Addr := if cap = k then a else a.map (·.add k)
theorem R8.dropA {w : World} {a : Option Addr} {len cap : Nat} {l : List UInt8} (h : R8 w a len cap l) (k : Nat) (hk : k ≤ len) : R8 w (dropA a k cap) (len - k) (cap - k) (l.drop k) := by
  obtain ⟨h1, h2, h3, h4⟩ := h
  refine ⟨by simp; omega, by omega, by omega, fun i hi => ?_⟩
  simp at hi
  obtain ⟨b, off, rfl, hc⟩ := h4 (k + i) (by omega)
  refine ⟨b, off + k, ?_, ?_⟩
  · rw [Go.Proofs.YtoboabkaojfbaaaGreatDoor.dropA, if_neg (by omega)]; simp [Addr.add_lit]
  · rw [Nat.add_assoc, hc]; simp
theorem R8.mid {w : World} {a : Option Addr} {len cap : Nat} {l : List UInt8} (h : R8 w a len cap l) (k e : Nat) (hk : k ≤ e) (he : e ≤ len) : R8 w (Go.Proofs.YtoboabkaojfbaaaGreatDoor.dropA a k cap) (e - k) (cap - k) ((l.drop k).take (e - k)) :=
  (h.dropA k (by omega)).take (e - k) (by omega)

section
variable {P : Program} {t e : TypeId} {z : Value} {bytes : Nat} (T : Sl P t e z 1 bytes) (w : World) (a : Option Addr) (len cap : Nat)
include T
theorem Sl.elem : P.underlying t = some (.slice (P.elem t)) ∧ (sizeOf (P.elem t)).run P w = .ok 1 w := by
  obtain ⟨i, hi, hz0, hz1, hz2⟩ := info_parts T.inf
  have he : P.elem t = e := by simp [Program.elem, T.und]
  rw [he]
  exact ⟨T.und, by simp [sizeOf, typeInfo, hi, hz1]⟩
theorem slice_from (k : Nat) (x : Int) (hx : x = (k : Int)) (hk : k ≤ len) : (Instr.slice t (.slice a len cap) (some (.int .i64 x)) none none).run P w = .ok (.slice (dropA a k cap) (len - k) (cap - k)) w := by
  subst hx
  obtain ⟨h1, h2⟩ := T.elem w
  rw [run_slice_l w t a len cap h1 .i64 k (by omega) (by omega), h2]
  simp [Result.andThen, sliced, dropA]
theorem slice_mid (k h : Nat) (x y : Int) (hx : x = (k : Int)) (hy : y = (h : Int)) (hk : k ≤ h) (hc : h ≤ cap) : (Instr.slice t (.slice a len cap) (some (.int .i64 x)) (some (.int .i64 y)) none).run P w = .ok (.slice (dropA a k cap) (h - k) (cap - k)) w := by
  subst hx hy
  obtain ⟨h1, h2⟩ := T.elem w
  rw [run_slice_lh w t a len cap h1 .i64 .i64 k h (by omega) (by omega) (by omega), h2]
  simp [Result.andThen, sliced, dropA]
end

section
variable {P : Program} {w : World} {ops : Array Oper} {rest : List Oper} {o : Oper} {a : Act} {Q : Exit → Act → World → Prop}
/-- append(v, src...), v owned, src a slice of bytes that can be read. -/
theorem W_append8 {K : Act → World → Prop} (s x : Operand) (t : TypeId) (ho : o.op = .call { callee := .builtin .append, args := #[s, x], argTypes := #[t, t] })
    {e : TypeId} {z : Value} {bytes : Nat} (T : Sl P t e z 1 bytes) (base : Nat) (v : Value) (n : Nat) (xs : List Value) (hs : a.eval s = v) (hown : w.ownsRow base e 1 v n xs)
    (sa : Option Addr) (m c : Nat) (l : List UInt8) (hx : a.eval x = .slice sa m c) (hr : R8 w sa m c l) (hb : (n + m) * bytes ≤ 140737488355328) (hm : n + m ≤ maxLen) (hbase : base ≤ w.heap.size)
    (h : ∀ a' c' w', w'.ownsRow base e 1 (.slice a' (n + m) c') (n + m) (xs ++ l.map b8) → w.grownBy w' v.ownBlock → ((Value.slice a' (n + m) c').ownBlock = v.ownBlock ∨ (Value.slice a' (n + m) c').ownBlock = some w.heap.size) → K (a.put o.dst (.slice a' (n + m) c')) w') : o.wp P a w K Q := by
  obtain ⟨i, hi, hz0, hz1, hz2⟩ := info_parts T.inf
  cases sa with
  | some ad =>
    obtain ⟨v', w', hr2, h2, h3, _, h5⟩ := run_append_own_at (P := P) w base t o.type e i z 1 bytes T.und hi hz0 hz1 hz2 T.zs T.pos v n xs hown ad m c (l.map b8) (by simp [hr.1]) (hr.cells rfl) (b8_one l) hm hb hbase
    unfold Oper.wp execOp
    simp only [ho, resolve, invoke, builtin, Sem.run_bind, Sem.run_pure, Result.andThen_ok, List.map_toArray, List.map_cons, List.map_nil, hs, hx, hr2]
    obtain ⟨a', c', rfl, _⟩ := owns_shape h2
    exact h a' c' w' h2 h3 h5
  | none =>
    have hl : l = [] := by
      apply List.eq_nil_of_length_eq_zero
      rcases Nat.eq_zero_or_pos l.length with h0 | h0
      · exact h0
      · obtain ⟨b, off, e, _⟩ := hr.2.2.2 0 h0
        cases e
    subst hl
    have hm0 : m = 0 := hr.1.symm
    subst hm0
    subst hs
    obtain ⟨a', c', hv', _⟩ := owns_shape hown
    have hh := h a' c' w (by simpa [hv'] using hown) ⟨rfl, rfl, rfl, Nat.le_refl _, fun _ _ _ => rfl⟩ (.inl (by simp [hv']))
    simp only [Nat.add_zero, ← hv'] at hh
    rcases hown.2 with ⟨hv, rfl⟩ | ⟨g, cap, cur, hv, _, _, hnc, _⟩
    · rw [hv] at hh
      unfold Oper.wp
      simp [execOp, ho, resolve, invoke, builtin, hv, hx, Builtin.append_, run_underlying T.und, sizeOf, typeInfo, hi, Builtin.lenOf, Builtin.firstCells, Result.andThen]
      exact hh
    · rw [hv] at hh
      unfold Oper.wp
      simp [execOp, ho, resolve, invoke, builtin, hv, hx, Builtin.append_, run_underlying T.und, sizeOf, typeInfo, hi, Builtin.lenOf, Builtin.firstCells, Result.andThen, hnc, storeCells]
      exact hh
theorem L_append8 (hgd : o.guard = none) (s x : Operand) (t : TypeId) (ho : o.op = .call { callee := .builtin .append, args := #[s, x], argTypes := #[t, t] })
    {e : TypeId} {z : Value} {bytes : Nat} (T : Sl P t e z 1 bytes) (base : Nat) (v : Value) (n : Nat) (xs : List Value) (hs : a.eval s = v) (hown : w.ownsRow base e 1 v n xs)
    (sa : Option Addr) (m c : Nat) (l : List UInt8) (hx : a.eval x = .slice sa m c) (hr : R8 w sa m c l) (hb : (n + m) * bytes ≤ 140737488355328) (hm : n + m ≤ maxLen) (hbase : base ≤ w.heap.size)
    (h : ∀ a' c' w', w'.ownsRow base e 1 (.slice a' (n + m) c') (n + m) (xs ++ l.map b8) → w.grownBy w' v.ownBlock → ((Value.slice a' (n + m) c').ownBlock = v.ownBlock ∨ (Value.slice a' (n + m) c').ownBlock = some w.heap.size) → wpList P ops Q rest (a.put o.dst (.slice a' (n + m) c')) w') : wpList P ops Q (o :: rest) a w :=
  wpList_plain hgd fun _ hK => W_append8 s x t ho T base v n xs hs hown sa m c l hx hr hb hm hbase fun a' c' w' h2 h3 h4 => hK _ _ (h a' c' w' h2 h3 h4)
theorem S_append8 {K : Act → World → Prop} {E : Prop} (hgd : o.guard = none) (s x : Operand) (t : TypeId) (ho : o.op = .call { callee := .builtin .append, args := #[s, x], argTypes := #[t, t] })
    {e : TypeId} {z : Value} {bytes : Nat} (T : Sl P t e z 1 bytes) (base : Nat) (v : Value) (n : Nat) (xs : List Value) (hs : a.eval s = v) (hown : w.ownsRow base e 1 v n xs)
    (sa : Option Addr) (m c : Nat) (l : List UInt8) (hx : a.eval x = .slice sa m c) (hr : R8 w sa m c l) (hb : (n + m) * bytes ≤ 140737488355328) (hm : n + m ≤ maxLen) (hbase : base ≤ w.heap.size)
    (h : ∀ a' c' w', w'.ownsRow base e 1 (.slice a' (n + m) c') (n + m) (xs ++ l.map b8) → w.grownBy w' v.ownBlock → ((Value.slice a' (n + m) c').ownBlock = v.ownBlock ∨ (Value.slice a' (n + m) c').ownBlock = some w.heap.size) → K (a.put o.dst (.slice a' (n + m) c')) w') :
    if Region.wanted o (yielded ops a.tmps) = true then Oper.wp P o a w K Q else E := by
  rw [if_pos (by simp [Region.wanted, hgd])]
  exact W_append8 s x t ho T base v n xs hs hown sa m c l hx hr hb hm hbase h

/-- make([]T, n). -/
theorem L_make (hgd : o.guard = none) (l c : Operand) (t : TypeId) (ho : o.op = Op.makeSlice t l c) {e : TypeId} {z : Value} {size bytes : Nat} (T : Sl P t e z size bytes)
    (base : Nat) (kl kc : IntKind) (L : Int) (n : Nat) (hl : a.eval l = .int kl L) (hc : a.eval c = .int kc L) (hL : L = (n : Int)) (hb : bytes * n ≤ 281474976710656) (hn : n ≤ maxLen) (hbase : base ≤ w.heap.size)
    (h : ∀ w', w'.ownsRow base e size (.slice (some ⟨w.heap.size, 0, none⟩) n n) n (madeCells z.cells (n * size)).toList → w.grownBy w' none → wpList P ops Q rest (a.put o.dst (.slice (some ⟨w.heap.size, 0, none⟩) n n)) w') :
    wpList P ops Q (o :: rest) a w := by
  obtain ⟨i, hi, hz0, hz1, hz2⟩ := info_parts T.inf
  exact wpList_make_full w hgd l c t ho base e i z size T.und hi hz0 hz1 kl kc L L n hl hc hL hL (by rw [hz2]; exact hb) hn hbase h

end
end Go.Proofs.YtoboabkaojfbaaaGreatDoor
