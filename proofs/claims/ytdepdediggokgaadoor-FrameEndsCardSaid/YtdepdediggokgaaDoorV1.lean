/-
  Rows of one-cell values, over any program: read, appended to. No statement is proved here.
-/
import Derived.Test.YtdepdediggokgaaDoorBase
namespace Go.Proofs.YtdepdediggokgaaDoor
open Go Go.RowKit

/-- A slice of one-cell elements that can be read in w: its elements are vs. -/
def RV (w : World) (a : Option Addr) (len cap : Nat) (vs : List Value) : Prop :=
  vs.length = len ∧ len ≤ cap ∧ len ≤ 281474976710656 ∧ ∀ i (h : i < vs.length), ∃ b off, a = some ⟨b, off, none⟩ ∧ w.cell? ⟨b, off + i, none⟩ = some vs[i]
theorem R8.rv {w : World} {a : Option Addr} {len cap : Nat} {l : List UInt8} (h : R8 w a len cap l) : RV w a len cap (l.map b8) := by
  obtain ⟨h1, h2, h3, h4⟩ := h
  refine ⟨by simpa using h1, h2, h3, fun i hi => ?_⟩
  simp at hi
  obtain ⟨b, off, e, hc⟩ := h4 i hi
  exact ⟨b, off, e, by rw [hc]; simp [b8]⟩
theorem RV.at {w : World} {a : Option Addr} {len cap : Nat} {vs : List Value} (h : RV w a len cap vs) {i : Nat} (hi : i < len) :
    ∃ b off v, a = some ⟨b, off, none⟩ ∧ vs[i]? = some v ∧ w.cell? ⟨b, off + i, none⟩ = some v := by
  obtain ⟨h1, h2, h3, h4⟩ := h
  obtain ⟨b, off, e, hc⟩ := h4 i (by omega)
  exact ⟨b, off, vs[i], e, by simp, hc⟩
theorem RV.drewN {w : World} {a : Option Addr} {len cap : Nat} {vs : List Value} (h : RV w a len cap vs) (n : Nat) : RV (w.drewN n) a len cap vs := h
theorem RV.nil (w : World) (c : Nat) : RV w none 0 c [] := ⟨rfl, by omega, by omega, fun i hi => by simp at hi⟩
theorem RV.of_none {w : World} {n c : Nat} {vs : List Value} (h : RV w none n c vs) : vs = [] ∧ n = 0 := by
  have hl : vs = [] := by
    cases vs with
    | nil => rfl
    | cons x l => obtain ⟨b, off, e, _⟩ := h.2.2.2 0 (by simp); cases e
  exact ⟨hl, by rw [← h.1, hl]; rfl⟩
theorem RV.below {w w' : World} {a : Option Addr} {len cap : Nat} {vs : List Value} (h : RV w a len cap vs) (hb : Below w.heap.size w w') : RV w' a len cap vs := by
  obtain ⟨h1, h2, h3, h4⟩ := h
  refine ⟨h1, h2, h3, fun i hi => ?_⟩
  obtain ⟨b, off, e, hc⟩ := h4 i hi
  exact ⟨b, off, e, by rw [hb.cell (World.block_lt_of_cell? w _ hc)]; exact hc⟩
theorem RV.take {w : World} {a : Option Addr} {len cap : Nat} {vs : List Value} (h : RV w a len cap vs) (n : Nat) (hn : n ≤ len) : RV w a n cap (vs.take n) := by
  obtain ⟨h1, h2, h3, h4⟩ := h
  refine ⟨by simp; omega, by omega, by omega, fun i hi => ?_⟩
  simp at hi
  obtain ⟨b, off, e, hc⟩ := h4 i (by omega)
  exact ⟨b, off, e, by simpa using hc⟩
theorem RV.dropA {w : World} {a : Option Addr} {len cap : Nat} {vs : List Value} (h : RV w a len cap vs) (k : Nat) (hk : k ≤ len) : RV w (dropA a k cap) (len - k) (cap - k) (vs.drop k) := by
  obtain ⟨h1, h2, h3, h4⟩ := h
  refine ⟨by simp; omega, by omega, by omega, fun i hi => ?_⟩
  simp at hi
  obtain ⟨b, off, rfl, hc⟩ := h4 (k + i) (by omega)
  refine ⟨b, off + k, ?_, ?_⟩
  · rw [Go.Proofs.YtdepdediggokgaaDoor.dropA, if_neg (by omega)]; simp [Addr.add_lit]
  · rw [Nat.add_assoc, hc]; simp
theorem RV.cells {w : World} {a : Option Addr} {len cap : Nat} {vs : List Value} (h : RV w a len cap vs) {ad : Addr} (ha : a = some ad) : ∀ j u, vs[j]? = some u → w.cell? (ad.add j) = some u := by
  intro j u hu
  obtain ⟨h1, h2, h3, h4⟩ := h
  have hj : j < vs.length := (List.getElem?_eq_some_iff.1 hu).1
  obtain ⟨b, off, e, hc⟩ := h4 j hj
  obtain rfl := Option.some.inj (ha.symm.trans e)
  simp [hj] at hu
  rw [Addr.add_lit, hc, hu]
theorem RV.of_owns {w : World} {base e : Nat} {a : Option Addr} {n c : Nat} {vs : List Value} (h : w.ownsRow base e 1 (.slice a n c) n vs) (hn : n ≤ 281474976710656) : RV w a n c vs := by
  obtain ⟨h1, h2⟩ := h
  simp at h1
  rcases h2 with ⟨h2, rfl⟩ | ⟨g, cap, cur, hv, hg, hh, hnc, hcm, hcs, ht⟩
  · obtain rfl : vs = [] := List.eq_nil_of_length_eq_zero h1
    exact ⟨rfl, by omega, by omega, fun i hi => by simp at hi⟩
  · obtain ⟨rfl, -, rfl⟩ := Value.slice.inj hv
    refine ⟨h1, hnc, hn, fun i hi => ⟨g, 0, rfl, ?_⟩⟩
    rw [cell_of_row w g _ cur e (0, 0) hh]
    have hi2 : (cur.toList.take (n * 1))[i]? = vs[i]? := by rw [ht]
    rw [List.getElem?_take, if_pos (by omega)] at hi2
    simpa [hi] using hi2
theorem RV.lit (w : World) (e : TypeId) (fr : Nat × Nat) (vs : List Value) (n : Nat) (hn : vs.length = n) (hs : n ≤ 281474976710656) (cs : Array Value) (hc : cs = vs.toArray) :
    RV (w.alloc (.cells cs e fr)) (some ⟨w.heap.size, 0, none⟩) n n vs := by
  refine ⟨hn, Nat.le_refl _, hs, fun i hi => ⟨w.heap.size, 0, rfl, ?_⟩⟩
  have hh : (w.alloc (.cells cs e fr)).heap[w.heap.size]? = some (.cells cs e fr) := heap_alloc_new w _
  rw [cell_of_row _ _ _ cs e fr hh, hc]
  simp [hi]
theorem owns_lit (w : World) (B e : Nat) (vs : List Value) (n : Nat) (hn : vs.length = n) (hm : n ≤ maxLen) (hB : B ≤ w.heap.size) (cs : Array Value) (hc : cs = vs.toArray) :
    (w.alloc (.cells cs e)).ownsRow B e 1 (.slice (some ⟨w.heap.size, 0, none⟩) n n) n vs := by
  have := World.ownsRow_lit (base := B) (e := e) (size := 1) w cs n hB hm (by rw [hc]; simpa using hn)
  rwa [hc, List.toList_toArray, ← hc] at this

section
variable {P : Program} {w : World} {ops : Array Oper} {rest : List Oper} {o : Oper} {a : Act} {Q : Exit → Act → World → Prop}
/-- append(v, src...), v owned, src a slice of one-cell values that can be read. -/
theorem W_appendV {K : Act → World → Prop} (s x : Operand) (t : TypeId) (ho : o.op = .call { callee := .builtin .append, args := #[s, x], argTypes := #[t, t] })
    {e : TypeId} {z : Value} {bytes : Nat} (T : Sl P t e z 1 bytes) (base : Nat) (v : Value) (n : Nat) (xs : List Value) (hs : a.eval s = v) (hown : w.ownsRow base e 1 v n xs)
    (sa : Option Addr) (m c : Nat) (l : List Value) (hx : a.eval x = .slice sa m c) (hr : RV w sa m c l) (h1 : ∀ u ∈ l, u.oneCell' = true) (hb : (n + m) * bytes ≤ 140737488355328) (hm : n + m ≤ maxLen) (hbase : base ≤ w.heap.size)
    (h : ∀ a' c' w', w'.ownsRow base e 1 (.slice a' (n + m) c') (n + m) (xs ++ l) → w.grownBy w' v.ownBlock → ((Value.slice a' (n + m) c').ownBlock = v.ownBlock ∨ (Value.slice a' (n + m) c').ownBlock = some w.heap.size) → K (a.put o.dst (.slice a' (n + m) c')) w') : o.wp P a w K Q := by
  obtain ⟨i, hi, hz0, hz1, hz2⟩ := info_parts T.inf
  cases sa with
  | some ad =>
    obtain ⟨v', w', hr2, h2, h3, _, h5⟩ := run_append_own_at (P := P) w base t o.type e i z 1 bytes T.und hi hz0 hz1 hz2 T.zs T.pos v n xs hown ad m c l (by simp [hr.1]) (hr.cells rfl) h1 hm hb hbase
    unfold Oper.wp execOp
    simp only [ho, resolve, invoke, builtin, Sem.run_bind, Sem.run_pure, Result.andThen_ok, List.map_toArray, List.map_cons, List.map_nil, hs, hx, hr2]
    obtain ⟨a', c', rfl, _⟩ := owns_shape h2
    exact h a' c' w' h2 h3 h5
  | none =>
    obtain ⟨rfl, rfl⟩ := hr.of_none
    subst hs
    obtain ⟨a', c', hv', _⟩ := owns_shape hown
    have hh := h a' c' w (by simpa [hv'] using hown) ⟨rfl, rfl, rfl, Nat.le_refl _, fun _ _ _ => rfl⟩ (.inl (by simp [hv']))
    simp only [Nat.add_zero, ← hv'] at hh
    rcases hown.2 with ⟨hv, rfl⟩ | ⟨g, cap, cur, hv, _, _, hnc, _⟩
    · rw [hv] at hh
      unfold Oper.wp
      simp [execOp, ho, resolve, invoke, builtin, hv, hx, Builtin.append_, run_underlying T.und, sizeOf, typeInfo, hi, Builtin.lenOf, Builtin.firstCells, Result.andThen]
      exact hh
    · rw [hv] at hh
      unfold Oper.wp
      simp [execOp, ho, resolve, invoke, builtin, hv, hx, Builtin.append_, run_underlying T.und, sizeOf, typeInfo, hi, Builtin.lenOf, Builtin.firstCells, Result.andThen, hnc, storeCells]
      exact hh
theorem L_appendV (hgd : o.guard = none) (s x : Operand) (t : TypeId) (ho : o.op = .call { callee := .builtin .append, args := #[s, x], argTypes := #[t, t] })
    {e : TypeId} {z : Value} {bytes : Nat} (T : Sl P t e z 1 bytes) (base : Nat) (v : Value) (n : Nat) (xs : List Value) (hs : a.eval s = v) (hown : w.ownsRow base e 1 v n xs)
    (sa : Option Addr) (m c : Nat) (l : List Value) (hx : a.eval x = .slice sa m c) (hr : RV w sa m c l) (h1 : ∀ u ∈ l, u.oneCell' = true) (hb : (n + m) * bytes ≤ 140737488355328) (hm : n + m ≤ maxLen) (hbase : base ≤ w.heap.size)
    (h : ∀ a' c' w', w'.ownsRow base e 1 (.slice a' (n + m) c') (n + m) (xs ++ l) → w.grownBy w' v.ownBlock → ((Value.slice a' (n + m) c').ownBlock = v.ownBlock ∨ (Value.slice a' (n + m) c').ownBlock = some w.heap.size) → wpList P ops Q rest (a.put o.dst (.slice a' (n + m) c')) w') : wpList P ops Q (o :: rest) a w :=
  wpList_plain hgd fun _ hK => W_appendV s x t ho T base v n xs hs hown sa m c l hx hr h1 hb hm hbase fun a' c' w' h2 h3 h4 => hK _ _ (h a' c' w' h2 h3 h4)
theorem S_appendV {K : Act → World → Prop} {E : Prop} (hgd : o.guard = none) (s x : Operand) (t : TypeId) (ho : o.op = .call { callee := .builtin .append, args := #[s, x], argTypes := #[t, t] })
    {e : TypeId} {z : Value} {bytes : Nat} (T : Sl P t e z 1 bytes) (base : Nat) (v : Value) (n : Nat) (xs : List Value) (hs : a.eval s = v) (hown : w.ownsRow base e 1 v n xs)
    (sa : Option Addr) (m c : Nat) (l : List Value) (hx : a.eval x = .slice sa m c) (hr : RV w sa m c l) (h1 : ∀ u ∈ l, u.oneCell' = true) (hb : (n + m) * bytes ≤ 140737488355328) (hm : n + m ≤ maxLen) (hbase : base ≤ w.heap.size)
    (h : ∀ a' c' w', w'.ownsRow base e 1 (.slice a' (n + m) c') (n + m) (xs ++ l) → w.grownBy w' v.ownBlock → ((Value.slice a' (n + m) c').ownBlock = v.ownBlock ∨ (Value.slice a' (n + m) c').ownBlock = some w.heap.size) → K (a.put o.dst (.slice a' (n + m) c')) w') :
    if Region.wanted o (yielded ops a.tmps) = true then Oper.wp P o a w K Q else E := by
  rw [if_pos (by simp [Region.wanted, hgd])]
  exact W_appendV s x t ho T base v n xs hs hown sa m c l hx hr h1 hb hm hbase h
end
end Go.Proofs.YtdepdediggokgaaDoor
