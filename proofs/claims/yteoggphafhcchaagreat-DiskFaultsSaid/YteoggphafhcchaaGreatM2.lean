import Derived.Test.YteoggphafhcchaaGreatM1
import Derived.Lib.SlBytesConst
namespace Go.Proofs.YteoggphafhcchaaGreat
open Go Go.RowKit
set_option maxRecDepth 100000
set_option maxHeartbeats 1000000
set_option linter.unusedVariables false
set_option linter.unusedSimpArgs false
/-- A slice of bytes that can be read in w: its elements are l. -/
def R8 (w : World) (a : Option Addr) (len cap : Nat) (l : List UInt8) : Prop :=
  l.length = len ∧ len ≤ cap ∧ len ≤ 281474976710656 ∧ ∀ i (h : i < l.length), ∃ b off, a = some ⟨b, off, none⟩ ∧ w.cell? ⟨b, off + i, none⟩ = some (.int .u8 (l[i].toNat : Int))

theorem R8.at {w : World} {a : Option Addr} {len cap : Nat} {l : List UInt8} (h : R8 w a len cap l) {i : Nat} (hi : i < len) :
    ∃ b off c, a = some ⟨b, off, none⟩ ∧ l[i]? = some c ∧ w.cell? ⟨b, off + i, none⟩ = some (.int .u8 (c.toNat : Int)) := by
  obtain ⟨h1, h2, h3, h4⟩ := h
  obtain ⟨b, off, e, hc⟩ := h4 i (by omega)
  exact ⟨b, off, l[i], e, by simp, hc⟩

def b8 (c : UInt8) : Value := .int .u8 (c.toNat : Int)
theorem b8_one (l : List UInt8) : ∀ u ∈ l.map b8, u.oneCell' = true := by
  intro u hu
  obtain ⟨_, _, rfl⟩ := List.mem_map.1 hu
  rfl
theorem R8.drewN {w : World} {a : Option Addr} {len cap : Nat} {l : List UInt8} (h : R8 w a len cap l) (n : Nat) : R8 (w.drewN n) a len cap l := h
theorem R8.drew {w : World} {a : Option Addr} {len cap : Nat} {l : List UInt8} (h : R8 w a len cap l) : R8 w.drew a len cap l := h
theorem R8.take {w : World} {a : Option Addr} {len cap : Nat} {l : List UInt8} (h : R8 w a len cap l) (n : Nat) (hn : n ≤ len) : R8 w a n cap (l.take n) := by
  obtain ⟨h1, h2, h3, h4⟩ := h
  refine ⟨by simp; omega, by omega, by omega, fun i hi => ?_⟩
  simp at hi
  obtain ⟨b, off, e, hc⟩ := h4 i (by omega)
  exact ⟨b, off, e, by simpa using hc⟩
theorem R8.nil (w : World) (c : Nat) : R8 w none 0 c [] := ⟨rfl, by omega, by omega, fun i hi => by simp at hi⟩
theorem R8.below {w w' : World} {a : Option Addr} {len cap : Nat} {l : List UInt8} (h : R8 w a len cap l) (hb : Below w.heap.size w w') : R8 w' a len cap l := by
  obtain ⟨h1, h2, h3, h4⟩ := h
  refine ⟨h1, h2, h3, fun i hi => ?_⟩
  obtain ⟨b, off, e, hc⟩ := h4 i hi
  exact ⟨b, off, e, by rw [hb.cell (World.block_lt_of_cell? w _ hc)]; exact hc⟩
theorem R8.belowB {B : Nat} {w0 w' : World} {a : Option Addr} {len cap : Nat} {l : List UInt8} (h : R8 w0 a len cap l) (hB : w0.heap.size ≤ B) (hb : Below B w0 w') : R8 w' a len cap l :=
  h.below (hb.mono hB)
theorem R8.cells {w : World} {a : Option Addr} {len cap : Nat} {l : List UInt8} (h : R8 w a len cap l) {ad : Addr} (ha : a = some ad) : ∀ j u, (l.map b8)[j]? = some u → w.cell? (ad.add j) = some u := by
  intro j u hu
  obtain ⟨h1, h2, h3, h4⟩ := h
  have hj : j < l.length := by
    have := (List.getElem?_eq_some_iff.1 hu).1
    simpa using this
  obtain ⟨b, off, e, hc⟩ := h4 j hj
  obtain rfl := Option.some.inj (ha.symm.trans e)
  simp [hj] at hu
  rw [Addr.add_lit, hc, ← hu]; rfl
theorem R8.of_owns {w : World} {base e : Nat} {a : Option Addr} {n c : Nat} {l : List UInt8} (h : w.ownsRow base e 1 (.slice a n c) n (l.map b8)) (hn : n ≤ 281474976710656) : R8 w a n c l := by
  obtain ⟨h1, h2⟩ := h
  simp at h1
  rcases h2 with ⟨h2, rfl⟩ | ⟨g, cap, cur, hv, hg, hh, hnc, hcm, hcs, ht⟩
  · obtain rfl : l = [] := List.eq_nil_of_length_eq_zero h1
    exact ⟨rfl, by omega, by omega, fun i hi => by simp at hi⟩
  · obtain ⟨rfl, -, rfl⟩ := Value.slice.inj hv
    refine ⟨h1, hnc, hn, fun i hi => ⟨g, 0, rfl, ?_⟩⟩
    rw [cell_of_row w g _ cur e (0, 0) hh]
    have hi2 : (cur.toList.take (n * 1))[i]? = (l.map b8)[i]? := by rw [ht]
    rw [List.getElem?_take, if_pos (by omega)] at hi2
    simp [hi] at hi2
    simpa [b8] using hi2

theorem R8.lit (w : World) (e : TypeId) (fr : Nat × Nat) (l : List UInt8) (n : Nat) (hn : l.length = n) (hs : n ≤ 281474976710656) (cs : Array Value) (hc : cs = (l.map b8).toArray) :
    R8 (w.alloc (.cells cs e fr)) (some ⟨w.heap.size, 0, none⟩) n n l := by
  refine ⟨hn, Nat.le_refl _, hs, fun i hi => ⟨w.heap.size, 0, rfl, ?_⟩⟩
  have hh : (w.alloc (.cells cs e fr)).heap[w.heap.size]? = some (.cells cs e fr) := heap_alloc_new w _
  rw [cell_of_row _ _ _ cs e fr hh, hc]
  simp [hi, b8]
/-- Where 'x[k:]' begins. -/
def dropA (a : Option Addr) (k cap : Nat) : Option Addr := if cap = k then a else a.map (·.add k)
theorem R8.dropA {w : World} {a : Option Addr} {len cap : Nat} {l : List UInt8} (h : R8 w a len cap l) (k : Nat) (hk : k ≤ len) : R8 w (dropA a k cap) (len - k) (cap - k) (l.drop k) := by
  obtain ⟨h1, h2, h3, h4⟩ := h
  refine ⟨by simp; omega, by omega, by omega, fun i hi => ?_⟩
  simp at hi
  obtain ⟨b, off, rfl, hc⟩ := h4 (k + i) (by omega)
  refine ⟨b, off + k, ?_, ?_⟩
  · rw [Go.Proofs.YteoggphafhcchaaGreat.dropA, if_neg (by omega)]; simp [Addr.add_lit]
  · rw [Nat.add_assoc, hc]; simp
theorem R8.mid {w : World} {a : Option Addr} {len cap : Nat} {l : List UInt8} (h : R8 w a len cap l) (k e : Nat) (hk : k ≤ e) (he : e ≤ len) : R8 w (Go.Proofs.YteoggphafhcchaaGreat.dropA a k cap) (e - k) (cap - k) ((l.drop k).take (e - k)) :=
  (h.dropA k (by omega)).take (e - k) (by omega)

section
variable {P : Program} {t e : TypeId} {z : Value} {bytes : Nat} (T : Sl P t e z 1 bytes) (w : World) (a : Option Addr) (len cap : Nat)
include T
theorem Sl.elem : P.underlying t = some (.slice (P.elem t)) ∧ (sizeOf (P.elem t)).run P w = .ok 1 w := by
  obtain ⟨i, hi, hz0, hz1, hz2⟩ := info_parts T.inf
  have he : P.elem t = e := by simp [Program.elem, T.und]
  rw [he]
  exact ⟨T.und, by simp [sizeOf, typeInfo, hi, hz1]⟩
theorem slice_from (k : Nat) (x : Int) (hx : x = (k : Int)) (hk : k ≤ len) : (Instr.slice t (.slice a len cap) (some (.int .i64 x)) none none).run P w = .ok (.slice (dropA a k cap) (len - k) (cap - k)) w := by
  subst hx
  obtain ⟨h1, h2⟩ := T.elem w
  rw [run_slice_l w t a len cap h1 .i64 k (by omega) (by omega), h2]
  simp [Result.andThen, sliced, dropA]
theorem slice_mid (k h : Nat) (x y : Int) (hx : x = (k : Int)) (hy : y = (h : Int)) (hk : k ≤ h) (hc : h ≤ cap) : (Instr.slice t (.slice a len cap) (some (.int .i64 x)) (some (.int .i64 y)) none).run P w = .ok (.slice (dropA a k cap) (h - k) (cap - k)) w := by
  subst hx hy
  obtain ⟨h1, h2⟩ := T.elem w
  rw [run_slice_lh w t a len cap h1 .i64 .i64 k h (by omega) (by omega) (by omega), h2]
  simp [Result.andThen, sliced, dropA]
end

section
variable {P : Program} {w : World} {ops : Array Oper} {rest : List Oper} {o : Oper} {a : Act} {Q : Exit → Act → World → Prop}
/-- append(v, src...), v owned, src a slice of bytes that can be read. -/
theorem W_append8 {K : Act → World → Prop} (s x : Operand) (t : TypeId) (ho : o.op = .call { callee := .builtin .append, args := #[s, x], argTypes := #[t, t] })
    {e : TypeId} {z : Value} {bytes : Nat} (T : Sl P t e z 1 bytes) (base : Nat) (v : Value) (n : Nat) (xs : List Value) (hs : a.eval s = v) (hown : w.ownsRow base e 1 v n xs)
    (sa : Option Addr) (m c : Nat) (l : List UInt8) (hx : a.eval x = .slice sa m c) (hr : R8 w sa m c l) (hb : (n + m) * bytes ≤ 140737488355328) (hm : n + m ≤ maxLen) (hbase : base ≤ w.heap.size)
    (h : ∀ a' c' w', w'.ownsRow base e 1 (.slice a' (n + m) c') (n + m) (xs ++ l.map b8) → w.grownBy w' v.ownBlock → ((Value.slice a' (n + m) c').ownBlock = v.ownBlock ∨ (Value.slice a' (n + m) c').ownBlock = some w.heap.size) → K (a.put o.dst (.slice a' (n + m) c')) w') : o.wp P a w K Q := by
  obtain ⟨i, hi, hz0, hz1, hz2⟩ := info_parts T.inf
  cases sa with
  | some ad =>
    obtain ⟨v', w', hr2, h2, h3, _, h5⟩ := run_append_own_at (P := P) w base t o.type e i z 1 bytes T.und hi hz0 hz1 hz2 T.zs T.pos v n xs hown ad m c (l.map b8) (by simp [hr.1]) (hr.cells rfl) (b8_one l) hm hb hbase
    unfold Oper.wp execOp
    simp only [ho, resolve, invoke, builtin, Sem.run_bind, Sem.run_pure, Result.andThen_ok, List.map_toArray, List.map_cons, List.map_nil, hs, hx, hr2]
    obtain ⟨a', c', rfl, _⟩ := owns_shape h2
    exact h a' c' w' h2 h3 h5
  | none =>
    have hl : l = [] := by
      apply List.eq_nil_of_length_eq_zero
      rcases Nat.eq_zero_or_pos l.length with h0 | h0
      · exact h0
      · obtain ⟨b, off, e, _⟩ := hr.2.2.2 0 h0
        cases e
    subst hl
    have hm0 : m = 0 := hr.1.symm
    subst hm0
    subst hs
    obtain ⟨a', c', hv', _⟩ := owns_shape hown
    have hh := h a' c' w (by simpa [hv'] using hown) ⟨rfl, rfl, rfl, Nat.le_refl _, fun _ _ _ => rfl⟩ (.inl (by simp [hv']))
    simp only [Nat.add_zero, ← hv'] at hh
    rcases hown.2 with ⟨hv, rfl⟩ | ⟨g, cap, cur, hv, _, _, hnc, _⟩
    · rw [hv] at hh
      unfold Oper.wp
      simp [execOp, ho, resolve, invoke, builtin, hv, hx, Builtin.append_, run_underlying T.und, sizeOf, typeInfo, hi, Builtin.lenOf, Builtin.firstCells, Result.andThen]
      exact hh
    · rw [hv] at hh
      unfold Oper.wp
      simp [execOp, ho, resolve, invoke, builtin, hv, hx, Builtin.append_, run_underlying T.und, sizeOf, typeInfo, hi, Builtin.lenOf, Builtin.firstCells, Result.andThen, hnc, storeCells]
      exact hh
theorem L_append8 (hgd : o.guard = none) (s x : Operand) (t : TypeId) (ho : o.op = .call { callee := .builtin .append, args := #[s, x], argTypes := #[t, t] })
    {e : TypeId} {z : Value} {bytes : Nat} (T : Sl P t e z 1 bytes) (base : Nat) (v : Value) (n : Nat) (xs : List Value) (hs : a.eval s = v) (hown : w.ownsRow base e 1 v n xs)
    (sa : Option Addr) (m c : Nat) (l : List UInt8) (hx : a.eval x = .slice sa m c) (hr : R8 w sa m c l) (hb : (n + m) * bytes ≤ 140737488355328) (hm : n + m ≤ maxLen) (hbase : base ≤ w.heap.size)
    (h : ∀ a' c' w', w'.ownsRow base e 1 (.slice a' (n + m) c') (n + m) (xs ++ l.map b8) → w.grownBy w' v.ownBlock → ((Value.slice a' (n + m) c').ownBlock = v.ownBlock ∨ (Value.slice a' (n + m) c').ownBlock = some w.heap.size) → wpList P ops Q rest (a.put o.dst (.slice a' (n + m) c')) w') : wpList P ops Q (o :: rest) a w :=
  wpList_plain hgd fun _ hK => W_append8 s x t ho T base v n xs hs hown sa m c l hx hr hb hm hbase fun a' c' w' h2 h3 h4 => hK _ _ (h a' c' w' h2 h3 h4)
theorem S_append8 {K : Act → World → Prop} {E : Prop} (hgd : o.guard = none) (s x : Operand) (t : TypeId) (ho : o.op = .call { callee := .builtin .append, args := #[s, x], argTypes := #[t, t] })
    {e : TypeId} {z : Value} {bytes : Nat} (T : Sl P t e z 1 bytes) (base : Nat) (v : Value) (n : Nat) (xs : List Value) (hs : a.eval s = v) (hown : w.ownsRow base e 1 v n xs)
    (sa : Option Addr) (m c : Nat) (l : List UInt8) (hx : a.eval x = .slice sa m c) (hr : R8 w sa m c l) (hb : (n + m) * bytes ≤ 140737488355328) (hm : n + m ≤ maxLen) (hbase : base ≤ w.heap.size)
    (h : ∀ a' c' w', w'.ownsRow base e 1 (.slice a' (n + m) c') (n + m) (xs ++ l.map b8) → w.grownBy w' v.ownBlock → ((Value.slice a' (n + m) c').ownBlock = v.ownBlock ∨ (Value.slice a' (n + m) c').ownBlock = some w.heap.size) → K (a.put o.dst (.slice a' (n + m) c')) w') :
    if Region.wanted o (yielded ops a.tmps) = true then Oper.wp P o a w K Q else E := by
  rw [if_pos (by simp [Region.wanted, hgd])]
  exact W_append8 s x t ho T base v n xs hs hown sa m c l hx hr hb hm hbase h

/-- make([]T, n). -/
theorem L_make (hgd : o.guard = none) (l c : Operand) (t : TypeId) (ho : o.op = Op.makeSlice t l c) {e : TypeId} {z : Value} {size bytes : Nat} (T : Sl P t e z size bytes)
    (base : Nat) (kl kc : IntKind) (L : Int) (n : Nat) (hl : a.eval l = .int kl L) (hc : a.eval c = .int kc L) (hL : L = (n : Int)) (hb : bytes * n ≤ 281474976710656) (hn : n ≤ maxLen) (hbase : base ≤ w.heap.size)
    (h : ∀ w', w'.ownsRow base e size (.slice (some ⟨w.heap.size, 0, none⟩) n n) n (madeCells z.cells (n * size)).toList → w.grownBy w' none → wpList P ops Q rest (a.put o.dst (.slice (some ⟨w.heap.size, 0, none⟩) n n)) w') :
    wpList P ops Q (o :: rest) a w := by
  obtain ⟨i, hi, hz0, hz1, hz2⟩ := info_parts T.inf
  exact wpList_make_full w hgd l c t ho base e i z size T.und hi hz0 hz1 kl kc L L n hl hc hL hL (by rw [hz2]; exact hb) hn hbase h

/-- copy(dst, src), dst the head of an owned row, src a slice of bytes that can be read, no longer than dst. -/
theorem L_copy8 (hgd : o.guard = none) (d s : Operand) (t : TypeId) (ho : o.op = .call { callee := .builtin .copy, args := #[d, s], argTypes := #[t, t] }) {e : TypeId} {z : Value} {bytes : Nat} (T : Sl P t e z 1 bytes)
    (base : Nat) (g n cap : Nat) (xs : List Value) (hd : a.eval d = .slice (some ⟨g, 0, none⟩) n cap) (hown : w.ownsRow base e 1 (.slice (some ⟨g, 0, none⟩) n cap) n xs)
    (sa : Option Addr) (m c : Nat) (l : List UInt8) (hs : a.eval s = .slice sa m c) (hr : R8 w sa m c l) (hmn : m ≤ n)
    (h : ∀ w', w'.ownsRow base e 1 (.slice (some ⟨g, 0, none⟩) n cap) n (l.map b8 ++ xs.drop m) → w.grownBy w' (some g) → wpList P ops Q rest (a.put o.dst (goInt m)) w') :
    wpList P ops Q (o :: rest) a w := by
  obtain ⟨i, hi, hz0, hz1, hz2⟩ := info_parts T.inf
  have hlm := hr.1
  have hx := hown.1
  simp only [Nat.mul_one] at hx
  rcases hown.2 with ⟨hv, _⟩ | ⟨g', cap', cur, hv, hbg, hh, hnc, hcm, hcs, ht⟩
  · cases hv
  · injection hv with h1 _ h3
    injection h1 with h1
    injection h1 with h1
    subst h1 h3
    have hmin : Nat.min m n = m := Nat.min_eq_left hmn
    have hcur : cur.size = cap := by simpa using hcs
    have hd' : cur.toList.take n = xs := by simpa using ht
    by_cases h0 : m = 0
    · subst h0
      obtain rfl : l = [] := List.eq_nil_of_length_eq_zero hlm
      refine wpList_copy_nothing hgd d s t t ho e T.und (by rw [hi]; simp [hz1]) _ _ _ _ _ _ hd hs (by simp) ?_
      exact h w (by simpa using hown) ⟨rfl, rfl, rfl, Nat.le_refl _, fun _ _ _ => rfl⟩
    · have hpos : 0 < l.length := by omega
      obtain ⟨b, off, e1, _⟩ := hr.2.2.2 0 hpos
      subst e1
      refine wpList_copy_own hgd d s t t ho e T.und (by rw [hi]; simp [hz1]) g 0 n cap ⟨b, off, none⟩ m c hd hs cur e hh (l.map b8) (by simp [hlm, hmin]) (hr.cells rfl) (by simp [hlm]; omega) (b8_one l) ?_
      have hlen : (l.map b8).length = m := by simp [hlm]
      rw [hlen]
      refine h _ ⟨by simp [hlm]; omega, .inr ⟨g, cap, _, rfl, hbg, setRow_heap w g cur _ e _ hh, hnc, hcm, by simp [hlm]; omega, ?_⟩⟩ ⟨rfl, rfl, rfl, by simp, fun k _ hk => setRow_other w g k _ (fun e => hk (by simp [e]))⟩
      simp only [List.take_zero, List.nil_append, Nat.mul_one, Nat.zero_add]
      rw [List.take_append, List.take_of_length_le (by simp [hlm]; omega), hlen, ← hd', List.drop_take]
/-- copy(dst, src), dst the head of an owned row: as many as fit. -/
theorem L_copy8m (hgd : o.guard = none) (d s : Operand) (t : TypeId) (ho : o.op = .call { callee := .builtin .copy, args := #[d, s], argTypes := #[t, t] }) {e : TypeId} {z : Value} {bytes : Nat} (T : Sl P t e z 1 bytes)
    (base : Nat) (g n cap : Nat) (xs : List Value) (hd : a.eval d = .slice (some ⟨g, 0, none⟩) n cap) (hown : w.ownsRow base e 1 (.slice (some ⟨g, 0, none⟩) n cap) n xs)
    (sa : Option Addr) (m c : Nat) (l : List UInt8) (hs : a.eval s = .slice sa m c) (hr : R8 w sa m c l)
    (h : ∀ w', w'.ownsRow base e 1 (.slice (some ⟨g, 0, none⟩) n cap) n ((l.take n).map b8 ++ xs.drop (min m n)) → w.grownBy w' (some g) → wpList P ops Q rest (a.put o.dst (goInt (min m n : Nat))) w') :
    wpList P ops Q (o :: rest) a w := by
  obtain ⟨i, hi, hz0, hz1, hz2⟩ := info_parts T.inf
  have hlm := hr.1
  have hx := hown.1
  simp only [Nat.mul_one] at hx
  rcases hown.2 with ⟨hv, _⟩ | ⟨g', cap', cur, hv, hbg, hh, hnc, hcm, hcs, ht⟩
  · cases hv
  · injection hv with h1 _ h3
    injection h1 with h1
    injection h1 with h1
    subst h1 h3
    have hcur : cur.size = cap := by simpa using hcs
    have hd' : cur.toList.take n = xs := by simpa using ht
    by_cases h0 : min m n = 0
    · have hl0 : l.take n = [] := by
        apply List.eq_nil_of_length_eq_zero; simp [hlm]; omega
      refine wpList_copy_nothing hgd d s t t ho e T.und (by rw [hi]; simp [hz1]) _ _ _ _ _ _ hd hs h0 ?_
      have := h w (by rw [hl0, h0]; simpa using hown) ⟨rfl, rfl, rfl, Nat.le_refl _, fun _ _ _ => rfl⟩
      rw [h0] at this
      exact this
    · have hpos : 0 < l.length := by omega
      obtain ⟨b, off, e1, _⟩ := hr.2.2.2 0 hpos
      subst e1
      have hlen : ((l.take n).map b8).length = min m n := by simp [hlm, Nat.min_comm]
      have hr' : R8 w (some ⟨b, off, none⟩) (min m n) c (l.take n) := by
        rw [show l.take n = l.take (min m n) by rw [← hlm, Nat.min_comm, ← List.take_take, List.take_length]]
        exact hr.take _ (by omega)
      refine wpList_copy_own hgd d s t t ho e T.und (by rw [hi]; simp [hz1]) g 0 n cap ⟨b, off, none⟩ m c hd hs cur e hh ((l.take n).map b8) hlen (hr'.cells rfl) (by rw [hlen]; omega) (b8_one _) ?_
      rw [hlen]
      refine h _ ⟨by rw [List.length_append, hlen]; simp; omega, .inr ⟨g, cap, _, rfl, hbg, setRow_heap w g cur _ e _ hh, hnc, hcm, by simp [hlm]; omega, ?_⟩⟩ ⟨rfl, rfl, rfl, by simp, fun k _ hk => setRow_other w g k _ (fun e => hk (by simp [e]))⟩
      simp only [List.take_zero, List.nil_append, Nat.mul_one, Nat.zero_add]
      rw [List.take_append, List.take_of_length_le (by rw [hlen]; omega), hlen, ← hd', List.drop_take]
end
end Go.Proofs.YteoggphafhcchaaGreat
