import Derived.Test.YteoggphafhcchaaGreatChecked
import Derived.WalkKit
import Derived.RowKit
import Derived.Lib.Hide
import Derived.WalkSpells
import Derived.BigQuiet
import Derived.Deep.QuietTactic
import Derived.Deep.DeepCutAuto
import Derived.Deep.CutBlock
import Derived.Laws.Rows
import Derived.Deep.RegionLaw
import Derived.Deep.AppendLies
import Derived.StillTailTactics
import Derived.Maps.AppendAt
import Derived.OwnWalk
import Derived.Laws.CopyOwn
import Derived.SliceStrings
import Derived.Deep.Slices
import Derived.Laws.AppendOwnNone
import Derived.Lib.SlBytesRow
import Derived.RegionTactic
import Derived.ChangeAlike
import Derived.OpenShut
import Derived.OrdersHeld
import Derived.SizedLaws
import Derived.Deep.RegionHeld3
import Derived.BigGuardPart
import Derived.IntWalk
import Derived.Handy
import Derived.WalkLawsBesides
namespace Go.Proofs.YteoggphafhcchaaGreat
open Go Go.RowKit
set_option maxRecDepth 100000
set_option maxHeartbeats 4000000
set_option linter.unusedVariables false
set_option linter.unusedSimpArgs false
theorem below_drewN {B : Nat} {a w : World} (h : Below B a w) (n : Nat) : Below B a (w.drewN n) := h.trans ⟨rfl, rfl, rfl, Nat.le_refl _, fun _ _ => rfl⟩

/-- A slice of structs of s cells that can be read in w. -/
def RS {α : Type} (s : Nat) (enc : α → List Value) (w : World) (a : Option Addr) (len cap : Nat) (xs : List α) : Prop :=
  xs.length = len ∧ len ≤ cap ∧ len ≤ 281474976710656 ∧ ∀ i x, xs[i]? = some x → ∃ b off, a = some ⟨b, off, none⟩ ∧ ∀ j v, (enc x)[j]? = some v → w.cell? ⟨b, off + i * s + j, none⟩ = some v
theorem RS.below {α : Type} {s : Nat} {enc : α → List Value} {w w' : World} {a : Option Addr} {len cap : Nat} {xs : List α} (h : RS s enc w a len cap xs) (hb : Below w.heap.size w w') : RS s enc w' a len cap xs := by
  obtain ⟨h1, h2, h3, h4⟩ := h
  refine ⟨h1, h2, h3, fun i x hx => ?_⟩
  obtain ⟨b, off, e, hc⟩ := h4 i x hx
  exact ⟨b, off, e, fun j v hv => by rw [hb.cell (World.block_lt_of_cell? w _ (hc j v hv))]; exact hc j v hv⟩
theorem RS.at {α : Type} {s : Nat} {enc : α → List Value} {w : World} {a : Option Addr} {len cap : Nat} {xs : List α} (h : RS s enc w a len cap xs) {i : Nat} (hi : i < len) :
    ∃ b off x, a = some ⟨b, off, none⟩ ∧ xs[i]? = some x ∧ ∀ j v, (enc x)[j]? = some v → w.cell? ⟨b, off + i * s + j, none⟩ = some v := by
  obtain ⟨h1, h2, h3, h4⟩ := h
  obtain ⟨b, off, e, hc⟩ := h4 i xs[i] (List.getElem?_eq_getElem (by omega))
  exact ⟨b, off, _, e, List.getElem?_eq_getElem (by omega), hc⟩

theorem RS.cell {α : Type} {s : Nat} {enc : α → List Value} {w : World} {b off len cap : Nat} {xs : List α} (h : RS s enc w (some ⟨b, off, none⟩) len cap xs) (i : Nat) (x : α) (hx : xs[i]? = some x) (j : Nat) (v : Value) (hv : (enc x)[j]? = some v) :
    w.cell? ⟨b, off + i * s + j, none⟩ = some v := by
  obtain ⟨b', off', e, hc⟩ := h.2.2.2 i x hx
  obtain ⟨rfl, rfl⟩ : b = b' ∧ off = off' := by simpa using e
  exact hc j v hv
/-- A slice type with one-cell elements in the program's table. -/
structure Sl (P : Program) (t e : TypeId) (z : Value) (size bytes : Nat) : Prop where
  und : P.underlying t = some (.slice e)
  inf : (P.info? e).map (fun i => (i.zero, i.size, i.bytes)) = some (some z, size, bytes)
  zs : z.cells.size = size
  pos : 0 < size
theorem gwk {w1 w2 : World} (hb : Below w1.heap.size w1 w2) : w1.grownBy w2 none := ⟨hb.os, hb.tape, hb.output, hb.size, fun k hk _ => hb.block k hk⟩
theorem own_below {w w' : World} {B e s : Nat} {v : Value} {n : Nat} {xs : List Value} (h : w.ownsRow B e s v n xs) (hb : Below w.heap.size w w') : w'.ownsRow B e s v n xs := h.kept (gwk hb) (by cases v.ownBlock <;> simp)
theorem owns_shape {w : World} {base e size : Nat} {v : Value} {n : Nat} {xs : List Value} (h : w.ownsRow base e size v n xs) :
    ∃ a c, v = .slice a n c ∧ (0 < n → ∃ g, a = some ⟨g, 0, none⟩ ∧ base ≤ g ∧ g < w.heap.size) := by
  rcases h.2 with ⟨rfl, rfl⟩ | ⟨g, cap, cur, rfl, hb, hh, _⟩
  · exact ⟨none, 0, rfl, fun h => by omega⟩
  · exact ⟨_, _, rfl, fun _ => ⟨g, rfl, hb, (Array.getElem?_eq_some_iff.1 hh).1⟩⟩
theorem owns_mono {w : World} {B B' e size : Nat} {v : Value} {n : Nat} {xs : List Value} (h : w.ownsRow B e size v n xs) (hb : B' ≤ B) : w.ownsRow B' e size v n xs := by
  refine ⟨h.1, ?_⟩
  rcases h.2 with h | ⟨g, cap, cur, hv, hg, r⟩
  · exact .inl h
  · exact .inr ⟨g, cap, cur, hv, Nat.le_trans hb hg, r⟩
section
variable {P : Program} {w : World} {ops : Array Oper} {rest : List Oper} {o : Oper} {a : Act} {Q : Exit → Act → World → Prop}
/-- append(v, src...), v owned, src a slice whose cells are known. -/
theorem W_appendN {K : Act → World → Prop} (s x : Operand) (t : TypeId) (ho : o.op = .call { callee := .builtin .append, args := #[s, x], argTypes := #[t, t] })
    {e : TypeId} {z : Value} {size bytes : Nat} (T : Sl P t e z size bytes) (base : Nat) (v : Value) (n : Nat) (xs : List Value) (hs : a.eval s = v) (hown : w.ownsRow base e size v n xs)
    (ad : Addr) (m c : Nat) (l : List Value) (hx : a.eval x = .slice (some ad) m c) (hl : l.length = m * size) (hr : ∀ j u, l[j]? = some u → w.cell? (ad.add j) = some u) (h1 : ∀ u ∈ l, u.oneCell' = true) (hb : (n + m) * bytes ≤ 140737488355328) (hm : n + m ≤ maxLen) (hbase : base ≤ w.heap.size)
    (h : ∀ a' c' w', w'.ownsRow base e size (.slice a' (n + m) c') (n + m) (xs ++ l) → w.grownBy w' v.ownBlock → ((Value.slice a' (n + m) c').ownBlock = v.ownBlock ∨ (Value.slice a' (n + m) c').ownBlock = some w.heap.size) → K (a.put o.dst (.slice a' (n + m) c')) w') : o.wp P a w K Q := by
  obtain ⟨i, hi, hz0, hz1, hz2⟩ := info_parts T.inf
  obtain ⟨v', w', hr2, h2, h3, _, h5⟩ := run_append_own_at (P := P) w base t o.type e i z size bytes T.und hi hz0 hz1 hz2 T.zs T.pos v n xs hown ad m c l hl hr h1 hm hb hbase
  unfold Oper.wp execOp
  simp only [ho, resolve, invoke, builtin, Sem.run_bind, Sem.run_pure, Result.andThen_ok, List.map_toArray, List.map_cons, List.map_nil, hs, hx, hr2]
  obtain ⟨a', c', rfl, _⟩ := owns_shape h2
  exact h a' c' w' h2 h3 h5
end
section
variable {P : Program} {w : World} {ops : Array Oper} {rest : List Oper} {o : Oper} {a : Act} {Q : Exit → Act → World → Prop}
theorem L_appendN (hgd : o.guard = none) (s x : Operand) (t : TypeId) (ho : o.op = .call { callee := .builtin .append, args := #[s, x], argTypes := #[t, t] })
    {e : TypeId} {z : Value} {size bytes : Nat} (T : Sl P t e z size bytes) (base : Nat) (v : Value) (n : Nat) (xs : List Value) (hs : a.eval s = v) (hown : w.ownsRow base e size v n xs)
    (ad : Addr) (m c : Nat) (l : List Value) (hx : a.eval x = .slice (some ad) m c) (hl : l.length = m * size) (hr : ∀ j u, l[j]? = some u → w.cell? (ad.add j) = some u) (h1 : ∀ u ∈ l, u.oneCell' = true) (hb : (n + m) * bytes ≤ 140737488355328) (hm : n + m ≤ maxLen) (hbase : base ≤ w.heap.size)
    (h : ∀ a' c' w', w'.ownsRow base e size (.slice a' (n + m) c') (n + m) (xs ++ l) → w.grownBy w' v.ownBlock → ((Value.slice a' (n + m) c').ownBlock = v.ownBlock ∨ (Value.slice a' (n + m) c').ownBlock = some w.heap.size) → wpList P ops Q rest (a.put o.dst (.slice a' (n + m) c')) w') : wpList P ops Q (o :: rest) a w :=
  wpList_plain hgd fun _ hK => W_appendN s x t ho T base v n xs hs hown ad m c l hx hl hr h1 hb hm hbase fun a' c' w' h2 h3 h4 => hK _ _ (h a' c' w' h2 h3 h4)
end
section
variable {P : Program} {w : World} {ops : Array Oper} {rest : List Oper} {o : Oper} {a : Act} {Q : Exit → Act → World → Prop}
theorem S_appendN {K : Act → World → Prop} {E : Prop} (hgd : o.guard = none) (s x : Operand) (t : TypeId) (ho : o.op = .call { callee := .builtin .append, args := #[s, x], argTypes := #[t, t] })
    {e : TypeId} {z : Value} {size bytes : Nat} (T : Sl P t e z size bytes) (base : Nat) (v : Value) (n : Nat) (xs : List Value) (hs : a.eval s = v) (hown : w.ownsRow base e size v n xs)
    (ad : Addr) (m c : Nat) (l : List Value) (hx : a.eval x = .slice (some ad) m c) (hl : l.length = m * size) (hr : ∀ j u, l[j]? = some u → w.cell? (ad.add j) = some u) (h1 : ∀ u ∈ l, u.oneCell' = true) (hb : (n + m) * bytes ≤ 140737488355328) (hm : n + m ≤ maxLen) (hbase : base ≤ w.heap.size)
    (h : ∀ a' c' w', w'.ownsRow base e size (.slice a' (n + m) c') (n + m) (xs ++ l) → w.grownBy w' v.ownBlock → ((Value.slice a' (n + m) c').ownBlock = v.ownBlock ∨ (Value.slice a' (n + m) c').ownBlock = some w.heap.size) → K (a.put o.dst (.slice a' (n + m) c')) w') :
    if Region.wanted o (yielded ops a.tmps) = true then Oper.wp P o a w K Q else E := by
  rw [if_pos (by simp [Region.wanted, hgd])]
  exact W_appendN s x t ho T base v n xs hs hown ad m c l hx hl hr h1 hb hm hbase h
end
theorem flat_len {α : Type} (enc : α → List Value) (s : Nat) (he : ∀ x, (enc x).length = s) (xs : List α) : (xs.flatMap enc).length = xs.length * s := by
  induction xs with
  | nil => simp
  | cons x t ih => simp [List.flatMap_cons, he, ih, Nat.add_mul]; omega
theorem flat_get {α : Type} (enc : α → List Value) (s : Nat) (he : ∀ x, (enc x).length = s) (xs : List α) : ∀ (i : Nat) (x : α), xs[i]? = some x → ∀ j v, (enc x)[j]? = some v → (xs.flatMap enc)[i * s + j]? = some v := by
  induction xs with
  | nil => intro i x h; simp at h
  | cons y t ih =>
    intro i x h j v hv
    have hj : j < s := by rw [← he x]; exact (List.getElem?_eq_some_iff.1 hv).1
    cases i with
    | zero =>
      simp at h
      subst h
      rw [List.flatMap_cons, Nat.zero_mul, Nat.zero_add, List.getElem?_append_left (by rw [he]; exact hj), hv]
    | succ i =>
      simp only [List.getElem?_cons_succ] at h
      rw [List.flatMap_cons, List.getElem?_append_right (by rw [he, Nat.add_mul]; omega), he, show (i + 1) * s + j - s = i * s + j by rw [Nat.add_mul]; omega]
      exact ih i x h j v hv
theorem RS.of_owns {α : Type} {s : Nat} {enc : α → List Value} {w : World} {base e : Nat} {a : Option Addr} {n c : Nat} {xs : List α} (h : w.ownsRow base e s (.slice a n c) n (xs.flatMap enc)) (hs : 0 < s) (he : ∀ x, (enc x).length = s) (hn : n ≤ 281474976710656) : RS s enc w a n c xs := by
  have hl : xs.length = n := by
    have := h.1
    rw [flat_len enc s he] at this
    exact Nat.eq_of_mul_eq_mul_right hs this
  rcases h.2 with ⟨hv, h0⟩ | ⟨g, cap, cur, hv, hg, hh, hnc, hcm, hcs, htk⟩
  · obtain ⟨rfl, rfl, rfl⟩ := Value.slice.inj hv
    refine ⟨hl, Nat.le_refl _, by omega, fun i x hx => ?_⟩
    have := (List.getElem?_eq_some_iff.1 hx).1
    omega
  · obtain ⟨rfl, -, rfl⟩ := Value.slice.inj hv
    refine ⟨hl, hnc, hn, fun i x hx => ⟨g, 0, rfl, fun j v hv => ?_⟩⟩
    have hi := (List.getElem?_eq_some_iff.1 hx).1
    have hj : j < s := by rw [← he x]; exact (List.getElem?_eq_some_iff.1 hv).1
    have h1 := flat_get enc s he xs i x hx j v hv
    have hlt : i * s + j < n * s := by
      have : (i + 1) * s ≤ n * s := Nat.mul_le_mul_right s (by omega)
      rw [Nat.add_mul] at this; omega
    rw [cell_of_row w g _ cur e (0, 0) hh, Nat.zero_add]
    rw [← htk, List.getElem?_take, if_pos hlt] at h1
    simpa using h1
theorem own_ne {w : World} {B e s n : Nat} {v : Value} {xs : List Value} (h : w.ownsRow B e s v n xs) {g : Nat} {cs : Array Value} {t : TypeId} {fz : Nat × Nat} (hg : w.heap[g]? = some (.cells cs t fz)) (hne : t ≠ e) : v.ownBlock ≠ some g := by
  rcases h.2 with ⟨rfl, _⟩ | ⟨g', cap, cur, rfl, _, hh, _⟩
  · simp [Value.ownBlock]
  · simp only [Value.ownBlock, ne_eq, Option.some.injEq]
    rintro rfl
    rw [hh] at hg
    simp at hg
    exact hne hg.2.1.symm
theorem RS.cells {α : Type} {s : Nat} {enc : α → List Value} (he : ∀ x, (enc x).length = s) (hs : 0 < s) {w : World} {a : Option Addr} {n c : Nat} {xs : List α} (h : RS s enc w a n c xs) {ad : Addr} (ha : a = some ad) :
    ∀ j v, (xs.flatMap enc)[j]? = some v → w.cell? (ad.add j) = some v := by
  intro j v hv
  have hj : j < xs.length * s := by have := (List.getElem?_eq_some_iff.1 hv).1; rwa [flat_len enc s he] at this
  have hi : j / s < xs.length := (Nat.div_lt_iff_lt_mul hs).2 hj
  have hx := List.getElem?_eq_getElem hi
  obtain ⟨b, off, e, hc⟩ := h.2.2.2 (j / s) _ hx
  rw [ha] at e
  obtain rfl := Option.some.inj e
  rw [Addr.add_lit]
  have hm : j % s < s := Nat.mod_lt _ hs
  have hd : j = j / s * s + j % s := by rw [Nat.mul_comm]; exact (Nat.div_add_mod j s).symm
  have hv2 : (enc xs[j / s])[j % s]? = some v := by
    have hlt : j % s < (enc xs[j / s]).length := by rw [he]; exact hm
    have := flat_get enc s he xs (j / s) _ hx (j % s) _ (List.getElem?_eq_getElem hlt)
    rw [← hd, hv] at this
    rw [List.getElem?_eq_getElem hlt, ← this]
  have := hc (j % s) v hv2
  rwa [Nat.add_assoc, ← hd] at this
theorem own_at {α : Type} {enc : α → List Value} {s : Nat} (he : ∀ x, (enc x).length = s) {w : World} {B e g n c : Nat} {l : List α} (h : w.ownsRow B e s (.slice (some ⟨g, 0, none⟩) n c) n (l.flatMap enc)) {k : Nat} {x : α} (hx : l[k]? = some x) (j : Nat) (v : Value) (hv : (enc x)[j]? = some v) :
    w.cell? ⟨g, k * s + j, none⟩ = some v := by
  have hj : j < s := by have := (List.getElem?_eq_some_iff.1 hv).1; rwa [he] at this
  have hk : k < l.length := (List.getElem?_eq_some_iff.1 hx).1
  have hln : l.length * s = n * s := by rw [← flat_len enc s he]; exact h.1
  have hlt : k * s + j < n * s := by
    rw [← hln]
    have : (k + 1) * s ≤ l.length * s := Nat.mul_le_mul_right s hk
    rw [Nat.succ_mul] at this; omega
  rw [h.cellAt _ hlt]
  exact flat_get enc s he l k x hx j v hv
section
variable {P : Program} {w : World} {ops : Array Oper} {rest : List Oper} {o : Oper} {a : Act} {Q : Exit → Act → World → Prop}
/-- append([]T(nil), src...), src nil or not. -/
theorem L_append0 (hgd : o.guard = none) (s x : Operand) (t : TypeId) (ho : o.op = .call { callee := .builtin .append, args := #[s, x], argTypes := #[t, t] })
    {e : TypeId} {z : Value} {size bytes : Nat} (T : Sl P t e z size bytes) (hs : a.eval s = .slice none 0 0) (aa : Option Addr) (m c : Nat) (l : List Value) (hx : a.eval x = .slice aa m c)
    (hsrc : (aa = none ∧ m = 0 ∧ c = 0 ∧ l = []) ∨ ∃ ad, aa = some ad ∧ ∀ j u, l[j]? = some u → w.cell? (ad.add j) = some u) (hl : l.length = m * size) (h1 : ∀ u ∈ l, u.oneCell' = true) (hb : m * bytes ≤ 140737488355328) (hm : m ≤ maxLen)
    (h : ∀ a' c' w', w'.ownsRow w.heap.size e size (.slice a' m c') m l → w.grownBy w' none → wpList P ops Q rest (a.put o.dst (.slice a' m c')) w') : wpList P ops Q (o :: rest) a w := by
  rcases hsrc with ⟨rfl, rfl, rfl, rfl⟩ | ⟨ad, rfl, hc⟩
  · obtain ⟨i, hi, hz0, hz1, hz2⟩ := info_parts T.inf
    exact wpList_append_own_none hgd s x t ho w.heap.size e i size T.und hi (.slice none 0 0) 0 [] hs (World.ownsRow_nil _ _ _ _) hx (h none 0 w (World.ownsRow_nil _ _ _ _) ⟨rfl, rfl, rfl, Nat.le_refl _, fun _ _ _ => rfl⟩)
  · refine L_appendN hgd s x t ho T w.heap.size (.slice none 0 0) 0 [] hs (World.ownsRow_nil _ _ _ _) ad m c l hx hl hc h1 (by simpa using hb) (by simpa using hm) (Nat.le_refl _) fun a' c' w' h2 h3 _ => ?_
    rw [Nat.zero_add] at h2 ⊢
    rw [List.nil_append] at h2
    exact h a' c' w' h2 h3
end
theorem own_low {w w' : World} {B e s n g : Nat} {v : Value} {xs : List Value} (h : w.ownsRow B e s v n xs) (hb : Below g w w') (hlt : ∀ q, v.ownBlock = some q → q < g) : w'.ownsRow B e s v n xs := by
  refine ⟨h.1, ?_⟩
  rcases h.2 with hn | ⟨g', cap, cur, rfl, hb', hgg, rest⟩
  · exact .inl hn
  · refine .inr ⟨g', cap, cur, rfl, hb', ?_, rest⟩
    rw [hb.block g' (hlt g' rfl)]
    exact hgg
theorem own_blk {w : World} {B e s g n c : Nat} {xs : List Value} (h : w.ownsRow B e s (.slice (some ⟨g, 0, none⟩) n c) n xs) : B ≤ g ∧ ∃ cur, w.heap[g]? = some (.cells cur e (0, 0)) := by
  rcases h.2 with h | ⟨g', cap, cur, hv, hb, hg, r⟩
  · obtain ⟨h, _⟩ := h; cases h
  · simp only [Value.slice.injEq, Option.some.injEq, Addr.mk.injEq] at hv
    obtain ⟨⟨rfl, _⟩, _⟩ := hv
    exact ⟨hb, cur, hg⟩
theorem own_blt {w : World} {B e s g n c : Nat} {xs : List Value} (h : w.ownsRow B e s (.slice (some ⟨g, 0, none⟩) n c) n xs) : g < w.heap.size := by
  obtain ⟨_, cur, hc⟩ := own_blk h
  exact (Array.getElem?_eq_some_iff.1 hc).1
/-- A read of a drawn region is taken. -/
theorem tkH {P : Program} {md : Region.Mode} {ops : Array Oper} {Q : Exit → Act → World → Prop} {S : World → Prop} {i : Nat} {oi : Oper} {v : Value} {fuel : Nat} {listed : Array Bool} {a : Act} {w : World} (hi : ops[i]? = some oi) (hy : YieldsIf P ops S oi v a)
    (h : wpAnyH P md ops Q S fuel (listed.setIfInBounds i true) (a.put oi.dst v) w) (hs : Region.noSelect ops = true := by kernel_rfl) (hf : Region.free md ops listed i = true := by kernel_rfl) (hr : (Region.ready md ops listed).contains i = true := by kernel_rfl)
    (hQ : ∀ c a w, Q (.panic c) (a.put oi.dst v) w → Q (.panic c) a w := by exact fun _ _ _ h => h) (hS : S w := by assumption) : wpAnyH P md ops Q S (fuel + 1) listed a w := wpAnyH_take hi hs hf hr hQ hy hS h
theorem tkI {P : Program} {md : Region.Mode} {ops : Array Oper} {Q : Exit → Act → World → Prop} {S : World → Prop} {i : Nat} {oi : Oper} {v : Value} {fuel : Nat} {listed : Array Bool} {a : Act} {w : World} (hi : ops[i]? = some oi) (hy : ∀ w, S w → (execOp a.eval oi).run P w = .ok (.value v) w)
    (h : wpAnyH P md ops Q S fuel (listed.setIfInBounds i true) (a.put oi.dst v) w) (hw : Region.wanted oi (yielded ops a.tmps) = true := by rfl) (hs : Region.noSelect ops = true := by kernel_rfl) (hf : Region.free md ops listed i = true := by kernel_rfl) (hr : (Region.ready md ops listed).contains i = true := by kernel_rfl)
    (hQ : ∀ c a w, Q (.panic c) (a.put oi.dst v) w → Q (.panic c) a w := by exact fun _ _ _ h => h) (hS : S w := by assumption) : wpAnyH P md ops Q S (fuel + 1) listed a w := wpAnyH_take hi hs hf hr hQ (.inl ⟨hw, hy⟩) hS h
end Go.Proofs.YteoggphafhcchaaGreat
