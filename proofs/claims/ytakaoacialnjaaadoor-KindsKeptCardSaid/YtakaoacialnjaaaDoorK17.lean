import Derived.Test.YtakaoacialnjaaaDoorK16
import Derived.Maps.AppendAt
namespace Go.Proofs.YtakaoacialnjaaaDoor
open Go Go.RowKit
set_option linter.unusedVariables false
theorem owns_shape {w : World} {base e size : Nat} {v : Value} {n : Nat} {xs : List Value} (h : w.ownsRow base e size v n xs) :
    ∃ a c, v = .slice a n c ∧ (0 < n → ∃ g, a = some ⟨g, 0, none⟩ ∧ base ≤ g ∧ g < w.heap.size) := by
  rcases h.2 with ⟨rfl, rfl⟩ | ⟨g, cap, cur, rfl, hb, hh, _⟩
  · exact ⟨none, 0, rfl, fun h => by omega⟩
  · exact ⟨_, _, rfl, fun _ => ⟨g, rfl, hb, (Array.getElem?_eq_some_iff.1 hh).1⟩⟩

theorem owns_mono {w : World} {B B' e size : Nat} {v : Value} {n : Nat} {xs : List Value} (h : w.ownsRow B e size v n xs) (hb : B' ≤ B) : w.ownsRow B' e size v n xs := by
  refine ⟨h.1, ?_⟩
  rcases h.2 with h | ⟨g, cap, cur, hv, hg, r⟩
  · exact .inl h
  · exact .inr ⟨g, cap, cur, hv, Nat.le_trans hb hg, r⟩
section
variable {P : Program} {w : World} {ops : Array Oper} {rest : List Oper} {o : Oper} {a : Act} {Q : Exit → Act → World → Prop}
/-- append(v, src...), v owned, src a slice whose cells are known. -/
theorem W_appendN {K : Act → World → Prop} (s x : Operand) (t : TypeId) (ho : o.op = .call { callee := .builtin .append, args := #[s, x], argTypes := #[t, t] })
    {e : TypeId} {z : Value} {size bytes : Nat} (T : Sl P t e z size bytes) (base : Nat) (v : Value) (n : Nat) (xs : List Value) (hs : a.eval s = v) (hown : w.ownsRow base e size v n xs)
    (ad : Addr) (m c : Nat) (l : List Value) (hx : a.eval x = .slice (some ad) m c) (hl : l.length = m * size) (hr : ∀ j u, l[j]? = some u → w.cell? (ad.add j) = some u) (h1 : ∀ u ∈ l, u.oneCell' = true) (hb : (n + m) * bytes ≤ 140737488355328) (hm : n + m ≤ maxLen) (hbase : base ≤ w.heap.size)
    (h : ∀ a' c' w', w'.ownsRow base e size (.slice a' (n + m) c') (n + m) (xs ++ l) → w.grownBy w' v.ownBlock → ((Value.slice a' (n + m) c').ownBlock = v.ownBlock ∨ (Value.slice a' (n + m) c').ownBlock = some w.heap.size) → K (a.put o.dst (.slice a' (n + m) c')) w') : o.wp P a w K Q := by
  obtain ⟨i, hi, hz0, hz1, hz2⟩ := info_parts T.inf
  obtain ⟨v', w', hr2, h2, h3, _, h5⟩ := run_append_own_at (P := P) w base t o.type e i z size bytes T.und hi hz0 hz1 hz2 T.zs T.pos v n xs hown ad m c l hl hr h1 hm hb hbase
  unfold Oper.wp execOp
  simp only [ho, resolve, invoke, builtin, Sem.run_bind, Sem.run_pure, Result.andThen_ok, List.map_toArray, List.map_cons, List.map_nil, hs, hx, hr2]
  obtain ⟨a', c', rfl, _⟩ := owns_shape h2
  exact h a' c' w' h2 h3 h5
theorem L_appendN (hgd : o.guard = none) (s x : Operand) (t : TypeId) (ho : o.op = .call { callee := .builtin .append, args := #[s, x], argTypes := #[t, t] })
    {e : TypeId} {z : Value} {size bytes : Nat} (T : Sl P t e z size bytes) (base : Nat) (v : Value) (n : Nat) (xs : List Value) (hs : a.eval s = v) (hown : w.ownsRow base e size v n xs)
    (ad : Addr) (m c : Nat) (l : List Value) (hx : a.eval x = .slice (some ad) m c) (hl : l.length = m * size) (hr : ∀ j u, l[j]? = some u → w.cell? (ad.add j) = some u) (h1 : ∀ u ∈ l, u.oneCell' = true) (hb : (n + m) * bytes ≤ 140737488355328) (hm : n + m ≤ maxLen) (hbase : base ≤ w.heap.size)
    (h : ∀ a' c' w', w'.ownsRow base e size (.slice a' (n + m) c') (n + m) (xs ++ l) → w.grownBy w' v.ownBlock → ((Value.slice a' (n + m) c').ownBlock = v.ownBlock ∨ (Value.slice a' (n + m) c').ownBlock = some w.heap.size) → wpList P ops Q rest (a.put o.dst (.slice a' (n + m) c')) w') : wpList P ops Q (o :: rest) a w :=
  wpList_plain hgd fun _ hK => W_appendN s x t ho T base v n xs hs hown ad m c l hx hl hr h1 hb hm hbase fun a' c' w' h2 h3 h4 => hK _ _ (h a' c' w' h2 h3 h4)
theorem S_appendN {K : Act → World → Prop} {E : Prop} (hgd : o.guard = none) (s x : Operand) (t : TypeId) (ho : o.op = .call { callee := .builtin .append, args := #[s, x], argTypes := #[t, t] })
    {e : TypeId} {z : Value} {size bytes : Nat} (T : Sl P t e z size bytes) (base : Nat) (v : Value) (n : Nat) (xs : List Value) (hs : a.eval s = v) (hown : w.ownsRow base e size v n xs)
    (ad : Addr) (m c : Nat) (l : List Value) (hx : a.eval x = .slice (some ad) m c) (hl : l.length = m * size) (hr : ∀ j u, l[j]? = some u → w.cell? (ad.add j) = some u) (h1 : ∀ u ∈ l, u.oneCell' = true) (hb : (n + m) * bytes ≤ 140737488355328) (hm : n + m ≤ maxLen) (hbase : base ≤ w.heap.size)
    (h : ∀ a' c' w', w'.ownsRow base e size (.slice a' (n + m) c') (n + m) (xs ++ l) → w.grownBy w' v.ownBlock → ((Value.slice a' (n + m) c').ownBlock = v.ownBlock ∨ (Value.slice a' (n + m) c').ownBlock = some w.heap.size) → K (a.put o.dst (.slice a' (n + m) c')) w') :
    if Region.wanted o (yielded ops a.tmps) = true then Oper.wp P o a w K Q else E := by
  rw [if_pos (by simp [Region.wanted, hgd])]
  exact W_appendN s x t ho T base v n xs hs hown ad m c l hx hl hr h1 hb hm hbase h
end
theorem flat_len {α : Type} (enc : α → List Value) (s : Nat) (he : ∀ x, (enc x).length = s) (xs : List α) : (xs.flatMap enc).length = xs.length * s := by
  induction xs with
  | nil => simp
  | cons x t ih => simp [List.flatMap_cons, he, ih, Nat.add_mul]; omega
theorem flat_get {α : Type} (enc : α → List Value) (s : Nat) (he : ∀ x, (enc x).length = s) (xs : List α) : ∀ (i : Nat) (x : α), xs[i]? = some x → ∀ j v, (enc x)[j]? = some v → (xs.flatMap enc)[i * s + j]? = some v := by
  induction xs with
  | nil => intro i x h; simp at h
  | cons y t ih =>
    intro i x h j v hv
    have hj : j < s := by rw [← he x]; exact (List.getElem?_eq_some_iff.1 hv).1
    cases i with
    | zero =>
      simp at h
      subst h
      rw [List.flatMap_cons, Nat.zero_mul, Nat.zero_add, List.getElem?_append_left (by rw [he]; exact hj), hv]
    | succ i =>
      simp only [List.getElem?_cons_succ] at h
      rw [List.flatMap_cons, List.getElem?_append_right (by rw [he, Nat.add_mul]; omega), he, show (i + 1) * s + j - s = i * s + j by rw [Nat.add_mul]; omega]
      exact ih i x h j v hv
theorem RS.of_owns {α : Type} {s : Nat} {enc : α → List Value} {w : World} {base e : Nat} {a : Option Addr} {n c : Nat} {xs : List α} (h : w.ownsRow base e s (.slice a n c) n (xs.flatMap enc)) (hs : 0 < s) (he : ∀ x, (enc x).length = s) (hn : n ≤ 281474976710656) : RS s enc w a n c xs := by
  have hl : xs.length = n := by
    have := h.1
    rw [flat_len enc s he] at this
    exact Nat.eq_of_mul_eq_mul_right hs this
  rcases h.2 with ⟨hv, h0⟩ | ⟨g, cap, cur, hv, hg, hh, hnc, hcm, hcs, htk⟩
  · obtain ⟨rfl, rfl, rfl⟩ := Value.slice.inj hv
    refine ⟨hl, Nat.le_refl _, by omega, fun i x hx => ?_⟩
    have := (List.getElem?_eq_some_iff.1 hx).1
    omega
  · obtain ⟨rfl, -, rfl⟩ := Value.slice.inj hv
    refine ⟨hl, hnc, hn, fun i x hx => ⟨g, 0, rfl, fun j v hv => ?_⟩⟩
    have hi := (List.getElem?_eq_some_iff.1 hx).1
    have hj : j < s := by rw [← he x]; exact (List.getElem?_eq_some_iff.1 hv).1
    have h1 := flat_get enc s he xs i x hx j v hv
    have hlt : i * s + j < n * s := by
      have : (i + 1) * s ≤ n * s := Nat.mul_le_mul_right s (by omega)
      rw [Nat.add_mul] at this; omega
    rw [cell_of_row w g _ cur e (0, 0) hh, Nat.zero_add]
    rw [← htk, List.getElem?_take, if_pos hlt] at h1
    simpa using h1
theorem Kd_len (k : Int × Bool) : (Kd k).length = 2 := rfl
theorem sl22 : Sl Tryd.prog 22 30 (.agg #[.int .i64 0, .bool false]) 2 16 := ⟨by kernel_rfl, by kernel_rfl, rfl, by decide⟩
/-- The kinds of the nodes from the i-th on, or the first that has none. -/
def ofF (sc : List Nm) : Nat → List (Int × Bool) → List Nd → List (Int × Bool) × Nat × Int
  | _, ks, [] => (ks, 0, 0)
  | i, ks, n :: t => if (lookK sc ks n.op n.nm.toList (n.ks.map Int.toNat)).2 = 0 then ofF sc (i + 1) (ks ++ [(lookK sc ks n.op n.nm.toList (n.ks.map Int.toNat)).1]) t
    else ([], i, (lookK sc ks n.op n.nm.toList (n.ks.map Int.toNat)).2)
/-- What Of answers. -/
def ofK (ns : List Nd) (sc : List Nm) : List (Int × Bool) × Nat × Int := if treesB ns = true then ofF sc 0 [] ns else ([], 0, 8)
theorem kidsF_ok (i : Nat) (l : List Int) : ∀ (s s' : List Bool), kidsF i s l = some s' → ∀ k ∈ l, 0 ≤ k ∧ k < (i : Int) := by
  induction l with
  | nil => intro s s' h k hk; simp at hk
  | cons x t ih =>
    intro s s' h k hk
    simp only [kidsF] at h
    split at h
    · cases h
    · split at h
      · cases h
      · rcases List.mem_cons.1 hk with rfl | hk
        · omega
        · exact ih _ _ h k hk
theorem treesF_ok (ns : List Nd) : ∀ (i : Nat) (s : List Bool), treesF i s ns = true → ∀ j nd, ns[j]? = some nd → nd.right = true ∧ ∀ k ∈ nd.ks, 0 ≤ k ∧ k < ((i + j : Nat) : Int) := by
  induction ns with
  | nil => intro i s h j nd hj; simp at hj
  | cons n t ih =>
    intro i s h j nd hj
    simp only [treesF] at h
    split at h
    · rename_i hr
      cases hk : kidsF i s n.ks with
      | none => rw [hk] at h; cases h
      | some s' =>
        rw [hk] at h
        cases j with
        | zero => simp at hj; subst hj; exact ⟨hr, kidsF_ok i _ _ _ hk⟩
        | succ j =>
          simp only [List.getElem?_cons_succ] at hj
          have := ih (i + 1) s' h j nd hj
          rwa [show i + 1 + j = i + (j + 1) by omega] at this
    · cases h
theorem treesB_ok {ns : List Nd} (h : treesB ns = true) (j : Nat) (nd : Nd) (hj : ns[j]? = some nd) : nd.right = true ∧ ∀ k ∈ nd.ks, 0 ≤ k ∧ k < (j : Int) := by
  have := treesF_ok ns 0 _ h j nd hj
  rwa [Nat.zero_add] at this
end Go.Proofs.YtakaoacialnjaaaDoor
