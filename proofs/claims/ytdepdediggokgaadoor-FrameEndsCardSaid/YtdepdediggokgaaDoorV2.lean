/-
  Rows of one-cell values that the call owns from some place of their block on: what 'x = x[1:]' leaves, and append onto it. Over any program. No statement is proved here.
-/
import Derived.Test.YtdepdediggokgaaDoorV1
namespace Go.Proofs.YtdepdediggokgaaDoor
open Go Go.RowKit

def OwA (w : World) (B e : Nat) (v : Value) (xs : List Value) : Prop :=
  (v = .slice none 0 0 ∧ xs = []) ∨ ∃ g off cap cur, v = .slice (some ⟨g, off, none⟩) xs.length cap ∧ B ≤ g ∧ w.heap[g]? = some (.cells cur e (0, 0)) ∧ xs.length ≤ cap ∧ cap ≤ maxLen ∧ cur.size = off + cap ∧ (cur.toList.drop off).take xs.length = xs
theorem OwA.nil (w : World) (B e : Nat) : OwA w B e (.slice none 0 0) [] := .inl ⟨rfl, rfl⟩
theorem OwA.lt {w : World} {B e : Nat} {v : Value} {xs : List Value} (h : OwA w B e v xs) : ∀ k, v.ownBlock = some k → B ≤ k ∧ k < w.heap.size ∧ ∃ cur, w.heap[k]? = some (.cells cur e (0, 0)) := by
  intro k hk
  rcases h with ⟨rfl, _⟩ | ⟨g, off, cap, cur, rfl, hb, hg, _⟩
  · simp [Value.ownBlock] at hk
  · simp [Value.ownBlock] at hk
    subst hk
    exact ⟨hb, (Array.getElem?_eq_some_iff.1 hg).1, cur, hg⟩
theorem OwA.kept {w w' : World} {B e : Nat} {v : Value} {xs : List Value} (h : OwA w B e v xs) (hk : ∀ k, v.ownBlock = some k → w'.heap[k]? = w.heap[k]?) : OwA w' B e v xs := by
  rcases h with h | ⟨g, off, cap, cur, rfl, hb, hg, r⟩
  · exact .inl h
  · exact .inr ⟨g, off, cap, cur, rfl, hb, (hk g rfl).trans hg, r⟩
theorem OwA.rv {w : World} {B e : Nat} {v : Value} {xs : List Value} (h : OwA w B e v xs) (hn : xs.length ≤ 281474976710656) : ∃ a c, v = .slice a xs.length c ∧ RV w a xs.length c xs := by
  rcases h with ⟨rfl, rfl⟩ | ⟨g, off, cap, cur, rfl, hb, hg, hc, hm, hs, ht⟩
  · exact ⟨none, 0, rfl, RV.nil _ _⟩
  · refine ⟨_, cap, rfl, rfl, hc, hn, fun i hi => ⟨g, off, rfl, ?_⟩⟩
    rw [cell_of_row w g _ cur e (0, 0) hg]
    have : ((cur.toList.drop off).take xs.length)[i]? = xs[i]? := by rw [ht]
    rw [List.getElem?_take, if_pos hi, List.getElem?_drop] at this
    simpa [hi] using this
theorem OwA.tail {w : World} {B e : Nat} {a : Option Addr} {n c : Nat} {x : Value} {xs : List Value} (h : OwA w B e (.slice a n c) (x :: xs)) (h2 : 0 < xs.length) : OwA w B e (.slice (dropA a 1 c) (n - 1) (c - 1)) xs := by
  rcases h with ⟨_, h⟩ | ⟨g, off, cap, cur, hv, hb, hg, hc, hm, hs, ht⟩
  · cases h
  · obtain ⟨rfl, rfl, rfl⟩ := Value.slice.inj hv
    simp only [List.length_cons] at hc ht ⊢
    refine .inr ⟨g, off + 1, c - 1, cur, ?_, hb, hg, by omega, by omega, by omega, ?_⟩
    · rw [dropA, if_neg (by omega)]; simp [Addr.add_lit]
    · have h3 := congrArg (List.drop 1) ht
      rw [List.drop_take, List.drop_drop] at h3
      simpa using h3

section
variable {P : Program} (w : World)
theorem run_append_A (base t ty e : Nat) {z : Value} {bytes : Nat} (T : Sl P t e z 1 bytes) (v : Value) (xs : List Value) (hown : OwA w base e v xs)
    (ad : Addr) (m c : Nat) (news : List Value) (hl : news.length = m) (hnews : ∀ j u, news[j]? = some u → w.cell? (ad.add j) = some u) (h1 : ∀ u ∈ news, u.oneCell' = true) (hm : 0 < m)
    (hb : (xs.length + m) * bytes ≤ 140737488355328) (h63 : xs.length + m ≤ maxLen) (hbase : base ≤ w.heap.size) :
    ∃ a' c' w', (Builtin.append_ #[t, t] ty #[v, .slice (some ad) m c]).run P w = .ok (.slice (some a') (xs.length + m) c') w' ∧ OwA w' base e (.slice (some a') (xs.length + m) c') (xs ++ news) ∧ w.grownBy w' v.ownBlock ∧
      (some a'.block = v.ownBlock ∨ a'.block = w.heap.size) := by
  obtain ⟨i, hi, hz0, hz1, hz2⟩ := info_parts T.inf
  rcases hown with ⟨rfl, rfl⟩ | ⟨g, off, cap, cur, rfl, hbg, hg, hc, hcm, hs, ht⟩
  · obtain ⟨v', w', hr2, h2, h3, _, h5⟩ := run_append_own_at (P := P) w base t ty e i z 1 bytes T.und hi hz0 hz1 hz2 T.zs T.pos (.slice none 0 0) 0 [] (World.ownsRow_nil _ _ _ _) ad m c news (by simp [hl]) hnews h1 (by simpa using h63) (by simpa using hb) hbase
    simp only [Nat.zero_add, List.nil_append, List.length_nil] at h2 hr2 ⊢
    rcases h2.2 with ⟨_, h0⟩ | ⟨g, cap, cur, rfl, hbg, hg, hnc, hcm, hcs, ht⟩
    · omega
    · refine ⟨_, _, w', hr2, .inr ⟨g, 0, cap, cur, by rw [hl], hbg, hg, by omega, hcm, by omega, by simpa [hl] using ht⟩, h3, ?_⟩
      rcases h5 with h5 | h5
      · simp [Value.ownBlock] at h5
      · exact .inr (by simpa [Value.ownBlock] using h5)
  · have hsmall : xs.length + m ≤ 9223372036854775807 := by simp only [maxLen] at h63; omega
    by_cases hroom : xs.length + m ≤ cap
    · have hf := run_firstCells_some (P := P) w i.size m ad m c news (by rw [hz1, hl]; omega) hnews
      have hst := run_storeCells_at P g (off + xs.length) e news 0 cur w hg (by omega) h1
      simp only [Nat.add_zero] at hst
      refine ⟨⟨g, off, none⟩, cap, w.setRow g (cur.toList.take (off + xs.length) ++ news ++ cur.toList.drop (off + xs.length + news.length)).toArray, ?_, .inr ⟨g, off, cap, _, by rw [List.length_append, hl], hbg, setRow_heap w g cur _ e _ hg, by rw [List.length_append]; omega, hcm, ?_, ?_⟩, ⟨rfl, rfl, rfl, by simp, fun k _ hk => setRow_other w g k _ (fun e => hk (by simp [Value.ownBlock, e]))⟩, .inl rfl⟩
      · rw [hz1] at hf
        simp [Builtin.append_, run_underlying T.und, sizeOf, typeInfo, hi, Builtin.lenOf, hroom, hf, Addr.add_lit, hz1, hst]
      · simp only [List.size_toArray, List.length_append, List.length_take, List.length_drop, Array.length_toList]
        omega
      · have e1 : (List.take (off + xs.length) cur.toList).drop off = xs := by
          rw [List.drop_take, show off + xs.length - off = xs.length by omega]; exact ht
        rw [List.toList_toArray, List.append_assoc, List.drop_append_of_le_length (by simp; omega), e1, ← List.append_assoc, List.take_left]
    · have holds : ∀ j u, xs[j]? = some u → w.cell? ((⟨g, off, none⟩ : Addr).add j) = some u := by
        intro j u hu
        rw [Addr.add_lit, cell_of_row w g _ cur e (0, 0) hg]
        rw [← ht, List.getElem?_take] at hu
        split at hu
        · simpa [List.getElem?_drop] using hu
        · cases hu
      have hr := run_append_grow (P := P) w t ty e i z T.und hi hz0 ⟨g, off, none⟩ xs.length cap xs (by rw [hz1]; omega) holds ad m c news (by rw [hz1]; omega) hnews (by omega) (by omega) (by rw [hz2]; exact growslice_fits (by omega) hb)
      have hge := grownCap_ge w (xs.length + m) cap e
      have hcm2 : grownCap w (xs.length + m) cap e ≤ maxLen := grownCap_le_maxLen w _ cap e h63
      refine ⟨_, _, _, hr, .inr ⟨w.heap.size, 0, _, _, by rw [List.length_append, hl], hbase, heap_alloc_new w.drew _, by rw [List.length_append]; omega, hcm2, ?_, ?_⟩, ⟨rfl, rfl, rfl, by simp, fun k hk _ => heap_alloc_old w.drew _ hk⟩, .inr rfl⟩
      · simp only [Array.size_append, List.size_toArray, size_zeroCells, T.zs, hl]
        omega
      · simp only [Array.toList_append, List.drop_zero, List.append_assoc]
        rw [← List.append_assoc]
        exact List.take_left
end

section
variable {P : Program} {w : World} {ops : Array Oper} {rest : List Oper} {o : Oper} {a : Act} {Q : Exit → Act → World → Prop}
theorem W_appendA {K : Act → World → Prop} (s x : Operand) (t : TypeId) (ho : o.op = .call { callee := .builtin .append, args := #[s, x], argTypes := #[t, t] })
    {e : TypeId} {z : Value} {bytes : Nat} (T : Sl P t e z 1 bytes) (base : Nat) (v : Value) (xs : List Value) (hs : a.eval s = v) (hown : OwA w base e v xs)
    (ad : Addr) (c : Nat) (u : Value) (hx : a.eval x = .slice (some ad) 1 c) (hr : w.cell? ad = some u) (h1 : u.oneCell' = true) (hb : (xs.length + 1) * bytes ≤ 140737488355328) (hm : xs.length + 1 ≤ maxLen) (hbase : base ≤ w.heap.size)
    (h : ∀ a' c' w', OwA w' base e (.slice (some a') (xs.length + 1) c') (xs ++ [u]) → w.grownBy w' v.ownBlock → (some a'.block = v.ownBlock ∨ a'.block = w.heap.size) → K (a.put o.dst (.slice (some a') (xs.length + 1) c')) w') : o.wp P a w K Q := by
  obtain ⟨a', c', w', hr2, h2, h3, h5⟩ := run_append_A (P := P) w base t o.type e T v xs hown ad 1 c [u] rfl
    (by intro j y hj; match j, hj with | 0, hj => (simp at hj; subst hj; simpa [Addr.add] using hr)) (by simpa using h1) (by omega) hb hm hbase
  unfold Oper.wp execOp
  simp only [ho, resolve, invoke, builtin, Sem.run_bind, Sem.run_pure, Result.andThen_ok, List.map_toArray, List.map_cons, List.map_nil, hs, hx, hr2]
  exact h a' c' w' h2 h3 h5
theorem L_appendA (hgd : o.guard = none) (s x : Operand) (t : TypeId) (ho : o.op = .call { callee := .builtin .append, args := #[s, x], argTypes := #[t, t] })
    {e : TypeId} {z : Value} {bytes : Nat} (T : Sl P t e z 1 bytes) (base : Nat) (v : Value) (xs : List Value) (hs : a.eval s = v) (hown : OwA w base e v xs)
    (ad : Addr) (c : Nat) (u : Value) (hx : a.eval x = .slice (some ad) 1 c) (hr : w.cell? ad = some u) (h1 : u.oneCell' = true) (hb : (xs.length + 1) * bytes ≤ 140737488355328) (hm : xs.length + 1 ≤ maxLen) (hbase : base ≤ w.heap.size)
    (h : ∀ a' c' w', OwA w' base e (.slice (some a') (xs.length + 1) c') (xs ++ [u]) → w.grownBy w' v.ownBlock → (some a'.block = v.ownBlock ∨ a'.block = w.heap.size) → wpList P ops Q rest (a.put o.dst (.slice (some a') (xs.length + 1) c')) w') : wpList P ops Q (o :: rest) a w :=
  wpList_plain hgd fun _ hK => W_appendA s x t ho T base v xs hs hown ad c u hx hr h1 hb hm hbase fun a' c' w' h2 h3 h4 => hK _ _ (h a' c' w' h2 h3 h4)
theorem S_appendA {K : Act → World → Prop} {E : Prop} (hgd : o.guard = none) (s x : Operand) (t : TypeId) (ho : o.op = .call { callee := .builtin .append, args := #[s, x], argTypes := #[t, t] })
    {e : TypeId} {z : Value} {bytes : Nat} (T : Sl P t e z 1 bytes) (base : Nat) (v : Value) (xs : List Value) (hs : a.eval s = v) (hown : OwA w base e v xs)
    (ad : Addr) (c : Nat) (u : Value) (hx : a.eval x = .slice (some ad) 1 c) (hr : w.cell? ad = some u) (h1 : u.oneCell' = true) (hb : (xs.length + 1) * bytes ≤ 140737488355328) (hm : xs.length + 1 ≤ maxLen) (hbase : base ≤ w.heap.size)
    (h : ∀ a' c' w', OwA w' base e (.slice (some a') (xs.length + 1) c') (xs ++ [u]) → w.grownBy w' v.ownBlock → (some a'.block = v.ownBlock ∨ a'.block = w.heap.size) → K (a.put o.dst (.slice (some a') (xs.length + 1) c')) w') :
    if Region.wanted o (yielded ops a.tmps) = true then Oper.wp P o a w K Q else E := by
  rw [if_pos (by simp [Region.wanted, hgd])]
  exact W_appendA s x t ho T base v xs hs hown ad c u hx hr h1 hb hm hbase h
end
end Go.Proofs.YtdepdediggokgaaDoor
