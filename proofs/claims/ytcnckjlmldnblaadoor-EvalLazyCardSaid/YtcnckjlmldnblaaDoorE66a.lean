import Derived.Test.YtcnckjlmldnblaaDoorE61
import Derived.Test.YtcnckjlmldnblaaDoorE65
import Derived.Test.YtcnckjlmldnblaaDoorE49a
import Derived.BigGuardPart
import Derived.IntWalk
import Derived.ArgAppend
namespace Go.Proofs.YtcnckjlmldnblaaDoor
open Go Go.RowKit
set_option linter.unusedVariables false
set_option linter.unusedSimpArgs false
section
variable {P : Program} {w : World} {ops : Array Oper} {rest : List Oper} {o : Oper} {a : Act} {Q : Exit → Act → World → Prop}
/-- An append onto a slice that has no room. -/
theorem L_grow (hgd : o.guard = none) (s x : Operand) (t : TypeId) (ho : o.op = .call { callee := .builtin .append, args := #[s, x], argTypes := #[t, t] })
    {e : TypeId} {z : Value} {size bytes : Nat} (T : Sl P t e z size bytes) (sa : Addr) (n cap : Nat) (olds : List Value) (hs : a.eval s = .slice (some sa) n cap) (hlo : olds.length = n * size) (holds : ∀ j u, olds[j]? = some u → w.cell? (sa.add j) = some u)
    (ad : Addr) (m c : Nat) (l : List Value) (hx : a.eval x = .slice (some ad) m c) (hl : l.length = m * size) (hr : ∀ j u, l[j]? = some u → w.cell? (ad.add j) = some u) (h1 : ∀ u ∈ l, u.oneCell' = true) (hfull : cap < n + m) (hb : (n + m) * bytes ≤ 140737488355328) (hm : n + m ≤ maxLen)
    (h : ∀ a' c' w', w'.ownsRow w.heap.size e size (.slice a' (n + m) c') (n + m) (olds ++ l) → w.grownBy w' none → wpList P ops Q rest (a.put o.dst (.slice a' (n + m) c')) w') : wpList P ops Q (o :: rest) a w := by
  obtain ⟨i, hi, hz0, hz1, hz2⟩ := info_parts T.inf
  refine wpList_append_grows w hgd s x t ho e i z size bytes T.und hi hz0 hz1 hz2 T.zs T.pos (some sa) n cap olds hs (fun h => by cases h) hlo (fun b hb j u hj => by cases hb; exact holds j u hj) ad m c l hx hl hr h1 hfull hm hb fun v' w' h2 h3 => ?_
  obtain ⟨a', c', rfl, _⟩ := owns_shape h2
  exact h a' c' w' h2 h3
end
noncomputable def z8 : Code := headSeq (headSeq (dropSeq 8 (Tryd.f6.body.getD .skip)))
noncomputable def z8b : Code := dropSeq 1 (headSeq (dropSeq 8 (Tryd.f6.body.getD .skip)))
noncomputable def z9 : Code := dropSeq 9 (Tryd.f6.body.getD .skip)
noncomputable def z12 : Code := headSeq (headSeq (dropSeq 12 (Tryd.f6.body.getD .skip)))
noncomputable def z12b : Code := dropSeq 1 (headSeq (dropSeq 12 (Tryd.f6.body.getD .skip)))
noncomputable def z13 : Code := dropSeq 13 (Tryd.f6.body.getD .skip)
/-- What stands while the law's last part goes on. -/
structure LzS (w W : World) (L : List Nd) (la : Addr) (lc K : Nat) (pp : Pd) (gx : Nat) (x : Vl) (ax : Option Addr) (cx : Nat) : Prop where
  b : Below w.heap.size w W
  t : ResTab W 1
  h : 1 < W.heap.size
  r : RS 7 Nd.cs W (some la) (K + 1) lc L
  n : ∀ nd ∈ L, NdW W nd
  p : pp.ok W
  g : W.heap[gx]? = some (boxS x ax x.ss.length cx)
  s : RS 1 Sv W ax x.ss.length cx x.ss
  k : K ≤ 10000
theorem LzS.below {w W W' : World} {L : List Nd} {la : Addr} {lc K : Nat} {pp : Pd} {gx : Nat} {x : Vl} {ax : Option Addr} {cx : Nat} (h : LzS w W L la lc K pp gx x ax cx) (hb : Below W.heap.size W W') : LzS w W' L la lc K pp gx x ax cx :=
  ⟨h.b.trans (hb.mono h.b.size), h.t.below hb h.h h.h, by have := hb.size; have := h.h; omega, h.r.below hb, fun nd hm => (h.n nd hm).below hb, h.p.below hb, (hb.block _ (Array.getElem?_eq_some_iff.1 h.g).1).trans h.g, h.s.below hb, h.k⟩
theorem cells_at {w : World} {a : Addr} {c n : Nat} {ns : List Nd} (h : RS 7 Nd.cs w (some a) n c ns) : ∀ j u, (ns.flatMap Nd.cs)[j]? = some u → w.cell? (a.add j) = some u := fun j u hj => h.cells Nd_len2 (by decide) rfl j u hj
theorem grown0 {w w' : World} {o p : Obj} (h : ((w.alloc o).alloc p).grownBy w' none) : Below w.heap.size w w' := (bel2 w o p).grown h (by simp; omega) (fun k hk => by cases hk)
theorem iv_row {w w' : World} {l : List Int} {o : Obj} (h : ((w.alloc (.cells (l.map (Value.int .i64)).toArray 3)).alloc o).grownBy w' none) (hl : l.length ≤ 3) : RS 1 Iv w' (some ⟨w.heap.size, 0, none⟩) l.length l.length l := by
  have hh : w'.heap[w.heap.size]? = some (.cells (l.map (Value.int .i64)).toArray 3 (0, 0)) := (h.block _ (by simp; omega) (by simp)).trans (heap_alloc2_old w _ _)
  refine ⟨rfl, Nat.le_refl _, by omega, fun i x hx => ⟨_, _, rfl, fun j v hv => ?_⟩⟩
  cases j with
  | zero =>
    simp only [Iv, List.getElem?_cons_zero, Option.some.injEq] at hv
    subst hv
    rw [cell_of_row _ _ _ _ _ _ hh]
    simp [hx]
  | succ j => simp [Iv] at hv
/-- The operator's node, the second place told by one letter. -/
def ndK (op : Int) (q K : Nat) (ka : Option Addr) (kc : Nat) : Nd := ⟨op, ByteArray.empty, 0, 0, ByteArray.empty, none, 0, 0, ka, 2, kc, [(q : Int), (K : Int)]⟩
theorem ndK_eq {op : Int} {q K M : Nat} {ka : Option Addr} {kc : Nat} (h : K = q + M) : ndK op q K ka kc = nd2 op q M ka kc := by subst h; rfl
theorem ndK_w {w w' : World} {op : Int} {q K : Nat} {o : Obj} (h : ((w.alloc (.cells #[.int .i64 (q : Int), .int .i64 (K : Int)] 3)).alloc o).grownBy w' none) : NdW w' (ndK op q K (some ⟨w.heap.size, 0, none⟩) 2) :=
  ⟨⟨iv_row (l := [(q : Int), (K : Int)]) h (by simp), (show ByteArray.empty.size ≤ maxLen by unfold maxLen; decide), by simp [ndK]⟩, [], rs_nil1 w', fun _ => rfl⟩
theorem Two2.small {ns ms L : List Nd} {q : Nat} {v : Vw} (h : Two2 ns ms L q v) : ∀ nd ∈ L, nd.kl ≤ 1000000 := fun nd hm => by
  have hb : nd.bare ∈ L.map Nd.bare := List.mem_map.2 ⟨nd, hm, rfl⟩
  rw [h.l] at hb
  obtain ⟨nd0, h0, he⟩ := List.mem_map.1 hb
  have e : nd0.kl = nd.kl := (congrArg Nd.kl he : nd0.bare.kl = nd.bare.kl)
  rw [← e]
  rcases List.mem_append.1 h0 with h0 | h0
  · exact h.s1 _ (List.mem_of_mem_take h0)
  · obtain ⟨nd1, h1, rfl⟩ := List.mem_map.1 h0
    exact h.s2 nd1 h1
/-- What the worth of the nodes with one or two more asks. -/
theorem LzS.env {w W W' : World} {L : List Nd} {la : Addr} {lc K : Nat} {pp : Pd} {gx : Nat} {x : Vl} {ax : Option Addr} {cx : Nat} (h : LzS w W L la lc K pp gx x ax cx) (hb : Below W.heap.size W W') {a : Option Addr} {c n m : Nat} {tl : List Nd} (ho : W'.ownsRow m 61 7 (.slice a n c) n (L.flatMap Nd.cs ++ tl.flatMap Nd.cs)) (hn : n ≤ 20000) (ht : ∀ nd ∈ tl, NdW W' nd) :
    EnvW W' a n c (L ++ tl) pp :=
  ⟨RS.of_owns (by rw [List.flatMap_append]; exact ho) (by decide) Nd_len2 (by omega), fun nd hm => (List.mem_append.1 hm).elim (fun h' => (h.n nd h').below hb) (ht nd), h.p.below hb⟩
theorem env_kids {W : World} {ns : List Nd} (h : ∀ nd ∈ ns, NdW W nd) : ∀ nd ∈ ns, nd.ks.length = nd.kl ∧ I64 nd.vn := fun nd hm => ⟨(ok_k (h nd hm).ok).1, ok_i (h nd hm).ok⟩
theorem env_small {L tl : List Nd} (h : ∀ nd ∈ L, nd.kl ≤ 1000000) (ht : ∀ nd ∈ tl, nd.kl ≤ 1000000) (r : Int) : ∀ (i : Nat) (nd : Nd), (i : Int) ≤ r → (L ++ tl)[i]? = some nd → nd.kl ≤ 1000000 := fun i nd _ hi => (List.mem_append.1 (List.mem_of_getElem? hi)).elim (h nd) (ht nd)
end Go.Proofs.YtcnckjlmldnblaaDoor
