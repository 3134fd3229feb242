import Derived.Test.YtcnckjlmldnblaaDoorT2
import Derived.Test.YtcnckjlmldnblaaDoorE54
import Derived.ProofKit
import Derived.OpenShut
import Derived.SliceStrings
import Derived.Deep.Slices
namespace Go.Proofs.YtcnckjlmldnblaaDoor
open Go Go.RowKit
set_option linter.unusedVariables false
set_option linter.unusedSimpArgs false
open Go.ChangeShapes Go.WideShapes Go.ChangeAt
theorem c35 : Tryd.prog.cellsOf 35 = 5 := by kernel_rfl
theorem c43 : Tryd.prog.cellsOf 43 = 5 := by kernel_rfl
theorem c33 : Tryd.prog.cellsOf 33 = 1 := by kernel_rfl
theorem by43 : Tryd.prog.bytesOf 43 = 72 := by kernel_rfl
theorem l5 {α : Type} {l : List α} (h : l.length = 5) : ∃ a b c d e, l = [a, b, c, d, e] := by
  match l, h with
  | [a, b, c, d, e], _ => exact ⟨a, b, c, d, e, rfl⟩
/-- A name with its value, as it is handed in. -/
def Bc.okA (W : World) (b : Bc) : Prop := RZ W b.v.a b.v.l b.v.c b.v.x.ss ∧ I64 b.v.x.n ∧ b.v.l ≤ 8796093022208
/-- A node as it is handed in. -/
def Nd.okA (W : World) (nd : Nd) : Prop := NdW W nd ∧ nd.sl ≤ 8796093022208
section
variable {H : Type} {enc : TypeId × Value → H} {W : World} {fuel : Nat}
theorem open_value {cs : List Value} {x : DataW H × List MemPlace} (h : DataW.trod enc Tryd.prog W 0 (fun _ => true) true fuel 25 cs = some x) (hl : cs.length = 4) (hw : ∀ n ∈ x.1.weights Tryd.prog 25, n ≤ reachBytes) :
    ∃ v : Vc, cs = v.cs ∧ RZ W v.a v.l v.c v.x.ss ∧ I64 v.x.n ∧ v.l ≤ 8796093022208 := by
  obtain ⟨ys, n', -, rfl, -, hyl, hf⟩ := DataW.trod_struct Tryd.underlying25 h
  obtain ⟨v2, v3, v4, v5, rfl⟩ := l4 hl
  obtain ⟨z0, z1, z2, z3, rfl⟩ := l4 hyl
  have g0 : DataW.trod enc Tryd.prog W 0 (fun _ => true) true n' 22 (([v2, v3, v4, v5].drop 0).take (Tryd.prog.cellsOf 22)) = some z0 := hf 0 _ rfl
  have g1 : DataW.trod enc Tryd.prog W 0 (fun _ => true) true n' 3 (([v2, v3, v4, v5].drop 1).take (Tryd.prog.cellsOf 3)) = some z1 := hf 1 _ rfl
  have g2 : DataW.trod enc Tryd.prog W 0 (fun _ => true) true n' 9 (([v2, v3, v4, v5].drop 2).take (Tryd.prog.cellsOf 9)) = some z2 := hf 2 _ rfl
  have g3 : DataW.trod enc Tryd.prog W 0 (fun _ => true) true n' 23 (([v2, v3, v4, v5].drop 3).take (Tryd.prog.cellsOf 23)) = some z3 := hf 3 _ rfl
  simp only [c28, c3, c9, c45, List.drop_zero, List.drop_succ_cons, List.take_succ_cons, List.take_zero, List.getElem?_cons_zero, List.getElem?_cons_succ, List.take_nil] at g0 g1 g2 g3
  obtain ⟨vk, e0, -, -⟩ := DataW.trod_int Tryd.underlying22 g0
  obtain ⟨vn, e1, -, w2⟩ := DataW.trod_int Tryd.underlying3 g1
  obtain ⟨vt, e2, -, -⟩ := DataW.trod_string Tryd.underlying9 g2
  obtain ⟨sa, sl, sc, ss, e3, k4, -, k5⟩ := open_textsM g3 (fun n hn => hw n (by simp only [List.map_cons, List.map_nil, DataW.weights, Tryd.underlying25, DataW.weightsEach, List.mem_append, List.append_nil]; exact Or.inr (Or.inr (Or.inr hn))))
  simp only [List.cons.injEq, and_true] at e0 e1 e2 e3
  subst e0 e1 e2 e3
  exact ⟨⟨⟨vk, vn, vt, ss⟩, sa, sl, sc⟩, rfl, k4, bounds_i64 w2, k5⟩
theorem open_bind {cs : List Value} {x : DataW H × List MemPlace} (h : DataW.trod enc Tryd.prog W 0 (fun _ => true) true fuel 43 cs = some x) (hw : ∀ n ∈ x.1.weights Tryd.prog 43, n ≤ reachBytes) :
    ∃ b : Bc, cs = b.cs ∧ b.okA W := by
  obtain ⟨ys, n', -, rfl, hl, hyl, hf⟩ := DataW.trod_struct Tryd.underlying43 h
  rw [c43] at hl
  obtain ⟨v0, v1, v2, v3, v4, rfl⟩ := l5 hl
  obtain ⟨y0, y1, rfl⟩ := l2 hyl
  have f0 : DataW.trod enc Tryd.prog W 0 (fun _ => true) true n' 9 (([v0, v1, v2, v3, v4].drop 0).take (Tryd.prog.cellsOf 9)) = some y0 := hf 0 _ rfl
  have f1 : DataW.trod enc Tryd.prog W 0 (fun _ => true) true n' 25 (([v0, v1, v2, v3, v4].drop 1).take (Tryd.prog.cellsOf 25)) = some y1 := hf 1 _ rfl
  simp only [c9, c47, List.drop_zero, List.drop_succ_cons, List.take_succ_cons, List.take_zero, List.getElem?_cons_zero, List.getElem?_cons_succ, List.take_nil] at f0 f1
  obtain ⟨nm, h1, -, -⟩ := DataW.trod_string Tryd.underlying9 f0
  obtain ⟨v, h2, h3⟩ := open_value f1 rfl (fun n hn => hw n (by simp only [List.map_cons, List.map_nil, DataW.weights, Tryd.underlying43, DataW.weightsEach, List.mem_append, List.append_nil]; exact Or.inr hn))
  simp only [List.cons.injEq, and_true, Vc.cs] at h1 h2
  obtain ⟨rfl, rfl, rfl, rfl⟩ := h2
  subst h1
  exact ⟨⟨nm, v⟩, rfl, h3⟩
theorem open_binds {cs : List Value} {x : DataW H × List MemPlace} (h : DataW.trod enc Tryd.prog W 0 (fun _ => true) true fuel 33 cs = some x) (hw : ∀ n ∈ x.1.weights Tryd.prog 33, n ≤ reachBytes) :
    ∃ a n c bs, cs = [.slice a n c] ∧ RS 5 Bc.cs W a n c bs ∧ (a = none → c = 0) ∧ (∀ b ∈ bs, b.okA W) ∧ n ≤ 8796093022208 := by
  rcases Go.Deep.open_slice Tryd.underlying33 h with ⟨rfl, _⟩ | ⟨a, len, cap, m, n, D, Pl, rfl, hb, hl, hm, hmm, rfl, hx⟩
  · exact ⟨none, 0, 0, [], rfl, ⟨rfl, Nat.le_refl _, by omega, fun i x h => by simp at h⟩, fun _ => rfl, fun nd h => (by simp at h), by omega⟩
  · simp only [if_true] at hmm
    have hmm' := hmm.symm
    subst hmm'
    rw [c43] at hx
    have hw0 := hw _ (by simp only [DataW.weights, Tryd.underlying33]; exact List.mem_cons_self)
    simp only [List.length_map, List.length_range, by43, reachBytes] at hw0
    have each : ∀ i, i < len → ∃ nd : Bc, (∀ j v, nd.cs[j]? = some v → W.cell? (a.add (i * 5 + j)) = some v) ∧ nd.okA W := by
      intro i hi
      obtain ⟨cs', h1, h2⟩ := hx i (by omega)
      obtain ⟨nd, rfl, hok⟩ := open_bind h2 (fun q hq => hw q (by
        simp only [DataW.weights, Tryd.underlying33, List.mem_cons, List.mem_append]
        exact Or.inr (Or.inl (weightsAll_mem (List.mem_map.2 ⟨i, List.mem_range.2 hi, rfl⟩) _ hq))))
      obtain ⟨_, h3, h4⟩ := World.cells?_some h1
      refine ⟨nd, fun j v hv => ?_, hok⟩
      have hj : j < 5 := by have := (List.getElem?_eq_some_iff.1 hv).1; rwa [h3] at this
      rw [← Go.Deep.add_add, h4 j hj, hv]
    haveI : Inhabited Bc := ⟨⟨ByteArray.empty, ⟨v0, none, 0, 0⟩⟩⟩
    obtain ⟨f, hf⟩ := Go.Deep.choose_lt each
    refine ⟨some a, len, cap, (List.range len).map f, rfl, ⟨by simp, hl, by omega, fun i nd hi => ?_⟩, (fun e => by cases e), fun nd hnd => ?_, by omega⟩
    · have hil : i < len := by have := (List.getElem?_eq_some_iff.1 hi).1; simpa using this
      obtain rfl : f i = nd := by simpa [hil] using hi
      obtain ⟨b, off, rfl⟩ := spot_row (W := W) (n := 1) (fun j hj => ⟨_, by have := (hf 0 (by omega)).1 0 _ rfl; simpa [show j = 0 by omega] using this⟩) (by omega)
      refine ⟨b, off, rfl, fun j v hv => ?_⟩
      have := (hf i hil).1 j v hv
      rwa [Addr.add_lit, ← Nat.add_assoc] at this
    · obtain ⟨i, hi, rfl⟩ := List.mem_map.1 hnd
      exact (hf i (List.mem_range.1 hi)).2
set_option maxRecDepth 100000 in
theorem open_view {r : Reach} {b0 : Nat} {v : Value} {d : DataW H} {p : List MemPlace} (hv : Value.okWide Tryd.prog W r b0 35 v) (h : DataW.Trod enc Tryd.prog W 0 (fun _ => true) true 35 v d p) (hw : ∀ n ∈ d.weights Tryd.prog 35, n ≤ reachBytes) :
    ∃ q : Pd, v = .agg q.cs ∧ VwArg W q := by
  obtain ⟨cs, rfl, hsz⟩ := okWide_struct Tryd.underlying35 hv
  rw [c35] at hsz
  obtain ⟨l⟩ := cs
  have hsz' : l.length = 5 := hsz
  clear hsz
  obtain ⟨v0, v1, v2, v3, v4, rfl⟩ := l5 hsz'
  obtain ⟨fuel, hf⟩ := h
  obtain ⟨ys, n', -, hx, -, hyl, hg⟩ := DataW.trod_struct Tryd.underlying35 hf
  simp only [Prod.mk.injEq] at hx
  obtain ⟨rfl, -⟩ := hx
  obtain ⟨y0, y1, y2, y3, y4, rfl⟩ := l5 hyl
  simp only [List.map_cons, List.map_nil, DataW.weights, Tryd.underlying35, DataW.weightsEach, List.mem_append, List.append_nil] at hw
  have f0 : DataW.trod enc Tryd.prog W 0 (fun _ => true) true n' 33 (([v0, v1, v2, v3, v4].drop 0).take (Tryd.prog.cellsOf 33)) = some y0 := hg 0 _ rfl
  have f1 : DataW.trod enc Tryd.prog W 0 (fun _ => true) true n' 23 (([v0, v1, v2, v3, v4].drop 1).take (Tryd.prog.cellsOf 23)) = some y1 := hg 1 _ rfl
  have f2 : DataW.trod enc Tryd.prog W 0 (fun _ => true) true n' 23 (([v0, v1, v2, v3, v4].drop 2).take (Tryd.prog.cellsOf 23)) = some y2 := hg 2 _ rfl
  have f3 : DataW.trod enc Tryd.prog W 0 (fun _ => true) true n' 3 (([v0, v1, v2, v3, v4].drop 3).take (Tryd.prog.cellsOf 3)) = some y3 := hg 3 _ rfl
  have f4 : DataW.trod enc Tryd.prog W 0 (fun _ => true) true n' 3 (([v0, v1, v2, v3, v4].drop 4).take (Tryd.prog.cellsOf 3)) = some y4 := hg 4 _ rfl
  simp only [c33, c45, c3, List.drop_zero, List.drop_succ_cons, List.take_succ_cons, List.take_zero, List.getElem?_cons_zero, List.getElem?_cons_succ, List.take_nil] at f0 f1 f2 f3 f4
  obtain ⟨va, vl, vc, bs, e0, b1, b2, b3, b4⟩ := open_binds f0 (fun n hn => hw n (.inl hn))
  obtain ⟨oa, ol, oc, os, e1, o1, -, o3⟩ := open_textsM f1 (fun n hn => hw n (.inr (.inl hn)))
  obtain ⟨ra, rl, rc, rs, e2, r1, -, r3⟩ := open_textsM f2 (fun n hn => hw n (.inr (.inr (.inl hn))))
  obtain ⟨ck, e3, -, w3⟩ := DataW.trod_int Tryd.underlying3 f3
  obtain ⟨st, e4, -, w4⟩ := DataW.trod_int Tryd.underlying3 f4
  simp only [List.cons.injEq, and_true] at e0 e1 e2 e3 e4
  subst e0 e1 e2 e3 e4
  exact ⟨⟨va, vl, vc, bs, oa, ol, oc, os, ra, rl, rc, rs, ck, st⟩, rfl, ⟨b1, b2, o1, r1, b3, ⟨b4, o3, r3⟩, bounds_i64 w3, bounds_i64 w4⟩⟩
theorem open_nodeZ {cs : List Value} {x : DataW H × List MemPlace} (h : DataW.trod enc Tryd.prog W 0 (fun _ => true) true fuel 61 cs = some x) (hw : ∀ n ∈ x.1.weights Tryd.prog 61, n ≤ reachBytes) :
    ∃ nd : Nd, cs = nd.cs ∧ nd.okA W := by
  obtain ⟨ys, n', -, rfl, hl, hyl, hf⟩ := DataW.trod_struct Tryd.underlying61 h
  rw [c49] at hl
  obtain ⟨v0, v1, v2, v3, v4, v5, v6, rfl⟩ := l7 hl
  obtain ⟨y0, y1, y2, y3, rfl⟩ := l4 hyl
  have f0 : DataW.trod enc Tryd.prog W 0 (fun _ => true) true n' 3 (([v0, v1, v2, v3, v4, v5, v6].drop 0).take (Tryd.prog.cellsOf 3)) = some y0 := hf 0 _ rfl
  have f1 : DataW.trod enc Tryd.prog W 0 (fun _ => true) true n' 9 (([v0, v1, v2, v3, v4, v5, v6].drop 1).take (Tryd.prog.cellsOf 9)) = some y1 := hf 1 _ rfl
  have f2 : DataW.trod enc Tryd.prog W 0 (fun _ => true) true n' 25 (([v0, v1, v2, v3, v4, v5, v6].drop 2).take (Tryd.prog.cellsOf 25)) = some y2 := hf 2 _ rfl
  have f3 : DataW.trod enc Tryd.prog W 0 (fun _ => true) true n' 59 (([v0, v1, v2, v3, v4, v5, v6].drop 6).take (Tryd.prog.cellsOf 59)) = some y3 := hf 3 _ rfl
  simp only [c3, c9, c47, c42, List.drop_zero, List.drop_succ_cons, List.take_succ_cons, List.take_zero, List.getElem?_cons_zero, List.getElem?_cons_succ, List.take_nil] at f0 f1 f2 f3
  obtain ⟨op, h0, -, w0⟩ := DataW.trod_int Tryd.underlying3 f0
  obtain ⟨nm, h1, -, w1⟩ := DataW.trod_string Tryd.underlying9 f1
  simp only [List.map_cons, List.map_nil, DataW.weights, Tryd.underlying61, DataW.weightsEach, List.mem_append, List.append_nil] at hw
  obtain ⟨ka, kl, kc, ks, h3, k3⟩ := open_kids f3 (fun n hn => hw n (Or.inr (Or.inr (Or.inr hn))))
  obtain ⟨v, h2, k4, k5, k6⟩ := open_value f2 rfl (fun n hn => hw n (Or.inr (Or.inr (Or.inl hn))))
  simp only [List.cons.injEq, and_true, Vc.cs] at h0 h1 h2 h3
  obtain ⟨rfl, rfl, rfl, rfl⟩ := h2
  subst h0 h1 h3
  exact ⟨⟨op, nm, v.x.k, v.x.n, v.x.t, v.a, v.l, v.c, ka, kl, kc, ks⟩, rfl, ⟨⟨k3, w1, k5⟩, _, k4⟩, k6⟩
theorem open_nodesZ {cs : List Value} {x : DataW H × List MemPlace} (h : DataW.trod enc Tryd.prog W 0 (fun _ => true) true fuel 48 cs = some x) (hw : ∀ n ∈ x.1.weights Tryd.prog 48, n ≤ reachBytes) :
    ∃ a n c ns, cs = [.slice a n c] ∧ RS 7 Nd.cs W a n c ns ∧ (a = none → c = 0) ∧ (∀ nd ∈ ns, nd.okA W) ∧ n ≤ 1353245080300 := by
  rcases Go.Deep.open_slice Tryd.underlying48 h with ⟨rfl, _⟩ | ⟨a, len, cap, m, n, D, Pl, rfl, hb, hl, hm, hmm, rfl, hx⟩
  · exact ⟨none, 0, 0, [], rfl, ⟨rfl, Nat.le_refl _, by omega, fun i x h => by simp at h⟩, fun _ => rfl, fun nd h => (by simp at h), by omega⟩
  · simp only [if_true] at hmm
    have hmm' := hmm.symm
    subst hmm'
    rw [c49] at hx
    have hw0 := hw _ (by simp only [DataW.weights, Tryd.underlying48]; exact List.mem_cons_self)
    simp only [List.length_map, List.length_range, by49, reachBytes] at hw0
    have each : ∀ i, i < len → ∃ nd : Nd, (∀ j v, nd.cs[j]? = some v → W.cell? (a.add (i * 7 + j)) = some v) ∧ nd.okA W := by
      intro i hi
      obtain ⟨cs', h1, h2⟩ := hx i (by omega)
      obtain ⟨nd, rfl, hok⟩ := open_nodeZ h2 (fun q hq => hw q (by
        simp only [DataW.weights, Tryd.underlying48, List.mem_cons, List.mem_append]
        exact Or.inr (Or.inl (weightsAll_mem (List.mem_map.2 ⟨i, List.mem_range.2 hi, rfl⟩) _ hq))))
      obtain ⟨_, h3, h4⟩ := World.cells?_some h1
      refine ⟨nd, fun j v hv => ?_, hok⟩
      have hj : j < 7 := by have := (List.getElem?_eq_some_iff.1 hv).1; rwa [h3] at this
      rw [← Go.Deep.add_add, h4 j hj, hv]
    haveI : Inhabited Nd := ⟨⟨0, ByteArray.empty, 0, 0, ByteArray.empty, none, 0, 0, none, 0, 0, []⟩⟩
    obtain ⟨f, hf⟩ := Go.Deep.choose_lt each
    refine ⟨some a, len, cap, (List.range len).map f, rfl, ⟨by simp, hl, by omega, fun i nd hi => ?_⟩, (fun e => by cases e), fun nd hnd => ?_, by omega⟩
    · have hil : i < len := by have := (List.getElem?_eq_some_iff.1 hi).1; simpa using this
      obtain rfl : f i = nd := by simpa [hil] using hi
      obtain ⟨b, off, rfl⟩ := spot_row (W := W) (n := 1) (fun j hj => ⟨_, by have := (hf 0 (by omega)).1 0 _ rfl; simpa [show j = 0 by omega] using this⟩) (by omega)
      refine ⟨b, off, rfl, fun j v hv => ?_⟩
      have := (hf i hil).1 j v hv
      rwa [Addr.add_lit, ← Nat.add_assoc] at this
    · obtain ⟨i, hi, rfl⟩ := List.mem_map.1 hnd
      exact (hf i (List.mem_range.1 hi)).2
end
end Go.Proofs.YtcnckjlmldnblaaDoor
