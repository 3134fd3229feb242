import Derived.Test.YtakaoacialnjaaaDoorK39
import Derived.OpenShut
import Derived.SliceStrings
import Derived.Deep.Slices
import Derived.Deep.DeepHandedRow
import Derived.SizedLaws
namespace Go.Proofs.YtakaoacialnjaaaDoor
open Go Go.RowKit
set_option linter.unusedVariables false
set_option linter.unusedSimpArgs false
open Go.ChangeShapes Go.WideShapes
def Sv (s : ByteArray) : List Value := [.string s]
theorem c3 : Tryd.prog.cellsOf 3 = 1 := by kernel_rfl
theorem c9 : Tryd.prog.cellsOf 9 = 1 := by kernel_rfl
theorem c28 : Tryd.prog.cellsOf 28 = 1 := by kernel_rfl
theorem c42 : Tryd.prog.cellsOf 42 = 1 := by kernel_rfl
theorem c45 : Tryd.prog.cellsOf 45 = 1 := by kernel_rfl
theorem c47 : Tryd.prog.cellsOf 47 = 4 := by kernel_rfl
theorem c49 : Tryd.prog.cellsOf 49 = 7 := by kernel_rfl
theorem c34 : Tryd.prog.cellsOf 34 = 3 := by kernel_rfl
theorem c30 : Tryd.prog.cellsOf 30 = 2 := by kernel_rfl
theorem c4 : Tryd.prog.cellsOf 4 = 1 := by kernel_rfl
theorem by3 : Tryd.prog.bytesOf 3 = 8 := by kernel_rfl
theorem by9 : Tryd.prog.bytesOf 9 = 16 := by kernel_rfl
theorem by49 : Tryd.prog.bytesOf 49 = 104 := by kernel_rfl
theorem by34 : Tryd.prog.bytesOf 34 = 32 := by kernel_rfl
theorem weightsAll_mem {H : Type} {P : Program} {e : TypeId} : ∀ {l : List (DataW H)} {d : DataW H}, d ∈ l → ∀ n ∈ d.weights P e, n ∈ DataW.weightsAll P e l
  | d' :: r, d, hd, n, hn => by
    simp only [DataW.weightsAll, List.mem_append]
    rcases List.mem_cons.1 hd with rfl | h
    · exact Or.inl hn
    · exact Or.inr (weightsAll_mem h n hn)
section
variable {H : Type} {enc : TypeId × Value → H} {W : World} {fuel : Nat}
theorem spot_row {x : Addr} {n : Nat} (h : ∀ i, i < n → ∃ v, W.cell? (x.add i) = some v) (hn : 0 < n) : ∃ b off, x = ⟨b, off, none⟩ := by
  obtain ⟨b, off, spot⟩ := x
  obtain ⟨v, h0⟩ := h 0 hn
  have : spot = none := by simpa [Addr.add] using World.cell?_spot h0
  exact ⟨b, off, by rw [this]⟩
theorem open_kids {cs : List Value} {x : DataW H × List MemPlace} (h : DataW.trod enc Tryd.prog W 0 (fun _ => true) true fuel 42 cs = some x) (hw : ∀ n ∈ x.1.weights Tryd.prog 42, n ≤ reachBytes) :
    ∃ a n c ks, cs = [.slice a n c] ∧ RS 1 Iv W a n c ks := by
  rcases open_ints Tryd.underlying42 Tryd.underlying3 c3 h with ⟨rfl, _⟩ | ⟨x, l, c, zs, rfl, _, hl, hm, hz, rfl, hcell, hwz⟩
  · exact ⟨none, 0, 0, [], rfl, rfl, Nat.le_refl _, by omega, fun i x h => by simp at h⟩
  · simp only [if_true] at hz
    have := hw _ (by simp only [DataW.weights, Tryd.underlying42]; exact List.mem_cons_self)
    simp only [lits, List.length_map, List.length_take, List.length_drop, by3, reachBytes] at this
    refine ⟨some x, l, c, zs.take l, rfl, by simp; omega, hl, by omega, fun i y hy => ?_⟩
    have hil : i < l := by have := (List.getElem?_eq_some_iff.1 hy).1; simp at this; omega
    obtain ⟨b, off, rfl⟩ := spot_row (fun j hj => ⟨_, hcell j hj⟩) (by omega)
    refine ⟨b, off, rfl, fun j v hv => ?_⟩
    have hj : j = 0 := by have := (List.getElem?_eq_some_iff.1 hv).1; simp [Iv] at this; omega
    subst hj
    have h1 := hcell i (by omega)
    rw [Addr.add_lit] at h1
    rw [Nat.mul_one, Nat.add_zero, h1]
    rw [List.getElem?_take_of_lt hil] at hy
    simp only [Iv, List.getElem?_cons_zero, Option.some.injEq] at hv
    rw [← hv, List.getD_eq_getElem?_getD, hy]; rfl
theorem open_texts {cs : List Value} {x : DataW H × List MemPlace} (h : DataW.trod enc Tryd.prog W 0 (fun _ => true) true fuel 45 cs = some x) (hw : ∀ n ∈ x.1.weights Tryd.prog 45, n ≤ reachBytes) :
    ∃ a n c ks, cs = [.slice a n c] ∧ RS 1 Sv W a n c ks := by
  rcases open_strings Tryd.underlying45 Tryd.underlying9 c9 h with ⟨rfl, _⟩ | ⟨x, l, c, zs, rfl, _, hl, hm, hz, rfl, hcell, hwz⟩
  · exact ⟨none, 0, 0, [], rfl, rfl, Nat.le_refl _, by omega, fun i x h => by simp at h⟩
  · simp only [if_true] at hz
    have := hw _ (by simp only [DataW.weights, Tryd.underlying45]; exact List.mem_cons_self)
    simp only [strs, List.length_map, List.length_take, List.length_drop, by9, reachBytes] at this
    refine ⟨some x, l, c, zs.take l, rfl, by simp; omega, hl, by omega, fun i y hy => ?_⟩
    have hil : i < l := by have := (List.getElem?_eq_some_iff.1 hy).1; simp at this; omega
    obtain ⟨b, off, rfl⟩ := spot_row (fun j hj => ⟨_, hcell j hj⟩) (by omega)
    refine ⟨b, off, rfl, fun j v hv => ?_⟩
    have hj : j = 0 := by have := (List.getElem?_eq_some_iff.1 hv).1; simp [Sv] at this; omega
    subst hj
    have h1 := hcell i (by omega)
    rw [Addr.add_lit] at h1
    rw [Nat.mul_one, Nat.add_zero, h1]
    rw [List.getElem?_take_of_lt hil] at hy
    simp only [Sv, List.getElem?_cons_zero, Option.some.injEq] at hv
    rw [← hv, List.getD_eq_getElem?_getD, hy]; rfl
theorem l2 {α : Type} {l : List α} (h : l.length = 2) : ∃ a b, l = [a, b] := by
  match l, h with
  | [a, b], _ => exact ⟨a, b, rfl⟩
theorem l3 {α : Type} {l : List α} (h : l.length = 3) : ∃ a b c, l = [a, b, c] := by
  match l, h with
  | [a, b, c], _ => exact ⟨a, b, c, rfl⟩
theorem l4 {α : Type} {l : List α} (h : l.length = 4) : ∃ a b c d, l = [a, b, c, d] := by
  match l, h with
  | [a, b, c, d], _ => exact ⟨a, b, c, d, rfl⟩
theorem l7 {α : Type} {l : List α} (h : l.length = 7) : ∃ a b c d e f g, l = [a, b, c, d, e, f, g] := by
  match l, h with
  | [a, b, c, d, e, f, g], _ => exact ⟨a, b, c, d, e, f, g, rfl⟩
def Nd.okS (W : World) (nd : Nd) : Prop := nd.ok W ∧ ∃ ss, RS 1 Sv W nd.sa nd.sl nd.sc ss
theorem open_node {cs : List Value} {x : DataW H × List MemPlace} (h : DataW.trod enc Tryd.prog W 0 (fun _ => true) true fuel 49 cs = some x) (hw : ∀ n ∈ x.1.weights Tryd.prog 49, n ≤ reachBytes) :
    ∃ nd : Nd, cs = nd.cs ∧ nd.okS W := by
  obtain ⟨ys, n', -, rfl, hl, hyl, hf⟩ := DataW.trod_struct Tryd.underlying49 h
  rw [c49] at hl
  obtain ⟨v0, v1, v2, v3, v4, v5, v6, rfl⟩ := l7 hl
  obtain ⟨y0, y1, y2, y3, rfl⟩ := l4 hyl
  have f0 : DataW.trod enc Tryd.prog W 0 (fun _ => true) true n' 3 (([v0, v1, v2, v3, v4, v5, v6].drop 0).take (Tryd.prog.cellsOf 3)) = some y0 := hf 0 _ rfl
  have f1 : DataW.trod enc Tryd.prog W 0 (fun _ => true) true n' 9 (([v0, v1, v2, v3, v4, v5, v6].drop 1).take (Tryd.prog.cellsOf 9)) = some y1 := hf 1 _ rfl
  have f2 : DataW.trod enc Tryd.prog W 0 (fun _ => true) true n' 47 (([v0, v1, v2, v3, v4, v5, v6].drop 2).take (Tryd.prog.cellsOf 47)) = some y2 := hf 2 _ rfl
  have f3 : DataW.trod enc Tryd.prog W 0 (fun _ => true) true n' 42 (([v0, v1, v2, v3, v4, v5, v6].drop 6).take (Tryd.prog.cellsOf 42)) = some y3 := hf 3 _ rfl
  simp only [c3, c9, c47, c42, List.drop_zero, List.drop_succ_cons, List.take_succ_cons, List.take_zero, List.getElem?_cons_zero, List.getElem?_cons_succ, List.take_nil] at f0 f1 f2 f3
  obtain ⟨op, h0, -, w0⟩ := DataW.trod_int Tryd.underlying3 f0
  obtain ⟨nm, h1, -, w1⟩ := DataW.trod_string Tryd.underlying9 f1
  simp only [List.map_cons, List.map_nil, DataW.weights, Tryd.underlying49, DataW.weightsEach, List.mem_append, List.append_nil] at hw
  obtain ⟨ka, kl, kc, ks, h3, k3⟩ := open_kids f3 (fun n hn => hw n (Or.inr (Or.inr (Or.inr hn))))
  obtain ⟨zs, n2, -, hz, hl2, hzl, hg⟩ := DataW.trod_struct Tryd.underlying47 f2
  obtain ⟨z0, z1, z2, z3, rfl⟩ := l4 hzl
  have g0 : DataW.trod enc Tryd.prog W 0 (fun _ => true) true n2 28 (([v2, v3, v4, v5].drop 0).take (Tryd.prog.cellsOf 28)) = some z0 := hg 0 _ rfl
  have g1 : DataW.trod enc Tryd.prog W 0 (fun _ => true) true n2 3 (([v2, v3, v4, v5].drop 1).take (Tryd.prog.cellsOf 3)) = some z1 := hg 1 _ rfl
  have g2 : DataW.trod enc Tryd.prog W 0 (fun _ => true) true n2 9 (([v2, v3, v4, v5].drop 2).take (Tryd.prog.cellsOf 9)) = some z2 := hg 2 _ rfl
  have g3 : DataW.trod enc Tryd.prog W 0 (fun _ => true) true n2 45 (([v2, v3, v4, v5].drop 3).take (Tryd.prog.cellsOf 45)) = some z3 := hg 3 _ rfl
  simp only [c28, c3, c9, c45, List.drop_zero, List.drop_succ_cons, List.take_succ_cons, List.take_zero, List.getElem?_cons_zero, List.getElem?_cons_succ, List.take_nil] at g0 g1 g2 g3
  obtain ⟨vk, e0, -, -⟩ := DataW.trod_int Tryd.underlying28 g0
  obtain ⟨vn, e1, -, w2⟩ := DataW.trod_int Tryd.underlying3 g1
  obtain ⟨vt, e2, -, -⟩ := DataW.trod_string Tryd.underlying9 g2
  subst hz
  obtain ⟨sa, sl, sc, ss, e3, k4⟩ := open_texts g3 (fun n hn => hw n (Or.inr (Or.inr (Or.inl (by simp only [List.map_cons, List.map_nil, DataW.weights, Tryd.underlying47, DataW.weightsEach, List.mem_append, List.append_nil]; exact Or.inr (Or.inr (Or.inr hn)))))))
  simp only [List.cons.injEq, and_true] at h0 h1 h3 e0 e1 e2 e3
  subst h0 h1 h3 e0 e1 e2 e3
  exact ⟨⟨op, nm, vk, vn, vt, sa, sl, sc, ka, kl, kc, ks⟩, rfl, ⟨k3, w1, bounds_i64 w2⟩, ss, k4⟩
theorem open_nodes {cs : List Value} {x : DataW H × List MemPlace} (h : DataW.trod enc Tryd.prog W 0 (fun _ => true) true fuel 24 cs = some x) (hw : ∀ n ∈ x.1.weights Tryd.prog 24, n ≤ reachBytes) :
    ∃ a n c ns, cs = [.slice a n c] ∧ RS 7 Nd.cs W a n c ns ∧ ∀ nd ∈ ns, nd.okS W := by
  rcases Go.Deep.open_slice Tryd.underlying24 h with ⟨rfl, _⟩ | ⟨a, len, cap, m, n, D, Pl, rfl, hb, hl, hm, hmm, rfl, hx⟩
  · exact ⟨none, 0, 0, [], rfl, ⟨rfl, Nat.le_refl _, by omega, fun i x h => by simp at h⟩, fun nd h => by simp at h⟩
  · simp only [if_true] at hmm
    have hmm' := hmm.symm
    subst hmm'
    rw [c49] at hx
    have hw0 := hw _ (by simp only [DataW.weights, Tryd.underlying24]; exact List.mem_cons_self)
    simp only [List.length_map, List.length_range, by49, reachBytes] at hw0
    have each : ∀ i, i < len → ∃ nd : Nd, (∀ j v, nd.cs[j]? = some v → W.cell? (a.add (i * 7 + j)) = some v) ∧ nd.okS W := by
      intro i hi
      obtain ⟨cs', h1, h2⟩ := hx i (by omega)
      obtain ⟨nd, rfl, hok⟩ := open_node h2 (fun q hq => hw q (by
        simp only [DataW.weights, Tryd.underlying24, List.mem_cons, List.mem_append]
        exact Or.inr (Or.inl (weightsAll_mem (List.mem_map.2 ⟨i, List.mem_range.2 hi, rfl⟩) _ hq))))
      obtain ⟨_, h3, h4⟩ := World.cells?_some h1
      refine ⟨nd, fun j v hv => ?_, hok⟩
      have hj : j < 7 := by have := (List.getElem?_eq_some_iff.1 hv).1; rwa [h3] at this
      rw [← Go.Deep.add_add, h4 j hj, hv]
    haveI : Inhabited Nd := ⟨⟨0, ByteArray.empty, 0, 0, ByteArray.empty, none, 0, 0, none, 0, 0, []⟩⟩
    obtain ⟨f, hf⟩ := Go.Deep.choose_lt each
    refine ⟨some a, len, cap, (List.range len).map f, rfl, ⟨by simp, hl, by omega, fun i nd hi => ?_⟩, fun nd hnd => ?_⟩
    · have hil : i < len := by have := (List.getElem?_eq_some_iff.1 hi).1; simpa using this
      obtain rfl : f i = nd := by simpa [hil] using hi
      obtain ⟨b, off, rfl⟩ := spot_row (W := W) (n := 1) (fun j hj => ⟨_, by have := (hf 0 (by omega)).1 0 _ rfl; simpa [show j = 0 by omega] using this⟩) (by omega)
      refine ⟨b, off, rfl, fun j v hv => ?_⟩
      have := (hf i hil).1 j v hv
      rwa [Addr.add_lit, ← Nat.add_assoc] at this
    · obtain ⟨i, hi, rfl⟩ := List.mem_map.1 hnd
      exact (hf i (List.mem_range.1 hi)).2
theorem open_kind {cs : List Value} {x : DataW H × List MemPlace} (h : DataW.trod enc Tryd.prog W 0 (fun _ => true) true fuel 30 cs = some x) : ∃ b o, cs = [.int .i64 b, .bool o] := by
  obtain ⟨ys, n', -, rfl, hl, hyl, hf⟩ := DataW.trod_struct Tryd.underlying30 h
  rw [c30] at hl
  obtain ⟨v0, v1, rfl⟩ := l2 hl
  obtain ⟨y0, y1, rfl⟩ := l2 hyl
  have f0 : DataW.trod enc Tryd.prog W 0 (fun _ => true) true n' 28 (([v0, v1].drop 0).take (Tryd.prog.cellsOf 28)) = some y0 := hf 0 _ rfl
  have f1 : DataW.trod enc Tryd.prog W 0 (fun _ => true) true n' 4 (([v0, v1].drop 1).take (Tryd.prog.cellsOf 4)) = some y1 := hf 1 _ rfl
  simp only [c28, c4, List.drop_zero, List.drop_succ_cons, List.take_succ_cons, List.take_zero, List.getElem?_cons_zero, List.getElem?_cons_succ, List.take_nil] at f0 f1
  obtain ⟨b, h0, -, -⟩ := DataW.trod_int Tryd.underlying28 f0
  obtain ⟨o, h1, -⟩ := DataW.trod_bool Tryd.underlying4 f1
  simp only [List.cons.injEq, and_true] at h0 h1
  subst h0 h1
  exact ⟨b, o, rfl⟩
theorem open_named {cs : List Value} {x : DataW H × List MemPlace} (h : DataW.trod enc Tryd.prog W 0 (fun _ => true) true fuel 34 cs = some x) : ∃ n : Nm, cs = n.cs := by
  obtain ⟨ys, n', -, rfl, hl, hyl, hf⟩ := DataW.trod_struct Tryd.underlying34 h
  rw [c34] at hl
  obtain ⟨v0, v1, v2, rfl⟩ := l3 hl
  obtain ⟨y0, y1, rfl⟩ := l2 hyl
  have f0 : DataW.trod enc Tryd.prog W 0 (fun _ => true) true n' 9 (([v0, v1, v2].drop 0).take (Tryd.prog.cellsOf 9)) = some y0 := hf 0 _ rfl
  have f1 : DataW.trod enc Tryd.prog W 0 (fun _ => true) true n' 30 (([v0, v1, v2].drop 1).take (Tryd.prog.cellsOf 30)) = some y1 := hf 1 _ rfl
  simp only [c9, c30, List.drop_zero, List.drop_succ_cons, List.take_succ_cons, List.take_zero, List.getElem?_cons_zero, List.getElem?_cons_succ, List.take_nil] at f0 f1
  obtain ⟨s, h0, -, -⟩ := DataW.trod_string Tryd.underlying9 f0
  obtain ⟨b, o, h1⟩ := open_kind f1
  simp only [List.cons.injEq, and_true] at h0 h1
  obtain ⟨rfl, rfl⟩ := h1
  subst h0
  exact ⟨⟨s, b, o⟩, rfl⟩
theorem open_scope {cs : List Value} {x : DataW H × List MemPlace} (h : DataW.trod enc Tryd.prog W 0 (fun _ => true) true fuel 25 cs = some x) (hw : ∀ n ∈ x.1.weights Tryd.prog 25, n ≤ reachBytes) :
    ∃ a n c ns, cs = [.slice a n c] ∧ RS 3 Nm.cs W a n c ns := by
  rcases Go.Deep.open_slice Tryd.underlying25 h with ⟨rfl, _⟩ | ⟨a, len, cap, m, n, D, Pl, rfl, hb, hl, hm, hmm, rfl, hx⟩
  · exact ⟨none, 0, 0, [], rfl, ⟨rfl, Nat.le_refl _, by omega, fun i x h => by simp at h⟩⟩
  · simp only [if_true] at hmm
    have hmm' := hmm.symm
    subst hmm'
    rw [c34] at hx
    have hw0 := hw _ (by simp only [DataW.weights, Tryd.underlying25]; exact List.mem_cons_self)
    simp only [List.length_map, List.length_range, by34, reachBytes] at hw0
    have each : ∀ i, i < len → ∃ nd : Nm, (∀ j v, nd.cs[j]? = some v → W.cell? (a.add (i * 3 + j)) = some v) := by
      intro i hi
      obtain ⟨cs', h1, h2⟩ := hx i (by omega)
      obtain ⟨nd, rfl⟩ := open_named h2
      obtain ⟨_, h3, h4⟩ := World.cells?_some h1
      refine ⟨nd, fun j v hv => ?_⟩
      have hj : j < 3 := by have := (List.getElem?_eq_some_iff.1 hv).1; rwa [h3] at this
      rw [← Go.Deep.add_add, h4 j hj, hv]
    haveI : Inhabited Nm := ⟨⟨ByteArray.empty, 0, false⟩⟩
    obtain ⟨f, hf⟩ := Go.Deep.choose_lt each
    refine ⟨some a, len, cap, (List.range len).map f, rfl, ⟨by simp, hl, by omega, fun i nd hi => ?_⟩⟩
    have hil : i < len := by have := (List.getElem?_eq_some_iff.1 hi).1; simpa using this
    obtain rfl : f i = nd := by simpa [hil] using hi
    obtain ⟨b, off, rfl⟩ := spot_row (W := W) (n := 1) (fun j hj => ⟨_, by have := (hf 0 (by omega)) 0 _ rfl; simpa [show j = 0 by omega] using this⟩) (by omega)
    refine ⟨b, off, rfl, fun j v hv => ?_⟩
    have := (hf i hil) j v hv
    rwa [Addr.add_lit, ← Nat.add_assoc] at this
end
end Go.Proofs.YtakaoacialnjaaaDoor
namespace Go.Proofs.YtakaoacialnjaaaDoor
open Go Go.RowKit
set_option linter.unusedVariables false
set_option linter.unusedSimpArgs false
/-- The count so far is no smaller than what was looked at. -/
def GrI (ns : List Nd) (n k q : Nat) : Prop := n ≤ q ∧ q ≤ 1125899906842624 ∧ ∀ j nd, j < k → ns[j]? = some nd → nd.kl ≤ q ∧ nd.sl ≤ q
/-- What is looked at: few nodes, short lists, few names. -/
def Small (ns : List Nd) (n sn : Nat) : Prop := n ≤ 5000 ∧ sn ≤ 500 ∧ ∀ nd ∈ ns, nd.kl ≤ 20000 ∧ nd.sl ≤ 20000
def GreatOut (e : Ending) (ns : List Nd) (n sn : Nat) : Prop := e = .returned (.bool true) ∨ (e = .returned (.bool false) ∧ Small ns n sn)
theorem great_end {ns : List Nd} {n sn k q : Nat} (hl : ns.length = n) (hg : GrI ns n k q) (hx : n ≤ k ∨ ¬ q ≤ 20000) {b5 b6 b : Bool} (h5 : decide ((5000 : Int) < (n : Int)) = b5) (h6 : decide ((500 : Int) < (sn : Int)) = b6)
    (hb : b = (b5 || decide ((20000 : Int) < (q : Int)) || b6)) : GreatOut (.returned (.bool b)) ns n sn := by
  cases b
  · right
    refine ⟨rfl, ?_⟩
    have hb := hb.symm
    rw [← h5, ← h6] at hb
    simp only [Bool.or_eq_false_iff, decide_eq_false_iff_not] at hb
    refine ⟨by omega, by omega, fun nd hnd => ?_⟩
    obtain ⟨j, hj⟩ := List.getElem?_of_mem hnd
    have := hg.2.2 j nd (by have := (List.getElem?_eq_some_iff.1 hj).1; omega) hj
    omega
  · exact .inl rfl
set_option maxRecDepth 100000 in
set_option maxHeartbeats 4000000 in
theorem great_any (w : World) (a : Option Addr) (n c : Nat) (ns : List Nd) (hr : RS 7 Nd.cs w a n c ns) (hok : ∀ nd ∈ ns, nd.okS w) (sa : Option Addr) (sn sc' : Nat) (sc : List Nm) (hsc : RS 3 Nm.cs w sa sn sc' sc) :
    Calls Tryd.prog 13 #[.slice a n c, .slice sa sn sc'] w fun e w' => GreatOut e ns n sn ∧ Below w.heap.size w w' := by
  have hlen := hr.1
  have hn48 := hr.2.2.1
  have hs48 := hsc.2.2.1
  have HR := Lib.hid hr
  have HOK := Lib.hid hok
  clear hr hsc hok
  go_enter Tryd.func13, Tryd.ntmps13
  go_wp2_with fail
  go_loopw [5, 6] (fun m i wr => ∃ (k q : Nat), k ≤ n ∧ i = .int .i64 k ∧ m = .int .i64 q ∧ Below w.heap.size w wr ∧ GrI ns n k q) (fun _ i _ => n - (intOf i).toNat)
  case atStart => exact ⟨0, n, by omega, rfl, rfl, Below.refl _ _, Nat.le_refl _, by omega, fun j nd h => by omega⟩
  case round =>
    obtain ⟨k, q, hk, rfl, rfl, hb, hg⟩ := hrel
    have HB := Lib.hid hb
    have HG := Lib.hid hg
    have hq50 : q ≤ 1125899906842624 := hg.2.1
    clear hb hg
    by_cases hlt : k < n
    · have hltI : (k : Int) < (n : Int) := by omega
      cases hq : decide ((q : Int) ≤ 20000)
      · have HQ := Lib.hid hq
        have hq2 : decide ((20000 : Int) < (q : Int)) = true := by simp at hq ⊢; omega
        have HE := Lib.hid (fun (b5 b6 b : Bool) h5 h6 hb => great_end (sn := sn) (b5 := b5) (b6 := b6) (b := b) hlen HG.out (.inr (by have := HQ.out; simp at this; omega)) h5 h6 hb)
        cases h5 : decide ((5000 : Int) < (n : Int)) <;> cases h6 : decide ((500 : Int) < (sn : Int))
        all_goals
          go_wp2
          go_ret
          exact ⟨HE.out _ _ _ h5 h6 (by rw [hq2]; rfl), HB.out⟩

      · have HQ := Lib.hid hq
        obtain ⟨xb, xo, nd, rfl, hnd, hcl⟩ := HR.out.at hlt
        have x6 := (HB.out.cell (p := ⟨xb, xo + k * 7 + 6, none⟩) (block_lt_of_cell (hcl 6 _ rfl))).trans (hcl 6 _ rfl)
        have x5 := (HB.out.cell (p := ⟨xb, xo + k * 7 + 5, none⟩) (block_lt_of_cell (hcl 5 _ rfl))).trans (hcl 5 _ rfl)
        obtain ⟨hko, ss, hss⟩ := HOK.out nd (List.mem_of_getElem? hnd)
        have hk48 : nd.kl ≤ 281474976710656 := hko.1.2.2.1
        have hl48 : nd.sl ≤ 281474976710656 := hss.2.2.1
        have HG2 := Lib.hid (show GrI ns n (k + 1) (q + nd.kl + nd.sl) by
          obtain ⟨g1, g2, g3⟩ := HG.out
          refine ⟨by omega, by have := HQ.out; simp at this; omega, fun j nd' hj hj2 => ?_⟩
          by_cases hjk : j = k
          · subst hjk
            rw [hnd] at hj2
            obtain rfl := Option.some.inj hj2
            omega
          · have := g3 j nd' (by omega) hj2
            omega)
        have HND := Lib.hid hnd
        clear hnd hcl hko hss
        go_wp2_with fail
        go_region
        go_wp2_with fail
        go_roundw
        case rel => exact ⟨k + 1, q + nd.kl + nd.sl, by omega, by go_num, by go_num, HB.out.drew, HG2.out⟩
        case measure => simp [intOf]; omega
    · have hltI : ¬ (k : Int) < (n : Int) := by omega
      have HE := Lib.hid (fun (b5 b6 b : Bool) h5 h6 hb => great_end (sn := sn) (b5 := b5) (b6 := b6) (b := b) hlen HG.out (.inl (by omega)) h5 h6 hb)
      cases hq : decide ((20000 : Int) < (q : Int))
      all_goals
        cases h5 : decide ((5000 : Int) < (n : Int)) <;> cases h6 : decide ((500 : Int) < (sn : Int))
        all_goals
          go_wp2
          go_ret
          exact ⟨HE.out _ _ _ h5 h6 (by rw [hq]; rfl), HB.out⟩

end Go.Proofs.YtakaoacialnjaaaDoor
namespace Go.Proofs.YtakaoacialnjaaaDoor
open Go Go.RowKit
set_option linter.unusedVariables false
set_option linter.unusedSimpArgs false
theorem RS.cut {α : Type} {s : Nat} {enc : α → List Value} {w : World} {a : Option Addr} {n c : Nat} {xs ys : List α} (h : RS s enc w a n c (xs ++ ys)) : RS s enc w a xs.length c xs := by
  obtain ⟨h1, h2, h3, h4⟩ := h
  rw [List.length_append] at h1
  exact ⟨rfl, by omega, by omega, fun i x hx => h4 i x (by rw [List.getElem?_append_left (List.getElem?_eq_some_iff.1 hx).1]; exact hx)⟩
theorem RS.cells {α : Type} {s : Nat} {enc : α → List Value} (he : ∀ x, (enc x).length = s) (hs : 0 < s) {w : World} {a : Option Addr} {n c : Nat} {xs : List α} (h : RS s enc w a n c xs) {ad : Addr} (ha : a = some ad) :
    ∀ j v, (xs.flatMap enc)[j]? = some v → w.cell? (ad.add j) = some v := by
  intro j v hv
  have hj : j < xs.length * s := by have := (List.getElem?_eq_some_iff.1 hv).1; rwa [flat_len enc s he] at this
  have hi : j / s < xs.length := (Nat.div_lt_iff_lt_mul hs).2 hj
  have hx := List.getElem?_eq_getElem hi
  obtain ⟨b, off, e, hc⟩ := h.2.2.2 (j / s) _ hx
  rw [ha] at e
  obtain rfl := Option.some.inj e
  rw [Addr.add_lit]
  have hm : j % s < s := Nat.mod_lt _ hs
  have hd : j = j / s * s + j % s := by rw [Nat.mul_comm]; exact (Nat.div_add_mod j s).symm
  have hv2 : (enc xs[j / s])[j % s]? = some v := by
    have hlt : j % s < (enc xs[j / s]).length := by rw [he]; exact hm
    have := flat_get enc s he xs (j / s) _ hx (j % s) _ (List.getElem?_eq_getElem hlt)
    rw [← hd, hv] at this
    rw [List.getElem?_eq_getElem hlt, ← this]
  have := hc (j % s) v hv2
  rwa [Nat.add_assoc, ← hd] at this
/-- Cells written one behind the other. -/
def setChain (w : World) (g : Nat) : Nat → List Value → World
  | _, [] => w
  | o, v :: t => setChain (w.setCell ⟨g, o, none⟩ v) g (o + 1) t
def setList (xs : List Value) : Nat → List Value → List Value
  | _, [] => xs
  | o, v :: t => setList (xs.set o v) (o + 1) t
theorem setList_eq : ∀ (vs xs : List Value) (o : Nat), o + vs.length ≤ xs.length → setList xs o vs = xs.take o ++ vs ++ xs.drop (o + vs.length)
  | [], xs, o, h => by simp [setList]
  | v :: t, xs, o, h => by
    simp only [List.length_cons] at h
    rw [setList, setList_eq t (xs.set o v) (o + 1) (by simp; omega)]
    rw [List.take_set, List.drop_set_of_lt (by omega), List.take_add_one, List.getElem?_eq_getElem (by omega), Option.toList_some, List.set_append_right _ _ (by simp; omega)]
    rw [show o - (xs.take o).length = 0 by simp; omega]
    simp only [List.set_cons_zero, List.append_assoc, List.cons_append, List.nil_append, List.length_cons]
    rw [show o + 1 + t.length = o + (t.length + 1) by omega]
theorem setList_flat {α : Type} (enc : α → List Value) (s : Nat) (he : ∀ x, (enc x).length = s) (l : List α) (k : Nat) (x : α) (hk : k < l.length) : setList (l.flatMap enc) (k * s) (enc x) = (l.set k x).flatMap enc := by
  have hfl := flat_len enc s he
  have h1 : l = l.take k ++ l[k] :: l.drop (k + 1) := by rw [List.getElem_cons_drop, List.take_append_drop]
  have hlen : k * s + s ≤ l.length * s := by rw [← Nat.succ_mul]; exact Nat.mul_le_mul_right s hk
  rw [setList_eq _ _ _ (by rw [hfl, he]; exact hlen), he]
  have h2 : l.set k x = l.take k ++ x :: l.drop (k + 1) := by rw [List.set_eq_take_append_cons_drop, if_pos hk]
  have htk : (l.take k).length * s = k * s := by rw [List.length_take, Nat.min_eq_left (Nat.le_of_lt hk)]
  rw [h2]
  generalize l.take k = A at *
  generalize l.drop (k + 1) = C at *
  rw [h1]
  have e1 : k * s = (A.flatMap enc).length := by rw [hfl, htk]
  simp only [List.flatMap_append, List.flatMap_cons]
  rw [e1, List.take_left, List.append_assoc]
  congr 2
  rw [← List.append_assoc, ← he l[k], ← List.length_append, List.drop_left]
theorem own_chain {B e size g n c : Nat} : ∀ (vs xs : List Value) (w : World) (o : Nat), w.ownsRow B e size (.slice (some ⟨g, 0, none⟩) n c) n xs → (setChain w g o vs).ownsRow B e size (.slice (some ⟨g, 0, none⟩) n c) n (setList xs o vs) ∧ w.grownBy (setChain w g o vs) (some g)
  | [], xs, w, o, h => ⟨h, rfl, rfl, rfl, Nat.le_refl _, fun _ _ _ => rfl⟩
  | v :: t, xs, w, o, h => by
    obtain ⟨h1, h2⟩ := h.stored o v
    obtain ⟨h3, h4⟩ := own_chain t _ _ (o + 1) h1
    exact ⟨h3, h4.os.trans h2.os, h4.tape.trans h2.tape, h4.output.trans h2.output, Nat.le_trans h2.size h4.size, fun k hk hne => (h4.block k (Nat.lt_of_lt_of_le hk h2.size) hne).trans (h2.block k hk hne)⟩
theorem own_at {α : Type} {enc : α → List Value} {s : Nat} (he : ∀ x, (enc x).length = s) {w : World} {B e g n c : Nat} {l : List α} (h : w.ownsRow B e s (.slice (some ⟨g, 0, none⟩) n c) n (l.flatMap enc)) {k : Nat} {x : α} (hx : l[k]? = some x) (j : Nat) (v : Value) (hv : (enc x)[j]? = some v) :
    w.cell? ⟨g, k * s + j, none⟩ = some v := by
  have hj : j < s := by have := (List.getElem?_eq_some_iff.1 hv).1; rwa [he] at this
  have hk : k < l.length := (List.getElem?_eq_some_iff.1 hx).1
  have hln : l.length * s = n * s := by rw [← flat_len enc s he]; exact h.1
  have hlt : k * s + j < n * s := by
    rw [← hln]
    have : (k + 1) * s ≤ l.length * s := Nat.mul_le_mul_right s hk
    rw [Nat.succ_mul] at this; omega
  rw [h.cellAt _ hlt]
  exact flat_get enc s he l k x hx j v hv
section
variable {P : Program} {w : World} {ops : Array Oper} {rest : List Oper} {o : Oper} {a : Act} {Q : Exit → Act → World → Prop}
/-- copy(dst, src), dst the head of an owned row, elements of whatever size. -/
theorem L_copyN (hgd : o.guard = none) (d s : Operand) (t : TypeId) (ho : o.op = .call { callee := .builtin .copy, args := #[d, s], argTypes := #[t, t] }) {e : TypeId} {z : Value} {size bytes : Nat} (T : Sl P t e z size bytes)
    (base : Nat) (g n cap : Nat) (xs : List Value) (hd : a.eval d = .slice (some ⟨g, 0, none⟩) n cap) (hown : w.ownsRow base e size (.slice (some ⟨g, 0, none⟩) n cap) n xs)
    {α : Type} {enc : α → List Value} (he : ∀ x, (enc x).length = size) (h1 : ∀ x, ∀ v ∈ enc x, v.oneCell' = true)
    (sa : Option Addr) (m c : Nat) (l : List α) (hs : a.eval s = .slice sa m c) (hr : RS size enc w sa m c l) (hmn : m ≤ n)
    (h : ∀ w', w'.ownsRow base e size (.slice (some ⟨g, 0, none⟩) n cap) n (l.flatMap enc ++ xs.drop (m * size)) → w.grownBy w' (some g) → wpList P ops Q rest (a.put o.dst (goInt m)) w') :
    wpList P ops Q (o :: rest) a w := by
  obtain ⟨i, hi, hz0, hz1, hz2⟩ := info_parts T.inf
  have hlm := hr.1
  have hx := hown.1
  rcases hown.2 with ⟨hv, _⟩ | ⟨g', cap', cur, hv, hbg, hh, hnc, hcm, hcs, ht⟩
  · cases hv
  · injection hv with e1 _ e3
    injection e1 with e1
    injection e1 with e1
    subst e1 e3
    refine wpList_plain hgd fun K hK => ?_
    have hmin : Nat.min m n = m := Nat.min_eq_left hmn
    by_cases h0 : m = 0
    · subst h0
      obtain rfl : l = [] := List.eq_nil_of_length_eq_zero hlm
      have hrun : (Builtin.copy_ #[t, t] o.type #[.slice (some ⟨g, 0, none⟩) n cap, .slice sa 0 c]).run P w = .ok (goInt 0) w := by
        have hl0 : ∀ x, (loadCells x 0).run P w = .ok #[] w := fun x => by have := run_loadCells_list (P := P) w x [] (by simp); simpa using this
        have hst0 := run_storeCells_at P g 0 e [] 0 cur w hh (by simp) (by simp)
        cases sa <;> simp [Builtin.copy_, run_underlying T.und, Builtin.lenOf, Builtin.firstCells, sizeOf, typeInfo, hi, hz1, hl0, storeCells]
      unfold Oper.wp
      simp [execOp, ho, resolve, invoke, builtin, hd, hs, hrun, Result.andThen]
      exact hK _ _ (h w (by simpa using hown) ⟨rfl, rfl, rfl, Nat.le_refl _, fun _ _ _ => rfl⟩)
    · obtain ⟨b, off, x, e1, _, _⟩ := hr.at (i := 0) (by omega)
      subst e1
      have hcl := hr.cells he T.pos rfl
      have hfl : (l.flatMap enc).length = m * size := by rw [flat_len enc size he, hlm]
      have hmn2 : m * size ≤ cap * size := Nat.mul_le_mul_right size (Nat.le_trans hmn hnc)
      have hl := run_loadCells_list (P := P) w ⟨b, off, none⟩ (l.flatMap enc) hcl
      have hst := run_storeCells_at P g 0 e (l.flatMap enc) 0 cur w hh (by rw [hfl, hcs]; omega) (fun v hv => by
        obtain ⟨x, _, hx⟩ := List.mem_flatMap.1 hv
        exact h1 x v hx)
      rw [hfl] at hl hst
      have hrun : (Builtin.copy_ #[t, t] o.type #[.slice (some ⟨g, 0, none⟩) n cap, .slice (some ⟨b, off, none⟩) m c]).run P w = .ok (goInt m) (w.setRow g ((l.flatMap enc) ++ cur.toList.drop (m * size)).toArray) := by
        simp [Builtin.copy_, run_underlying T.und, Builtin.lenOf, Builtin.firstCells, sizeOf, typeInfo, hi, hz1, hmin, Nat.min_eq_left hmn, hl, hst]
      unfold Oper.wp
      simp only [execOp, ho, resolve, invoke, builtin, List.map_toArray, List.map_cons, List.map_nil, hd, hs, hrun, Result.andThen, Sem.run_bind, Sem.run_pure]
      refine hK _ _ (h _ ⟨?_, .inr ⟨g, cap, _, rfl, hbg, setRow_heap w g cur _ e _ hh, hnc, hcm, ?_, ?_⟩⟩ ⟨rfl, rfl, rfl, by simp, fun k _ hk => setRow_other w g k _ (fun e => hk (by simp [e]))⟩)
      · have := Nat.mul_le_mul_right size hmn
        simp [hfl, hx]; omega
      · have : cur.toList.length = cap * size := by simpa using hcs
        simp [hfl]; omega
      · have := Nat.mul_le_mul_right size hmn
        simp only []
        rw [List.take_append, List.take_of_length_le (by rw [hfl]; exact this), hfl, ← ht, List.drop_take]
end
end Go.Proofs.YtakaoacialnjaaaDoor
