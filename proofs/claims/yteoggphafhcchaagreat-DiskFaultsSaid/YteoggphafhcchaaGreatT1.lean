import Derived.Test.YteoggphafhcchaaGreatQ0
import Derived.ProofKit
import Derived.OpenShut
import Derived.SliceStrings
import Derived.Deep.Slices
namespace Go.Proofs.YteoggphafhcchaaGreat
open Go Go.RowKit
set_option linter.unusedVariables false
set_option linter.unusedSimpArgs false
set_option maxRecDepth 100000
open Go.ChangeShapes Go.WideShapes Go.ChangeAt
theorem open_bytes {W : World} {a : Option Addr} {len cap : Nat} {zs : List Int}
    (h : (a = none ∧ len = 0 ∧ cap = 0 ∧ zs = []) ∨ ∃ x, a = some x ∧ len ≤ cap ∧ cap ≤ maxLen ∧ zs.length = cap ∧ (∀ i, i < zs.length → W.cell? (x.add i) = some (.int .u8 (zs.getD i 0))) ∧ ∀ n ∈ zs, (Lit.int .u8 n).wf = true)
    (hc : len ≤ 281474976710656) : ∃ l, R8 W a len cap l := by
  rcases h with ⟨rfl, rfl, rfl, rfl⟩ | ⟨x, rfl, hl, hm, hz, hcell, hwz⟩
  · exact ⟨[], R8.nil W 0⟩
  · refine ⟨(zs.take len).map (fun z => UInt8.ofNat z.toNat), by simp; omega, hl, hc, fun i hi => ?_⟩
    simp at hi
    have h1 := hcell i (by omega)
    obtain ⟨b, off, spot⟩ := x
    have hspot : spot = none := by
      by_cases h0 : i = 0
      · subst h0
        simpa [Addr.add] using World.cell?_spot h1
      · have h2 := hcell 0 (by omega)
        simpa [Addr.add] using World.cell?_spot h2
    subst hspot
    refine ⟨b, off, rfl, ?_⟩
    rw [Addr.add_lit] at h1
    rw [h1]
    have hg : zs.getD i 0 = zs[i]'(by omega) := by simp [List.getD, show i < zs.length by omega]
    have hw := bounds_u8 (hwz (zs.getD i 0) (by rw [hg]; exact List.getElem_mem _))
    rw [hg] at hw ⊢
    simp only [List.getElem_map, List.getElem_take]
    congr 2
    simp; omega
theorem weightsAll_mem {H : Type} {P : Program} {e : TypeId} : ∀ {l : List (DataW H)} {d : DataW H}, d ∈ l → ∀ n ∈ d.weights P e, n ∈ DataW.weightsAll P e l
  | d' :: r, d, hd, n, hn => by
    simp only [DataW.weightsAll, List.mem_append]
    rcases List.mem_cons.1 hd with rfl | h
    · exact Or.inl hn
    · exact Or.inr (weightsAll_mem h n hn)
theorem c3 : Tryz.prog.cellsOf 3 = 1 := by kernel_rfl
theorem c5 : Tryz.prog.cellsOf 5 = 1 := by kernel_rfl
theorem c9 : Tryz.prog.cellsOf 9 = 1 := by kernel_rfl
theorem c50 : Tryz.prog.cellsOf 50 = 1 := by kernel_rfl
theorem c45 : Tryz.prog.cellsOf 45 = 1 := by kernel_rfl
theorem c30 : Tryz.prog.cellsOf 30 = 1 := by kernel_rfl
theorem c32 : Tryz.prog.cellsOf 32 = 2 := by kernel_rfl
theorem c52 : Tryz.prog.cellsOf 52 = 10 := by kernel_rfl
theorem by52 : Tryz.prog.bytesOf 52 = 144 := by kernel_rfl
theorem by5 : Tryz.prog.bytesOf 5 = 1 := by kernel_rfl
theorem l2 {α : Type} {l : List α} (h : l.length = 2) : ∃ a b, l = [a, b] := by
  match l, h with
  | [a, b], _ => exact ⟨a, b, rfl⟩
theorem l9 {α : Type} {l : List α} (h : l.length = 9) : ∃ a b c d e f g i j, l = [a, b, c, d, e, f, g, i, j] := by
  match l, h with
  | [a, b, c, d, e, f, g, i, j], _ => exact ⟨a, b, c, d, e, f, g, i, j, rfl⟩
theorem l10 {α : Type} {l : List α} (h : l.length = 10) : ∃ a b c d e f g i j k, l = [a, b, c, d, e, f, g, i, j, k] := by
  match l, h with
  | [a, b, c, d, e, f, g, i, j, k], _ => exact ⟨a, b, c, d, e, f, g, i, j, k, rfl⟩
theorem bs_back (s : ByteArray) : bs s.data.toList = s := by
  apply ByteArray.ext
  exact Array.toArray_toList
section
variable {H : Type} {enc : TypeId × Value → H} {W : World} {fuel : Nat}
theorem spot_row {x : Addr} {n : Nat} (h : ∀ i, i < n → ∃ v, W.cell? (x.add i) = some v) (hn : 0 < n) : ∃ b off, x = ⟨b, off, none⟩ := by
  obtain ⟨b, off, spot⟩ := x
  obtain ⟨v, h0⟩ := h 0 hn
  have : spot = none := by simpa [Addr.add] using World.cell?_spot h0
  exact ⟨b, off, by rw [this]⟩
theorem open_p {cs : List Value} {x : DataW H × List MemPlace} (h : DataW.trod enc Tryz.prog W 0 (fun _ => true) true fuel 50 cs = some x) (hw : ∀ n ∈ x.1.weights Tryz.prog 50, n ≤ reachBytes) :
    ∃ a n c l, cs = [.slice a n c] ∧ R8 W a n c l ∧ n ≤ 140737488351232 := by
  rcases open_ints Tryz.underlying50 Tryz.underlying5 c5 h with ⟨rfl, _⟩ | ⟨x, l, c, zs, rfl, _, hl, hm, hz, rfl, hcell, hwz⟩
  · exact ⟨none, 0, 0, [], rfl, R8.nil W 0, by omega⟩
  · simp only [if_true] at hz
    have := hw _ (by simp only [DataW.weights, Tryz.underlying50]; exact List.mem_cons_self)
    simp only [lits, List.length_map, List.length_take, List.length_drop, by5, reachBytes] at this
    obtain ⟨y, hy⟩ := open_bytes (a := some x) (len := l) (cap := c) (zs := zs) (.inr ⟨x, rfl, hl, hm, hz, hcell, hwz⟩) (by omega)
    exact ⟨some x, l, c, y, rfl, hy, by omega⟩
theorem open_shape {t e : TypeId} (hu : Tryz.prog.underlying t = some (.slice e)) {cs : List Value} {x : DataW H × List MemPlace} (h : DataW.trod enc Tryz.prog W 0 (fun _ => true) true fuel t cs = some x) : ∃ a n c, cs = [.slice a n c] := by
  rcases Go.Deep.open_slice hu h with ⟨rfl, _⟩ | ⟨a, len, cap, m, n, D, Pl, rfl, hb, hl, hm, hmm, rfl, hx⟩
  · exact ⟨none, 0, 0, rfl⟩
  · exact ⟨_, _, _, rfl⟩
theorem open_op {cs : List Value} {x : DataW H × List MemPlace} (h : DataW.trod enc Tryz.prog W 0 (fun _ => true) true fuel 52 cs = some x) (hl : cs.length = 10) (hw : ∀ n ∈ x.1.weights Tryz.prog 52, n ≤ reachBytes) :
    ∃ o : Op3, cs = o.cells.toList ∧ OpLow W W.heap.size o := by
  obtain ⟨ys, n', -, rfl, -, hyl, hf⟩ := DataW.trod_struct Tryz.underlying52 h
  obtain ⟨v0, v1, v2, v3, v4, v5, v6, v7, v8, v9, rfl⟩ := l10 hl
  obtain ⟨z0, z1, z2, z3, z4, z5, z6, z7, z8, rfl⟩ := l9 hyl
  have g0 : DataW.trod enc Tryz.prog W 0 (fun _ => true) true n' 3 (([v0, v1, v2, v3, v4, v5, v6, v7, v8, v9].drop 0).take (Tryz.prog.cellsOf 3)) = some z0 := hf 0 _ rfl
  have g1 : DataW.trod enc Tryz.prog W 0 (fun _ => true) true n' 3 (([v0, v1, v2, v3, v4, v5, v6, v7, v8, v9].drop 1).take (Tryz.prog.cellsOf 3)) = some z1 := hf 1 _ rfl
  have g2 : DataW.trod enc Tryz.prog W 0 (fun _ => true) true n' 9 (([v0, v1, v2, v3, v4, v5, v6, v7, v8, v9].drop 2).take (Tryz.prog.cellsOf 9)) = some z2 := hf 2 _ rfl
  have g3 : DataW.trod enc Tryz.prog W 0 (fun _ => true) true n' 9 (([v0, v1, v2, v3, v4, v5, v6, v7, v8, v9].drop 3).take (Tryz.prog.cellsOf 9)) = some z3 := hf 3 _ rfl
  have g4 : DataW.trod enc Tryz.prog W 0 (fun _ => true) true n' 3 (([v0, v1, v2, v3, v4, v5, v6, v7, v8, v9].drop 4).take (Tryz.prog.cellsOf 3)) = some z4 := hf 4 _ rfl
  have g5 : DataW.trod enc Tryz.prog W 0 (fun _ => true) true n' 3 (([v0, v1, v2, v3, v4, v5, v6, v7, v8, v9].drop 5).take (Tryz.prog.cellsOf 3)) = some z5 := hf 5 _ rfl
  have g6 : DataW.trod enc Tryz.prog W 0 (fun _ => true) true n' 50 (([v0, v1, v2, v3, v4, v5, v6, v7, v8, v9].drop 6).take (Tryz.prog.cellsOf 50)) = some z6 := hf 6 _ rfl
  have g7 : DataW.trod enc Tryz.prog W 0 (fun _ => true) true n' 45 (([v0, v1, v2, v3, v4, v5, v6, v7, v8, v9].drop 7).take (Tryz.prog.cellsOf 45)) = some z7 := hf 7 _ rfl
  have g8 : DataW.trod enc Tryz.prog W 0 (fun _ => true) true n' 32 (([v0, v1, v2, v3, v4, v5, v6, v7, v8, v9].drop 8).take (Tryz.prog.cellsOf 32)) = some z8 := hf 8 _ rfl
  simp only [c3, c9, c50, c45, c32, List.drop_zero, List.drop_succ_cons, List.take_succ_cons, List.take_zero, List.getElem?_cons_zero, List.getElem?_cons_succ, List.take_nil] at g0 g1 g2 g3 g4 g5 g6 g7 g8
  simp only [List.map_cons, List.map_nil, DataW.weights, Tryz.underlying52, DataW.weightsEach, List.mem_append, List.append_nil] at hw
  obtain ⟨k, e0, -, w0⟩ := DataW.trod_int Tryz.underlying3 g0
  obtain ⟨at_, e1, -, w1⟩ := DataW.trod_int Tryz.underlying3 g1
  obtain ⟨sa, e2, -, w2⟩ := DataW.trod_string Tryz.underlying9 g2
  obtain ⟨sb, e3, -, w3⟩ := DataW.trod_string Tryz.underlying9 g3
  obtain ⟨n, e4, -, w4⟩ := DataW.trod_int Tryz.underlying3 g4
  obtain ⟨m, e5, -, w5⟩ := DataW.trod_int Tryz.underlying3 g5
  obtain ⟨pa, pn, pc, pl, e6, hp, hpn⟩ := open_p g6 (fun q hq => hw q (by simp only [hq, true_or, or_true]))
  obtain ⟨fa, fn, fc, e7⟩ := open_shape Tryz.underlying45 g7
  obtain ⟨ys', n2, -, rfl, -, hyl', hf'⟩ := DataW.trod_struct Tryz.underlying32 g8
  obtain ⟨q0, q1, rfl⟩ := l2 hyl'
  have k0 : DataW.trod enc Tryz.prog W 0 (fun _ => true) true n2 30 (([v8, v9].drop 0).take (Tryz.prog.cellsOf 30)) = some q0 := hf' 0 _ rfl
  have k1 : DataW.trod enc Tryz.prog W 0 (fun _ => true) true n2 3 (([v8, v9].drop 1).take (Tryz.prog.cellsOf 3)) = some q1 := hf' 1 _ rfl
  simp only [c30, c3, List.drop_zero, List.drop_succ_cons, List.take_succ_cons, List.take_zero, List.take_nil] at k0 k1
  obtain ⟨ca, cn, cc, e8⟩ := open_shape Tryz.underlying30 k0
  obtain ⟨nm, e9, -, -⟩ := DataW.trod_int Tryz.underlying3 k1
  simp only [List.cons.injEq, and_true] at e0 e1 e2 e3 e4 e5 e6 e7 e8 e9
  subst e0 e1 e2 e3 e4 e5 e6 e7 e8 e9
  have hpl : pl.length = pn := hp.1
  refine ⟨⟨k, at_, sa.data.toList, sb.data.toList, n, m, pl, pa, pc, fa, fn, fc, ca, cn, cc, nm⟩, ?_, ⟨bounds_i64 w0, ?_, ?_, (bounds_i64 w4).1, (bounds_i64 w4).2, by show pl.length ≤ _; omega, by show R8 W pa pl.length pc pl; rw [hpl]; exact hp, fun b off e h0 => ?_⟩⟩
  · show _ = [_, _, Value.string (bs sa.data.toList), Value.string (bs sb.data.toList), _, _, Value.slice pa pl.length pc, _, _, _]
    rw [bs_back, bs_back, hpl]
  · show sa.data.toList.length ≤ maxLen; rw [Array.length_toList]; exact w2
  · show sb.data.toList.length ≤ maxLen; rw [Array.length_toList]; exact w3
  · have h0 : 0 < pl.length := h0
    obtain ⟨b', off', e', hc⟩ := hp.2.2.2 0 h0
    have e : pa = some ⟨b, off, none⟩ := e
    rw [e] at e'
    cases e'
    exact World.block_lt_of_cell? W _ hc
theorem open_ops {cs : List Value} {x : DataW H × List MemPlace} (h : DataW.trod enc Tryz.prog W 0 (fun _ => true) true fuel 22 cs = some x) (hw : ∀ n ∈ x.1.weights Tryz.prog 22, n ≤ reachBytes) :
    ∃ a n c ops, cs = [.slice a n c] ∧ ScAt W W.heap.size a n ops := by
  rcases Go.Deep.open_slice Tryz.underlying22 h with ⟨rfl, _⟩ | ⟨a, len, cap, m, n, D, Pl, rfl, hb, hl, hm, hmm, rfl, hx⟩
  · exact ⟨none, 0, 0, [], rfl, ⟨rfl, by omega, fun j o h => by simp at h⟩⟩
  · simp only [if_true] at hmm
    have hmm' := hmm.symm
    subst hmm'
    rw [c52] at hx
    have hw0 := hw _ (by simp only [DataW.weights, Tryz.underlying22]; exact List.mem_cons_self)
    simp only [List.length_map, List.length_range, by52, reachBytes] at hw0
    have each : ∀ i, i < len → ∃ o : Op3, (∀ j v, o.cells[j]? = some v → W.cell? (a.add (i * 10 + j)) = some v) ∧ OpLow W W.heap.size o := by
      intro i hi
      obtain ⟨cs', h1, h2⟩ := hx i (by omega)
      obtain ⟨_, h3, h4⟩ := World.cells?_some h1
      obtain ⟨o, rfl, hok⟩ := open_op h2 h3 (fun q hq => hw q (by
        simp only [DataW.weights, Tryz.underlying22, List.mem_cons, List.mem_append]
        exact Or.inr (Or.inl (weightsAll_mem (List.mem_map.2 ⟨i, List.mem_range.2 hi, rfl⟩) _ hq))))
      refine ⟨o, fun j v hv => ?_, hok⟩
      have hj : j < 10 := by have := (Array.getElem?_eq_some_iff.1 hv).1; exact this
      rw [← Go.Deep.add_add, h4 j hj, Array.getElem?_toList, hv]
    haveI : Inhabited Op3 := ⟨⟨0, 0, [], [], 0, 0, [], none, 0, none, 0, 0, none, 0, 0, 0⟩⟩
    obtain ⟨f, hf⟩ := Go.Deep.choose_lt each
    refine ⟨some a, len, cap, (List.range len).map f, rfl, ⟨by simp, by omega, fun i o hi => ?_⟩⟩
    have hil : i < len := by have := (List.getElem?_eq_some_iff.1 hi).1; simpa using this
    obtain rfl : f i = o := by simpa [hil] using hi
    refine ⟨(hf i hil).2, ?_⟩
    obtain ⟨b, off, rfl⟩ := spot_row (W := W) (n := 1) (fun j hj => ⟨_, by have := (hf 0 (by omega)).1 0 _ rfl; simpa [show j = 0 by omega] using this⟩) (by omega)
    refine ⟨b, off, rfl, ?_, fun j v hv => ?_⟩
    · have := (hf 0 (by omega)).1 0 _ rfl
      rw [Addr.add_lit] at this
      exact World.block_lt_of_cell? W _ this
    · have := (hf i hil).1 j v hv
      rwa [Addr.add_lit, ← Nat.add_assoc] at this
theorem open_op1 {r : Reach} {b0 : Nat} {v : Value} {d : DataW H} {p : List MemPlace} (hv : Value.okWide Tryz.prog W r b0 52 v) (h : DataW.Trod enc Tryz.prog W 0 (fun _ => true) true 52 v d p) (hw : ∀ n ∈ d.weights Tryz.prog 52, n ≤ reachBytes) :
    ∃ o : Op3, v = o.val ∧ OpLow W W.heap.size o := by
  obtain ⟨cs, rfl, hsz⟩ := okWide_struct Tryz.underlying52 hv
  rw [c52] at hsz
  obtain ⟨fuel, hf⟩ := h
  obtain ⟨l⟩ := cs
  obtain ⟨o, ho, hlo⟩ := open_op (x := (d, p)) (cs := l) hf hsz hw
  exact ⟨o, by rw [ho]; rfl, hlo⟩
end
theorem laidOut : laidOutB Tryz.prog = true := by kernel_rfl
end Go.Proofs.YteoggphafhcchaaGreat
