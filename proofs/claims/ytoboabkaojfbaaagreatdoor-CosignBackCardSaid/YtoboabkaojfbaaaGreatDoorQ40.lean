import Derived.Shelf.Spec.SlicesGrow
import Derived.Ground.Names8Prog
import Derived.Test.YtoboabkaojfbaaaGreatDoorProg
import Derived.Laws.OwnMore
import Derived.Test.YtoboabkaojfbaaaGreatDoorQ27
import Derived.Test.YtoboabkaojfbaaaGreatDoorQ13
namespace Go.Proofs
open Go.Shelf
def Tryz.grow183_ren : Go.Shelf.Ren := ⟨fun | 4 => 183 | n => n, fun | 22 => 29 | 25 => 23 | 3 => 3 | 4 => 4 | 9 => 9 | 20 => 20 | 0 => 0 | n => n, fun | n => n⟩
theorem Tryz.grow183 : Go.Proofs.Lays8.n4 Tryz.prog Tryz.grow183_ren := {
  mixed := by kernel_rfl
  f4 := ⟨Tryz.f183.name, by decide, Tryz.func183.trans (congrArg some (by kernel_rfl))⟩
  t0 := Tryz.underlying0
  a0 := Tryz.isAgg0
  z0 := Tryz.sizeOf0
  v0 := Tryz.zeroValue0
  t3 := Tryz.underlying3
  a3 := Tryz.isAgg3
  z3 := Tryz.sizeOf3
  v3 := Tryz.zeroValue3
  t4 := Tryz.underlying4
  a4 := Tryz.isAgg4
  z4 := Tryz.sizeOf4
  v4 := Tryz.zeroValue4
  t9 := Tryz.underlying9
  a9 := Tryz.isAgg9
  z9 := Tryz.sizeOf9
  v9 := Tryz.zeroValue9
  t20 := Tryz.underlying20
  a20 := Tryz.isAgg20
  z20 := Tryz.sizeOf20
  v20 := Tryz.zeroValue20
  t22 := Tryz.underlying29
  a22 := Tryz.isAgg29
  z22 := Tryz.sizeOf29
  v22 := Tryz.zeroValue29 }
def Tryz.grow157_ren : Go.Shelf.Ren := ⟨fun | 4 => 157 | n => n, fun | 22 => 101 | 25 => 49 | 3 => 3 | 4 => 4 | 9 => 9 | 20 => 20 | 0 => 0 | n => n, fun | n => n⟩
theorem Tryz.grow157 : Go.Proofs.Lays8.n4 Tryz.prog Tryz.grow157_ren := {
  mixed := by kernel_rfl
  f4 := ⟨Tryz.f157.name, by decide, Tryz.func157.trans (congrArg some (by kernel_rfl))⟩
  t0 := Tryz.underlying0
  a0 := Tryz.isAgg0
  z0 := Tryz.sizeOf0
  v0 := Tryz.zeroValue0
  t3 := Tryz.underlying3
  a3 := Tryz.isAgg3
  z3 := Tryz.sizeOf3
  v3 := Tryz.zeroValue3
  t4 := Tryz.underlying4
  a4 := Tryz.isAgg4
  z4 := Tryz.sizeOf4
  v4 := Tryz.zeroValue4
  t9 := Tryz.underlying9
  a9 := Tryz.isAgg9
  z9 := Tryz.sizeOf9
  v9 := Tryz.zeroValue9
  t20 := Tryz.underlying20
  a20 := Tryz.isAgg20
  z20 := Tryz.sizeOf20
  v20 := Tryz.zeroValue20
  t22 := Tryz.underlying101
  a22 := Tryz.isAgg101
  z22 := Tryz.sizeOf101
  v22 := Tryz.zeroValue101 }
end Go.Proofs
namespace Go.Proofs.YtoboabkaojfbaaaGreatDoor
open Go Go.RowKit
set_option maxRecDepth 100000
set_option maxHeartbeats 8000000
set_option linter.unusedVariables false
set_option linter.unusedSimpArgs false
/-! slices.Clone at digests; appends from anywhere -/
theorem run_append_none_c {P : Program} {w : World} (base : Nat) (t ty e : TypeId) (i : TypeInfo) (size : Nat) (ht : P.underlying t = some (.slice e)) (hi : P.info? e = some i)
    (v : Value) (n : Nat) (xs : List Value) (hown : w.ownsRow base e size v n xs) (c : Nat) :
    (Builtin.append_ #[t, t] ty #[v, .slice none 0 c]).run P w = .ok v w := by
  rcases hown.2 with ⟨rfl, rfl⟩ | ⟨g, cap, cur, rfl, _, _, hnc, _⟩
  · simp [Builtin.append_, run_underlying ht, sizeOf, typeInfo, hi, Builtin.lenOf, Builtin.firstCells]
  · simp [Builtin.append_, run_underlying ht, sizeOf, typeInfo, hi, Builtin.lenOf, Builtin.firstCells, hnc, storeCells]
theorem L_append_none_c {P : Program} {w : World} {ops : Array Oper} {rest : List Oper} {o : Oper} {a : Act} {Q : Exit → Act → World → Prop} (hgd : o.guard = none) (s x : Operand) (t : TypeId)
    (ho : o.op = .call { callee := .builtin .append, args := #[s, x], argTypes := #[t, t] })
    (base : Nat) (e : TypeId) (i : TypeInfo) (size : Nat) (ht : P.underlying t = some (.slice e)) (hi : P.info? e = some i)
    (v : Value) (n : Nat) (xs : List Value) (hs : a.eval s = v) (hown : w.ownsRow base e size v n xs) (c : Nat) (hx : a.eval x = .slice none 0 c)
    (h : wpList P ops Q rest (a.put o.dst v) w) : wpList P ops Q (o :: rest) a w := by
  refine wpList_plain hgd fun K hK => ?_
  have hrun := run_append_none_c (P := P) (w := w) base t o.type e i size ht hi v n xs hown c
  unfold Oper.wp
  simp [execOp, ho, resolve, invoke, builtin, hs, hx, hrun, Result.andThen]
  exact hK _ _ h
/-- The cells that are appended: none, or those behind an address. -/
def Src (w : World) (a : Option Addr) (m : Nat) (l : List Value) : Prop := (a = none ∧ m = 0 ∧ l = []) ∨ ∃ ad, a = some ad ∧ ∀ j u, l[j]? = some u → w.cell? (ad.add j) = some u
theorem Src.below {w w' : World} {a : Option Addr} {m : Nat} {l : List Value} (h : Src w a m l) (hb : Below w.heap.size w w') : Src w' a m l := by
  rcases h with h | ⟨ad, e, h⟩
  · exact .inl h
  · exact .inr ⟨ad, e, fun j u hj => (hb.cell (World.block_lt_of_cell? w _ (h j u hj))).trans (h j u hj)⟩
theorem RS.src {α : Type} {s : Nat} {enc : α → List Value} (he : ∀ x, (enc x).length = s) (hs : 0 < s) {w : World} {a : Option Addr} {n c : Nat} {xs : List α} (h : RS s enc w a n c xs) : Src w a n (xs.flatMap enc) := by
  cases a with
  | none =>
    have hx : xs = [] := by
      cases xs with
      | nil => rfl
      | cons x t => obtain ⟨b, off, e, -⟩ := h.2.2.2 0 x rfl; cases e
    subst hx
    exact .inl ⟨rfl, h.1.symm, rfl⟩
  | some ad =>
    refine .inr ⟨ad, rfl, fun j v hv => ?_⟩
    have hj : j < xs.length * s := by have := (List.getElem?_eq_some_iff.1 hv).1; rwa [flat_len enc s he] at this
    have hi : j / s < xs.length := (Nat.div_lt_iff_lt_mul hs).2 hj
    have hx := List.getElem?_eq_getElem hi
    obtain ⟨b, off, e, hc⟩ := h.2.2.2 (j / s) _ hx
    obtain rfl := Option.some.inj e
    rw [Addr.add_lit]
    have hm : j % s < s := Nat.mod_lt _ hs
    have hd : j = j / s * s + j % s := by rw [Nat.mul_comm]; exact (Nat.div_add_mod j s).symm
    have hv2 : (enc xs[j / s])[j % s]? = some v := by
      have hlt : j % s < (enc xs[j / s]).length := by rw [he]; exact hm
      have := flat_get enc s he xs (j / s) _ hx (j % s) _ (List.getElem?_eq_getElem hlt)
      rw [← hd] at this
      rw [List.getElem?_eq_getElem hlt]
      exact this.symm.trans hv
    have := hc _ _ hv2
    rwa [Nat.add_assoc, ← hd] at this
/-- append onto an owned row, from anywhere. -/
theorem L_appendS {P : Program} {w : World} {ops : Array Oper} {rest : List Oper} {o : Oper} {a : Act} {Q : Exit → Act → World → Prop} (hgd : o.guard = none) (s x : Operand) (t : TypeId) (ho : o.op = .call { callee := .builtin .append, args := #[s, x], argTypes := #[t, t] })
    {e : TypeId} {z : Value} {size bytes : Nat} (T : Sl P t e z size bytes) (base : Nat) (v : Value) (n : Nat) (xs : List Value) (hs : a.eval s = v) (hown : w.ownsRow base e size v n xs) (aa : Option Addr) (m c : Nat) (l : List Value) (hx : a.eval x = .slice aa m c)
    (hsrc : Src w aa m l) (hl : l.length = m * size) (h1 : ∀ u ∈ l, u.oneCell' = true) (hb : (n + m) * bytes ≤ 140737488355328) (hm : n + m ≤ maxLen) (hbase : base ≤ w.heap.size)
    (h : ∀ v' w', w'.ownsRow base e size v' (n + m) (xs ++ l) → w.grownBy w' v.ownBlock → wpList P ops Q rest (a.put o.dst v') w') : wpList P ops Q (o :: rest) a w := by
  obtain ⟨i, hi, hz0, hz1, hz2⟩ := info_parts T.inf
  rcases hsrc with ⟨rfl, rfl, rfl⟩ | ⟨ad, rfl, hc⟩
  · refine L_append_none_c hgd s x t ho base e i size T.und hi v n xs hs hown c hx (h v w ?_ ⟨rfl, rfl, rfl, Nat.le_refl _, fun _ _ _ => rfl⟩)
    simpa using hown
  · exact wpList_append_own _ hgd s x t ho base e i z size bytes T.und hi hz0 hz1 hz2 T.zs T.pos v n xs hs hown ad m c l hx hl hc h1 hm hb hbase fun v' w' h2 h3 _ => h v' w' h2 h3
theorem dg_ones (l : List Dg) : ∀ u ∈ l.flatMap dgE, u.oneCell' = true := fun u hu => by
  obtain ⟨d, -, h⟩ := List.mem_flatMap.1 hu
  exact dgE_one d u h
/-- slices.Clone at digests. -/
theorem clone_dg (w : World) (a : Option Addr) (n c : Nat) (l : List Dg) (hs : DS w a n c l) (hn : n * 32 ≤ 140737488355328) :
    Calls Tryz.prog 60 #[.slice a n c] w fun e w' => ∃ t : S3, e = .returned t.v ∧ w'.ownsRow w.heap.size 23 32 t.v t.n (l.flatMap dgE) ∧ t.n = n ∧ Below w.heap.size w w' := by
  have HS := Lib.hid (RS.src dgE_len (by decide) hs)
  have HL := Lib.hid (show (l.flatMap dgE).length = n * 32 ∧ n * 32 ≤ 140737488355328 from ⟨by rw [flat_len dgE 32 dgE_len, hs.1], hn⟩)
  clear hs hn
  have q22 : ∀ (w : World) (a : Option Addr) (n c n' c' : Nat), (binOp .eql 29 (.slice a n c) (.slice none n' c')).run Tryz.prog w = .ok (.bool a.isNone) w := fun w a n c n' c' => Lib.run_eql_slice_nil w _ _ a n c n' c' Tryz.underlying29
  cases a with
  | none =>
    have HN := Lib.hid (show n = 0 ∧ l.flatMap dgE = [] by
      rcases HS.out with ⟨-, h1, h2⟩ | ⟨ad, e, -⟩
      · exact ⟨h1, h2⟩
      · cases e)
    go_enter Tryz.func60, Tryz.ntmps60
    go_wp2_with fail
    go_ret
    exact ⟨⟨none, 0, 0⟩, rfl, by rw [HN.out.2]; exact World.ownsRow_nil _ _ _ _, HN.out.1.symm, Below.refl _ _⟩
  | some ad =>
    go_enter Tryz.func60, Tryz.ntmps60
    go_wp2_with (at_builtin; refine L_appendS rfl _ _ 29 rfl sl23 w.heap.size _ 0 [] rfl (World.ownsRow_made w #[] 0 (Nat.le_refl _) (Nat.zero_le _) (by simp)) (some ad) n c (l.flatMap dgE) rfl (HS.out.below ((Below.refl _ _).alloc (Nat.le_refl _) _)) HL.out.1 (dg_ones l) (by have := HL.out.2; omega) (by unfold maxLen; have := HL.out.2; omega) (by rw [World.size_alloc]; omega) ?_; intro v' w1 ho hg; have HO := Lib.hid ho; have HG := Lib.hid hg; clear ho hg)
    go_ret
    obtain ⟨a1, c1, hv, -⟩ := owns_shape HO.out
    subst hv
    refine ⟨⟨a1, 0 + n, c1⟩, rfl, by have h := HO.out; rw [List.nil_append] at h; exact h, Nat.zero_add n, ?_⟩
    exact ((Below.refl _ w).alloc (Nat.le_refl _) _).grown HG.out (by simp) (by intro k hk; exact Nat.le_of_eq (Option.some.inj hk))
end Go.Proofs.YtoboabkaojfbaaaGreatDoor
namespace Go.Proofs.YtoboabkaojfbaaaGreatDoor
open Go Go.RowKit
set_option maxRecDepth 100000
set_option maxHeartbeats 8000000
set_option linter.unusedVariables false
set_option linter.unusedSimpArgs false
/-! slices.Grow, slices.Concat at digests -/
theorem zeros_dg (z : Value) (hz : z.cells.size = 32) (n : Nat) : (Builtin.zeroCells z.cells n).size = n * 32 := by
  simp [Builtin.zeroCells, hz]
theorem grow_dg (w : World) (n : Nat) (hn : n * 32 ≤ 140737488355328) :
    Calls Tryz.prog 183 #[.slice none 0 0, .int .i64 n] w fun e w' => ∃ t : S3, e = .returned t.v ∧ t.n = 0 ∧ w'.ownsRow w.heap.size 23 32 t.v 0 [] ∧ Below w.heap.size w w' := by
  by_cases h0 : n = 0
  · subst h0
    refine (Any8.slices_Grow_room Tryz.grow183 none 0 0 0 w (by omega) (by omega) (by omega) (by omega)).mono ?_
    rintro e w' ⟨rfl, rfl⟩
    exact ⟨⟨none, 0, 0⟩, rfl, rfl, World.ownsRow_nil _ _ _ _, Below.refl _ _⟩
  · obtain ⟨i, hi, hz0, hz1, hz2⟩ := info_parts sl23.inf
    have hzs := sl23.zs
    have hc := Any8.slices_Grow_grow Tryz.grow183 i _ hi hz0 (by omega) none 0 0 n [] w (by omega) (by omega) (by rw [hz2, Nat.zero_add]; exact hn) (by omega) (by simp) (fun _ => rfl) (fun a h => by cases h)
    refine hc.mono ?_
    rintro e w' ⟨rfl, rfl⟩
    have c1 := grownCap_ge w (0 + n) 0 23
    have c2 := grownCap_le_maxLen w (0 + n) 0 23 (by unfold maxLen; omega)
    refine ⟨⟨some ⟨w.heap.size, 0, none⟩, 0, grownCap w (0 + n) 0 23⟩, rfl, rfl, ⟨by simp, .inr ⟨w.heap.size, grownCap w (0 + n) 0 23, _, rfl, Nat.le_refl _, heap_alloc_new w.drew _, by omega, c2, ?_, by simp⟩⟩, ((Below.refl _ _).drew).alloc (Nat.le_refl _) _⟩
    simp only [Array.size_append, zeros_dg _ hzs, List.size_toArray, List.length_nil]
    change 0 + (0 + n - 0) * 32 + (grownCap w (0 + n) 0 23 - (0 + n)) * 32 = grownCap w (0 + n) 0 23 * 32
    omega
theorem own_n2 {w : World} {B e s : Nat} {v : Value} {n : Nat} {xs : List Value} (h : w.ownsRow B e s v n xs) : ∃ t : S3, v = t.v ∧ t.n = n := by
  obtain ⟨a, c, hv, -⟩ := owns_shape h
  exact ⟨⟨a, n, c⟩, hv, rfl⟩
/-- slices.Concat at three lists of digests. -/
theorem concat_dg (w : World) (g : Nat) (a1 a2 a3 : Option Addr) (n1 n2 n3 c1 c2 c3 : Nat) (l1 l2 l3 : List Dg) (h1 : DS w a1 n1 c1 l1) (h2 : DS w a2 n2 c2 l2) (h3 : DS w a3 n3 c3 l3)
    (hg : w.heap[g]? = some (.cells #[.slice a1 n1 c1, .slice a2 n2 c2, .slice a3 n3 c3] 29 (0, 0))) (hn : n1 ≤ 1000000 ∧ n2 ≤ 1000000 ∧ n3 ≤ 1000000) :
    Calls Tryz.prog 124 #[.slice (some ⟨g, 0, none⟩) 3 3] w fun e w' => ∃ t : S3, e = .returned t.v ∧ w'.ownsRow w.heap.size 23 32 t.v t.n ((l1 ++ (l2 ++ l3)).flatMap dgE) ∧ t.n = n1 + n2 + n3 ∧ Below w.heap.size w w' := by
  have HS1 := Lib.hid (RS.src dgE_len (by decide) h1)
  have HS2 := Lib.hid (RS.src dgE_len (by decide) h2)
  have HS3 := Lib.hid (RS.src dgE_len (by decide) h3)
  have HL := Lib.hid (show (l1.flatMap dgE).length = n1 * 32 ∧ (l2.flatMap dgE).length = n2 * 32 ∧ (l3.flatMap dgE).length = n3 * 32 from ⟨by rw [flat_len dgE 32 dgE_len, h1.1], by rw [flat_len dgE 32 dgE_len, h2.1], by rw [flat_len dgE 32 dgE_len, h3.1]⟩)
  have HN := Lib.hid hn
  have r0 := cell_of_row w g 0 _ _ _ hg
  have r1 := cell_of_row w g 1 _ _ _ hg
  have r2 := cell_of_row w g 2 _ _ _ hg
  simp only [List.getElem?_toArray, List.getElem?_cons_zero, List.getElem?_cons_succ] at r0 r1 r2
  have HGS := Lib.hid (Array.getElem?_eq_some_iff.1 hg).1
  have e1 : wrap64 (n1 : Int) = (n1 : Int) := by unfold wrap64; omega
  have e2 : wrap64 ((n1 : Int) + (n2 : Int)) = ((n1 + n2 : Nat) : Int) := by unfold wrap64; omega
  have e2b : wrap64 (((n1 + n2 : Nat) : Int) + (n3 : Int)) = ((n1 + n2 + n3 : Nat) : Int) := by unfold wrap64; omega
  have e3 : ¬ (n1 : Int) < 0 := by omega
  have e4 : ¬ (((n1 + n2 : Nat) : Int)) < 0 := by omega
  have e5 : ¬ (((n1 + n2 + n3 : Nat) : Int)) < 0 := by omega
  have d1 : decide (((n1 : Nat) : Int) < 0) = false := by simp
  have d2 : decide ((((n1 + n2 : Nat) : Int)) < 0) = false := by rw [decide_eq_false_iff_not]; omega
  have d3 : decide ((((n1 + n2 + n3 : Nat) : Int)) < 0) = false := by rw [decide_eq_false_iff_not]; omega
  have HGR := Lib.hid (show Calls Tryz.prog 183 #[.slice none 0 0, .int .i64 ((n1 + n2 + n3 : Nat) : Int)] w (fun e w' => ∃ a c, e = .returned (.slice a 0 c) ∧ w'.ownsRow w.heap.size 23 32 (.slice a 0 c) 0 [] ∧ Below w.heap.size w w') by
    refine (grow_dg w (n1 + n2 + n3) (by omega)).mono ?_
    rintro e w' ⟨⟨a, n, c⟩, h1, h2, h3, h4⟩
    simp only at h2
    subst h2
    exact ⟨a, c, h1, h3, h4⟩)
  obtain ⟨q2, hq2⟩ : ∃ q : Int, q = ((n1 + n2 : Nat) : Int) := ⟨_, rfl⟩
  obtain ⟨q3, hq3⟩ : ∃ q : Int, q = ((n1 + n2 + n3 : Nat) : Int) := ⟨_, rfl⟩
  rw [← hq2] at e2 e2b e4 d2
  rw [← hq3] at e2b e5 d3 HGR
  clear h1 h2 h3 hg hn hq2 hq3
  go_enter Tryz.func124, Tryz.ntmps124
  go_wp2_with fail
  refine wp_loop_rounds 4 ?_
  rw [rounds_succ]
  go_wp2_with fail
  rw [rounds_succ]
  go_wp2_with fail
  rw [rounds_succ]
  go_wp2_with fail
  rw [rounds_succ]
  go_wp2_with fail
  with_reducible refine HGR.out.mono ?_
  rintro e w1 ⟨b1, k1, rfl, ho, hb⟩
  have q0 := (hb.cell (p := ⟨g, 0, none⟩) HGS.out).trans r0
  have q1 := (hb.cell (p := ⟨g, 1, none⟩) HGS.out).trans r1
  have q2' := (hb.cell (p := ⟨g, 2, none⟩) HGS.out).trans r2
  have HO1 := Lib.hid ho
  have HB1 := Lib.hid hb
  clear ho hb
  go_wp2_with fail
  refine wp_loop_rounds 4 ?_
  rw [rounds_succ]
  go_wp2_with (at_builtin; refine L_appendS rfl _ _ 29 rfl sl23 w.heap.size _ 0 [] rfl HO1.out a1 n1 c1 (l1.flatMap dgE) rfl (HS1.out.below HB1.out) HL.out.1 (dg_ones l1) (by have := HN.out; omega) (by unfold maxLen; have := HN.out; omega) HB1.out.size ?_
               intro v' w2 ho hg
               rw [Nat.zero_add, List.nil_append] at ho
               obtain ⟨b2, k2, hv, -⟩ := owns_shape ho
               subst hv
               have hb : Below w.heap.size w1 w2 := (Below.refl _ _).grown hg HB1.out.size (fun q hq => (HO1.out.lt q hq).1)
               have s1 := (hb.cell (p := ⟨g, 1, none⟩) HGS.out).trans q1
               have s2 := (hb.cell (p := ⟨g, 2, none⟩) HGS.out).trans q2'
               clear q1 q2'
               have q1 := s1
               have q2' := s2
               have HO2 := Lib.hid ho
               have HB2 := Lib.hid (HB1.out.trans hb)
               clear ho hg hb s1 s2)
  rw [rounds_succ]
  go_wp2_with (at_builtin; refine L_appendS rfl _ _ 29 rfl sl23 w.heap.size _ n1 (l1.flatMap dgE) rfl HO2.out a2 n2 c2 (l2.flatMap dgE) rfl (HS2.out.below HB2.out) HL.out.2.1 (dg_ones l2) (by have := HN.out; omega) (by unfold maxLen; have := HN.out; omega) HB2.out.size ?_
               intro v' w3 ho hg
               obtain ⟨b3, k3, hv, -⟩ := owns_shape ho
               subst hv
               have hb : Below w.heap.size w2 w3 := (Below.refl _ _).grown hg HB2.out.size (fun q hq => (HO2.out.lt q hq).1)
               have s1 := (hb.cell (p := ⟨g, 1, none⟩) HGS.out).trans q1
               have s2 := (hb.cell (p := ⟨g, 2, none⟩) HGS.out).trans q2'
               clear q1 q2'
               have q1 := s1
               have q2' := s2
               have HO3 := Lib.hid ho
               have HB3 := Lib.hid (HB2.out.trans hb)
               clear ho hg hb s1 s2)
  rw [rounds_succ]
  go_wp2_with (at_builtin; refine L_appendS rfl _ _ 29 rfl sl23 w.heap.size _ (n1 + n2) (l1.flatMap dgE ++ l2.flatMap dgE) rfl HO3.out a3 n3 c3 (l3.flatMap dgE) rfl (HS3.out.below HB3.out) HL.out.2.2 (dg_ones l3) (by have := HN.out; omega) (by unfold maxLen; have := HN.out; omega) HB3.out.size ?_
               intro v' w4 ho hg
               obtain ⟨b4, k4, hv, -⟩ := owns_shape ho
               subst hv
               have hb : Below w.heap.size w3 w4 := (Below.refl _ _).grown hg HB3.out.size (fun q hq => (HO3.out.lt q hq).1)
               have s1 := (hb.cell (p := ⟨g, 1, none⟩) HGS.out).trans q1
               have s2 := (hb.cell (p := ⟨g, 2, none⟩) HGS.out).trans q2'
               clear q1 q2'
               have q1 := s1
               have q2' := s2
               have HO4 := Lib.hid ho
               have HB4 := Lib.hid (HB3.out.trans hb)
               clear ho hg hb s1 s2)
  rw [rounds_succ]
  go_wp2_with fail
  go_ret
  refine ⟨⟨b4, n1 + n2 + n3, k4⟩, rfl, ?_, rfl, HB4.out⟩
  have h := HO4.out
  rw [List.flatMap_append, List.flatMap_append, ← List.append_assoc]
  exact h
end Go.Proofs.YtoboabkaojfbaaaGreatDoor
