/-
  PROVED: the Go law docket/docketlaw11.EvalRight returns true for every input; its arguments read afterwards as they read before.
  Conditions: none beside the form's own.
-/
import Derived.Test.YtcnckjlmldnblaaDoorE40
import Derived.Test.YtcnckjlmldnblaaDoorT1
import Derived.Test.YtcnckjlmldnblaaDoorCards
import Derived.Test.YtcnckjlmldnblaaDoorTie
import Derived.ProofKit
import Derived.OpenShut
import Derived.Deep.DeepHandedRow
import Derived.Lib.LaidTab
import Derived.SizedLaws
namespace Go.Proofs.YtcnckjlmldnblaaDoor
open Go Go.RowKit Go.ChangeShapes Go.WideShapes
set_option linter.unusedVariables false
set_option linter.unusedSimpArgs false
/-- EvalRight's walk, as the frame wants it. -/
theorem evalright_go (w : World) (x : Vl) (a : Option Addr) (l c : Nat) (hx : RS 1 Sv w a l c x.ss) (hi : -9223372036854775808 ≤ x.n ∧ x.n ≤ 9223372036854775807) (hl : l ≤ 8796093022208) (y : Vl) (b : Option Addr) (m d : Nat) (hy : RS 1 Sv w b m d y.ss) (hj : -9223372036854775808 ≤ y.n ∧ y.n ≤ 9223372036854775807) (hm : m ≤ 8796093022208) (ht : ResTab w 1 ∧ 1 < w.heap.size) :
    Calls Tryd.prog 3 #[VA x a l c, VA y b m d] w fun e w' => e = .returned (.bool true) ∧ Below w.heap.size w w' := evalright_walk w x a l c hx y b m d hy hl hm ht.1 ht.2
end Go.Proofs.YtcnckjlmldnblaaDoor
namespace Go.Proofs.YtcnckjlmldnblaaDoor.evalRight
open Go.ChangeShapes Go.WideShapes Go.ChangeAt Go.RowKit
set_option linter.unusedVariables false

set_option maxRecDepth 100000 in
theorem contract (H : Type) (enc : TypeId × Value → H) (W : World) (base : Nat) (args : Array Value) (ds gs : List (DataW H)) (before : List MemPlace)
    (hval : ∀ (j : Nat) t v, Tryd.f3.params[j]? = some t → args[j]? = some v → Value.okWide Tryd.prog W .any base t v)
    (hW : DataW.Whole enc Tryd.prog Tryd.f3.params.toList Rows.evalRightSpec.vars false W args.toList ds gs before)
    (hsz : (DataW.weightsEach Tryd.prog (Tryd.f3.params.toList ++ Rows.evalRightSpec.plain.varTypes Tryd.prog) (ds ++ gs)).all (· ≤ reachBytes) = true) (hL : laidMetH Tryd.prog Rows.evalRightRow.laid W) :
    Calls Tryd.prog 3 args W fun e W' => ∃ v, e = .returned v ∧ Rows.evalRightSpec.post enc Tryd.prog Tryd.f3 false true false false W args v W' := by
  have hW' := hW
  obtain ⟨p, q, hA0, hV, rfl, hfz, hnd⟩ := hW
  have hA : DataW.TrodAll enc Tryd.prog W 0 (fun _ => true) true Tryd.f3.params.toList args.toList ds p := hA0
  rw [Tryd.params3] at hA hval hsz
  obtain ⟨v0, vs0, d0, ds0, p0, q0, hargs, rfl, rfl, h0, r0⟩ := trodAll_cons hA
  obtain ⟨v1, vs1, d1, ds1, p1, q1, rfl, rfl, rfl, h1, r1⟩ := trodAll_cons r0
  obtain ⟨rfl, rfl, rfl⟩ := trodAll_nil r1
  obtain rfl : args = #[v0, v1] := by cases args; simp_all
  obtain ⟨rfl, rfl⟩ := trodVars_none hV
  have k0 := h0
  have lt0 : ∀ x ∈ p0, x.block < W.heap.size := by obtain ⟨m, hm⟩ := k0; exact DataW.trod_lt m _ _ _ hm
  obtain ⟨x0, a0, len0, cap0, rfl, b0, i0, z0⟩ : ∃ (x : Vl) (a : Option Addr) (n c : Nat), v0 = VA x a n c ∧ RS 1 Sv W a n c x.ss ∧ (-9223372036854775808 ≤ x.n ∧ x.n ≤ 9223372036854775807) ∧ n ≤ 8796093022208 := by
    obtain ⟨c0, c1, c2, c3, y0, y1, y2, y3, m, rfl, hd, -, e0, e1, e2, e3⟩ := Go.Joins.open_agg4 Tryd.underlying25 (by kernel_rfl) (by kernel_rfl) (hval 0 25 v0 rfl rfl) h0
    obtain ⟨vk, g0, -, -⟩ := DataW.trod_int Tryd.underlying22 (show DataW.trod _ _ _ _ _ _ _ 22 _ = _ from e0)
    obtain ⟨vn, g1, -, w1⟩ := DataW.trod_int Tryd.underlying3 (show DataW.trod _ _ _ _ _ _ _ 3 _ = _ from e1)
    obtain ⟨vt, g2, -, -⟩ := DataW.trod_string Tryd.underlying9 (show DataW.trod _ _ _ _ _ _ _ 9 _ = _ from e2)
    obtain ⟨sa, sl, sc, ss, g3, hs, hb⟩ := open_textsL (show DataW.trod _ _ _ _ _ _ _ 23 _ = _ from e3) (fun q hq => of_decide_eq_true (List.all_eq_true.1 hsz _ (DataW.weights_mem_each (j := 0) (d := d0) rfl (by simp) q (by
      rw [hd]
      simp only [DataW.weights, Tryd.underlying25, List.map_cons, List.map_nil, DataW.weightsEach, List.mem_append, List.append_nil]
      exact Or.inr (Or.inr (Or.inr hq))))))
    simp only [List.cons.injEq, and_true] at g0 g1 g2 g3
    subst g0 g1 g2 g3
    exact ⟨⟨vk, vn, vt, ss⟩, sa, sl, sc, rfl, hs, bounds_i64 w1, hb⟩
  have k1 := h1
  have lt1 : ∀ x ∈ p1, x.block < W.heap.size := by obtain ⟨m, hm⟩ := k1; exact DataW.trod_lt m _ _ _ hm
  obtain ⟨x1, a1, len1, cap1, rfl, b1, i1, z1⟩ : ∃ (x : Vl) (a : Option Addr) (n c : Nat), v1 = VA x a n c ∧ RS 1 Sv W a n c x.ss ∧ (-9223372036854775808 ≤ x.n ∧ x.n ≤ 9223372036854775807) ∧ n ≤ 8796093022208 := by
    obtain ⟨c0, c1, c2, c3, y0, y1, y2, y3, m, rfl, hd, -, e0, e1, e2, e3⟩ := Go.Joins.open_agg4 Tryd.underlying25 (by kernel_rfl) (by kernel_rfl) (hval 1 25 v1 rfl rfl) h1
    obtain ⟨vk, g0, -, -⟩ := DataW.trod_int Tryd.underlying22 (show DataW.trod _ _ _ _ _ _ _ 22 _ = _ from e0)
    obtain ⟨vn, g1, -, w1⟩ := DataW.trod_int Tryd.underlying3 (show DataW.trod _ _ _ _ _ _ _ 3 _ = _ from e1)
    obtain ⟨vt, g2, -, -⟩ := DataW.trod_string Tryd.underlying9 (show DataW.trod _ _ _ _ _ _ _ 9 _ = _ from e2)
    obtain ⟨sa, sl, sc, ss, g3, hs, hb⟩ := open_textsL (show DataW.trod _ _ _ _ _ _ _ 23 _ = _ from e3) (fun q hq => of_decide_eq_true (List.all_eq_true.1 hsz _ (DataW.weights_mem_each (j := 1) (d := d1) rfl (by simp) q (by
      rw [hd]
      simp only [DataW.weights, Tryd.underlying25, List.map_cons, List.map_nil, DataW.weightsEach, List.mem_append, List.append_nil]
      exact Or.inr (Or.inr (Or.inr hq))))))
    simp only [List.cons.injEq, and_true] at g0 g1 g2 g3
    subst g0 g1 g2 g3
    exact ⟨⟨vk, vn, vt, ss⟩, sa, sl, sc, rfl, hs, bounds_i64 w1, hb⟩
  clear hA0
  have walk : Calls Tryd.prog 3 #[VA x0 a0 len0 cap0, VA x1 a1 len1 cap1] W fun e w' => e = .returned (.bool true) ∧ Below W.heap.size W w' := evalright_go W x0 a0 len0 cap0 b0 i0 z0 x1 a1 len1 cap1 b1 i1 z1 (table1 hL)
  refine walk.mono fun e W' ⟨he, bel⟩ => ?_
  subst he
  exact ⟨_, rfl, _, _, _, [], _, [], hW', trodAll_mk1 (shut_bool Tryd.underlying4 _), (trodAll_cons_mk (Below.trod laidOut (by kernel_rfl) (of_decide_eq_true (by kernel_rfl)) k0 bel lt0) (trodAll_cons_mk (Below.trod laidOut (by kernel_rfl) (of_decide_eq_true (by kernel_rfl)) k1 bel lt1) trodAll_mk0)), rfl, bel.frame _, fun h => by cases h⟩

noncomputable def laidWorld (os : Os) : World := laidStart os
theorem reads (os : Os) {H : Type} (enc : TypeId × Value → H) : ∃ places, DataW.whole enc Tryd.prog ((laidWorld os).forCall (fun _ _ => 0) ⟨#[], #[.agg #[.int .i64 0, .int .i64 0, .string ByteArray.empty, .slice none 0 0], .agg #[.int .i64 0, .int .i64 0, .string ByteArray.empty, .slice none 0 0]], []⟩).memory Tryd.f3.params.toList Rows.evalRightSpec.vars false (#[.agg #[.int .i64 0, .int .i64 0, .string ByteArray.empty, .slice none 0 0], .agg #[.int .i64 0, .int .i64 0, .string ByteArray.empty, .slice none 0 0]] : Array Value).toList 8 = some ([.agg [.lit (.int .i64 0), .lit (.int .i64 0), .lit (.string []), .nil], .agg [.lit (.int .i64 0), .lit (.int .i64 0), .lit (.string []), .nil]], [], places) :=
  ⟨[], by kernel_rfl⟩
set_option maxRecDepth 100000 in
theorem lifted (os : Os) (started : os.Started) (H : Type) (enc : TypeId × Value → H) (F : Stop.Interp) :
    ReturnsInHanded {} Tryd.checked os 3 .any ((OpenSpec.ofChange Rows.evalRightSpec).preRow enc Tryd.prog Tryd.f3 Rows.evalRightRow.domain false Rows.evalRightRow.laid) (((OpenSpec.ofChange Rows.evalRightSpec).at F).post enc Tryd.prog Tryd.f3 false true false false) := by
  obtain ⟨places, hx⟩ := reads os enc
  refine returnsInHanded_of_row (C := Tryd.checked) (s := OpenSpec.ofChange Rows.evalRightSpec) own started (by kernel_rfl) Tryd.func3
    (witness_row_at (enc := enc) (C := Tryd.checked) false (laidWorld os) #[.agg #[.int .i64 0, .int .i64 0, .string ByteArray.empty, .slice none 0 0], .agg #[.int .i64 0, .int .i64 0, .string ByteArray.empty, .slice none 0 0]] rfl (by kernel_rfl) (by kernel_rfl) (by kernel_rfl)
      (OpenSpec.preRow_of_cond 8 hx (by kernel_rfl) (fun k hk => by cases hk) (by kernel_rfl) (laidMet_of_run' 8 (by kernel_rfl) (by kernel_rfl)))) ?_
  intro W base args ds gs before hval hW _ hk hsz hL _ _
  exact contract H enc W base args ds gs before hval hW hsz hL

theorem said : Rows.EvalRightSaid :=
  OpenClaim.holds_of_cond 3 Tryd.f3 rfl rfl rfl rfl rfl rfl rfl ⟨rfl, rfl, rfl, rfl, rfl⟩ rfl rfl rfl rfl rfl (by kernel_rfl) Tryd.func3 (by kernel_rfl)
    (of_decide_eq_true (by kernel_rfl)) (by unfold Func.isWrapper; first | (rw [if_pos (by decide +kernel)]; kernel_rfl) | (rw [if_neg (by decide +kernel)]; exact ⟨rfl, rfl⟩))
    (fun os started H enc _ F => by rw [OpenClaim.pre_eq_preRow]; exact lifted os started H enc F)

/-- No parameter wants a stand-in; the program's own looks are off: what the card asks. -/
theorem plain (f : FuncId) (fn : Func) (hf : Tryd.pinned.checked.prog.funcNamed "docket/docketlaw11.EvalRight" = some f) (hfn : Tryd.pinned.checked.prog.funcs[f]? = some fn) :
    true = Tryd.pinned.checked.prog.looks [] ∧ ∀ (j : Nat) t, fn.params[j]? = some t → Tryd.pinned.checked.prog.wantsStandIn t = false := by
  obtain rfl : f = 3 := Option.some.inj ((show Tryd.prog.funcNamed "docket/docketlaw11.EvalRight" = some 3 by kernel_rfl).symm.trans hf) |>.symm
  obtain rfl : fn = Tryd.f3 := (Option.some.inj (Tryd.func3.symm.trans hfn)).symm
  refine ⟨by kernel_rfl, fun j t ht => ?_⟩
  rw [Tryd.params3] at ht
  have hm : t = 25 ∨ t = 25 := by simpa using Array.mem_of_getElem? ht
  rcases hm with rfl | rfl
  · exact (show Tryd.prog.wantsStandIn 25 = false by kernel_rfl)
  · exact (show Tryd.prog.wantsStandIn 25 = false by kernel_rfl)

/-- THE CARD. -/
theorem proved : Rows.EvalRightCardSaid :=
  Claim7.holds_tied_plain_at .later [] _ _ _ _ said (fun _ h => by cases h) (by kernel_rfl) (fun _ h => by cases h) evalRight_row_tie rfl ⟨rfl, rfl⟩ (by kernel_rfl) rfl plain (by kernel_rfl)
#print axioms proved
end Go.Proofs.YtcnckjlmldnblaaDoor.evalRight
