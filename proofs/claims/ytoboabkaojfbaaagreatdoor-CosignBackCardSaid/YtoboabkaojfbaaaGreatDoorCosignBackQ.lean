/-
  PROVED: the Go law docket/docketlaw21.CosignBack returns true for every input; its arguments read afterwards as they read before.
  Conditions: none beside the form's own.
-/
import Derived.Test.YtoboabkaojfbaaaGreatDoorQ53
import Derived.Test.YtoboabkaojfbaaaGreatDoorCards
import Derived.Test.YtoboabkaojfbaaaGreatDoorTie
import Derived.ProofKit
import Derived.OpenShut
import Derived.Deep.DeepHandedRow
import Derived.Lib.LaidTab
import Derived.SizedLaws

namespace Go.Proofs.YtoboabkaojfbaaaGreatDoor.cosignBack
open Go.ChangeShapes Go.WideShapes Go.ChangeAt Go.RowKit
set_option linter.unusedVariables false

set_option maxRecDepth 100000 in
theorem contract (H : Type) (enc : TypeId × Value → H) (W : World) (base : Nat) (args : Array Value) (ds gs : List (DataW H)) (before : List MemPlace)
    (hval : ∀ (j : Nat) t v, Tryz.f9.params[j]? = some t → args[j]? = some v → Value.okWide Tryz.prog W .any base t v)
    (hW : DataW.Whole enc Tryz.prog Tryz.f9.params.toList Rows.cosignBackSpec.vars false W args.toList ds gs before)
    (hsz : (DataW.weightsEach Tryz.prog (Tryz.f9.params.toList ++ Rows.cosignBackSpec.plain.varTypes Tryz.prog) (ds ++ gs)).all (· ≤ reachBytes) = true) (hL : laidMetH Tryz.prog Rows.cosignBackRow.laid W) :
    Calls Tryz.prog 9 args W fun e W' => ∃ v, e = .returned v ∧ Rows.cosignBackSpec.post enc Tryz.prog Tryz.f9 false true false false W args v W' := by
  have hW' := hW
  obtain ⟨p, q, hA0, hV, rfl, hfz, hnd⟩ := hW
  have hA : DataW.TrodAll enc Tryz.prog W 0 (fun _ => true) true Tryz.f9.params.toList args.toList ds p := hA0
  rw [Tryz.params9] at hA hval hsz
  obtain ⟨v0, vs0, d0, ds0, p0, q0, hargs, rfl, rfl, h0, r0⟩ := trodAll_cons hA
  obtain ⟨v1, vs1, d1, ds1, p1, q1, rfl, rfl, rfl, h1, r1⟩ := trodAll_cons r0
  obtain ⟨rfl, rfl, rfl⟩ := trodAll_nil r1
  obtain rfl : args = #[v0, v1] := by cases args; simp_all
  obtain ⟨rfl, rfl⟩ := trodVars_none hV
  have k0 := h0
  have lt0 : ∀ x ∈ p0, x.block < W.heap.size := by obtain ⟨m, hm⟩ := k0; exact DataW.trod_lt m _ _ _ hm
  obtain ⟨y0, a0, b0, c0, e0, rfl, f0, i0, z0⟩ := open_faces (hval 0 35 v0 rfl rfl) h0 (fun q hq => of_decide_eq_true (List.all_eq_true.1 hsz _ (DataW.weights_mem_each (j := 0) rfl (by simp) q hq)))
  obtain ⟨a1, len1, cap1, rfl⟩ := okWide_slice Tryz.underlying49 (hval 1 49 v1 rfl rfl)
  have k1 := h1
  have lt1 : ∀ x ∈ p1, x.block < W.heap.size := by obtain ⟨m, hm⟩ := k1; exact DataW.trod_lt m _ _ _ hm
  obtain ⟨z1, w1, s1⟩ : ∃ zs : List Int, ((a1 = none ∧ len1 = 0 ∧ cap1 = 0 ∧ zs = []) ∨ ∃ x, a1 = some x ∧ len1 ≤ cap1 ∧ cap1 ≤ maxLen ∧ zs.length = cap1 ∧ (∀ i, i < zs.length → W.cell? (x.add i) = some (.int .u8 (zs.getD i 0))) ∧ ∀ n ∈ zs, (Lit.int .u8 n).wf = true) ∧ len1 ≤ 140737488351232 := by
    obtain ⟨fuel, hf⟩ := h1
    rcases open_ints Tryz.underlying49 Tryz.underlying5 (by kernel_rfl) hf with ⟨hcs, hd⟩ | ⟨x, l, c, zs, hcs, _, hl, hm, hz, hd, hcell, hwz⟩
    · simp [Value.cells] at hcs
      obtain ⟨rfl, rfl, rfl⟩ := hcs
      exact ⟨[], .inl ⟨rfl, rfl, rfl, rfl⟩, by omega⟩
    · simp [Value.cells] at hcs
      obtain ⟨rfl, rfl, rfl⟩ := hcs
      have hz' : zs.length = cap1 := by simpa using hz
      refine ⟨zs, .inr ⟨_, rfl, hl, hm, hz', hcell, hwz⟩, ?_⟩
      have hd' := (Prod.mk.inj hd).1
      have hs := sized_slice (elems := lits IntKind.u8 (List.take len1 zs)) (spare := lits IntKind.u8 (List.drop len1 zs)) hsz (j := 1) (t := 49) (e := 5) rfl (by simp [hd']) Tryz.underlying49
      rw [(by kernel_rfl : Tryz.prog.bytesOf 5 = 1)] at hs
      simp only [lits, List.length_map, List.length_take, List.length_drop, reachBytes] at hs
      omega
  obtain ⟨l1, b1⟩ := open_bytes w1 (by omega)
  clear hA0
  have walk : Calls Tryz.prog 9 #[.agg (fcA y0 a0 b0 c0 e0), .slice a1 len1 cap1] W fun e w' => e = .returned (.bool true) ∧ Below W.heap.size W w' := back_go W y0 a0 b0 c0 e0 f0 a1 len1 cap1 l1 b1 s1 (tableC hL)
  refine walk.mono fun e W' ⟨he, bel⟩ => ?_
  subst he
  exact ⟨_, rfl, _, _, _, [], _, [], hW', trodAll_mk1 (shut_bool Tryz.underlying4 _), (trodAll_cons_mk (Below.trod laidOut (by kernel_rfl) (of_decide_eq_true (by kernel_rfl)) k0 bel lt0) (trodAll_cons_mk (Below.trod laidOut (by kernel_rfl) (of_decide_eq_true (by kernel_rfl)) k1 bel lt1) trodAll_mk0)), rfl, bel.frame _, fun h => by cases h⟩

noncomputable def laidWorld (os : Os) : World := laidStart os
theorem reads (os : Os) {H : Type} (enc : TypeId × Value → H) : ∃ places, DataW.whole enc Tryz.prog ((laidWorld os).forCall (fun _ _ => 0) ⟨#[], #[.agg (FB zHd nilS zHd nilS 0 0 zDg zDg nilS nilS).toArray, .slice none 0 0], []⟩).memory Tryz.f9.params.toList Rows.cosignBackSpec.vars false (#[.agg (FB zHd nilS zHd nilS 0 0 zDg zDg nilS nilS).toArray, .slice none 0 0] : Array Value).toList 8 = some ([fcR, .nil], [], places) :=
  ⟨[], by kernel_rfl⟩
set_option maxRecDepth 100000 in
theorem lifted (os : Os) (started : os.Started) (H : Type) (enc : TypeId × Value → H) (F : Stop.Interp) :
    ReturnsInHanded {} Tryz.checked os 9 .any ((OpenSpec.ofChange Rows.cosignBackSpec).preRow enc Tryz.prog Tryz.f9 Rows.cosignBackRow.domain false Rows.cosignBackRow.laid) (((OpenSpec.ofChange Rows.cosignBackSpec).at F).post enc Tryz.prog Tryz.f9 false true false false) := by
  obtain ⟨places, hx⟩ := reads os enc
  refine returnsInHanded_of_row (C := Tryz.checked) (s := OpenSpec.ofChange Rows.cosignBackSpec) own started (by kernel_rfl) Tryz.func9
    (witness_row_at (enc := enc) (C := Tryz.checked) false (laidWorld os) #[.agg (FB zHd nilS zHd nilS 0 0 zDg zDg nilS nilS).toArray, .slice none 0 0] rfl (by kernel_rfl) (by kernel_rfl) (by kernel_rfl)
      (OpenSpec.preRow_of_cond 8 hx (by kernel_rfl) (fun k hk => by cases hk) (by kernel_rfl) (laidMet_of_run' 8 (by kernel_rfl) (by kernel_rfl)))) ?_
  intro W base args ds gs before hval hW _ hk hsz hL _ _
  exact contract H enc W base args ds gs before hval hW hsz hL

theorem and_tt {a b : Bool} (h : a = true) (k : b = true) : (a && b) = true := by rw [h, k]; rfl
theorem fk0 : (fun (s : ChangeSpec) (c : OpenClaim) => (c.wf (OpenSpec.ofChange s) : Bool)) ((OpenSpec.ofChange Rows.cosignBackSpec).bare) Rows.cosignBackRow = true := by kernel_rfl
theorem fk1 : (fun (P : Program) => (laidOutB P : Bool)) Tryz.prog = true := by kernel_rfl
theorem fk2 : (fun (P : Program) => (mapsRowed P : Bool)) Tryz.prog = true := by kernel_rfl
theorem fk3 : (fun (P : Program) (fn : Func) => (fn.params.all (P.readableRec ·) : Bool)) Tryz.prog Tryz.f9 = true := by kernel_rfl
theorem fk4 : (fun (P : Program) (s : ChangeSpec) (c : OpenClaim) => (namedTie P c.named s.vars : Bool)) Tryz.prog ((OpenSpec.ofChange Rows.cosignBackSpec).bare) Rows.cosignBackRow = true := by kernel_rfl
theorem fk5 : (fun (c : OpenClaim) => ((c.stops == []) : Bool)) Rows.cosignBackRow = true := by kernel_rfl
theorem fk6 : (fun (P : Program) => ((P.stops == []) : Bool)) Tryz.prog = true := by kernel_rfl
theorem fk7 : (fun (c : OpenClaim) => ((c.knobs == []) : Bool)) Rows.cosignBackRow = true := by kernel_rfl
theorem fk8 : (fun (P : Program) => ((P.stopKnobs == []) : Bool)) Tryz.prog = true := by kernel_rfl
theorem fk9 : (fun (P : Program) (f : FuncId) (c : OpenClaim) => ((c.inPlace == P.inPlace f) : Bool)) Tryz.prog 9 Rows.cosignBackRow = true := by kernel_rfl
theorem fk10 : (fun (P : Program) (f : FuncId) (c : OpenClaim) => ((c.unfollowed == P.unfollowed f) : Bool)) Tryz.prog 9 Rows.cosignBackRow = true := by kernel_rfl
theorem fk11 : (fun (P : Program) (f : FuncId) (c : OpenClaim) => ((c.recurses == P.recurses f) : Bool)) Tryz.prog 9 Rows.cosignBackRow = true := by kernel_rfl
theorem fk12 : (fun (P : Program) (f : FuncId) (c : OpenClaim) => ((c.named == P.varsNamed f) : Bool)) Tryz.prog 9 Rows.cosignBackRow = true := by kernel_rfl
theorem fk13 : (fun (P : Program) (fn : Func) (s : ChangeSpec) (c : OpenClaim) => ((c.maps == (fn.params.toList ++ s.plain.varTypes P).any (P.mapsRec ·)) : Bool)) Tryz.prog Tryz.f9 ((OpenSpec.ofChange Rows.cosignBackSpec).bare) Rows.cosignBackRow = true := by kernel_rfl
theorem fk14 : (fun (P : Program) (fn : Func) (s : ChangeSpec) (c : OpenClaim) => ((c.ifaces == (fn.params.toList ++ s.plain.varTypes P).any (P.ifacesRec ·)) : Bool)) Tryz.prog Tryz.f9 ((OpenSpec.ofChange Rows.cosignBackSpec).bare) Rows.cosignBackRow = true := by kernel_rfl
theorem fk15 : (fun (P : Program) (fn : Func) (c : OpenClaim) => ((c.mapsOut == P.mapsAmong fn.resultTypes.toList) : Bool)) Tryz.prog Tryz.f9 Rows.cosignBackRow = true := by kernel_rfl
theorem fk16 : (fun (P : Program) (fn : Func) (s : ChangeSpec) (c : OpenClaim) => ((c.loops == (fn.params.toList ++ s.plain.varTypes P).any (P.loopsFrom ·)) : Bool)) Tryz.prog Tryz.f9 ((OpenSpec.ofChange Rows.cosignBackSpec).bare) Rows.cosignBackRow = true := by kernel_rfl
theorem fk17 : (fun (P : Program) (fn : Func) (s : ChangeSpec) (c : OpenClaim) => ((c.wideKeys == (fn.params.toList ++ s.plain.varTypes P ++ fn.resultTypes.toList).any (P.wideKeysFrom ·)) : Bool)) Tryz.prog Tryz.f9 ((OpenSpec.ofChange Rows.cosignBackSpec).bare) Rows.cosignBackRow = true := by kernel_rfl
theorem fk18 : (fun (P : Program) (s : ChangeSpec) => (s.vars.all (P.varReadable ·) : Bool)) Tryz.prog ((OpenSpec.ofChange Rows.cosignBackSpec).bare) = true := by kernel_rfl
theorem fk19 : (fun (P : Program) (fn : Func) => (fn.resultTypes.all (fun t => P.readableRec t && decide (t < P.types.size)) : Bool)) Tryz.prog Tryz.f9 = true := by kernel_rfl
theorem fk20 : (fun (P : Program) (fn : Func) (c : OpenClaim) => ((c.ifacesOut == fn.resultTypes.toList.any (P.ifacesRec ·)) : Bool)) Tryz.prog Tryz.f9 Rows.cosignBackRow = true := by kernel_rfl
theorem fk21 : (fun (P : Program) (fn : Func) (c : OpenClaim) => ((c.loopsOut == fn.resultTypes.toList.any (P.loopsFrom ·)) : Bool)) Tryz.prog Tryz.f9 Rows.cosignBackRow = true := by kernel_rfl
theorem fk22 : (fun (P : Program) (c : OpenClaim) => ((c.plainKeys == P.plainKeys) : Bool)) Tryz.prog Rows.cosignBackRow = true := by kernel_rfl
theorem fk23 : (fun (c : OpenClaim) => (c.shortTexts.isNone : Bool)) Rows.cosignBackRow = true := by kernel_rfl
theorem fk24 : (fun (P : Program) => (P.stopsHeard : Bool)) Tryz.prog = true := by kernel_rfl
theorem fk25 : (fun (P : Program) => (P.mayEnter : Bool)) Tryz.prog = true := by kernel_rfl
theorem fk26 : (fun (P : Program) (c : OpenClaim) => ((c.lifted == P.liftsFinal) : Bool)) Tryz.prog Rows.cosignBackRow = true := by kernel_rfl
theorem fk27 : (fun (P : Program) (c : OpenClaim) => ((P.make == some c.make) : Bool)) Tryz.prog Rows.cosignBackRow = true := by kernel_rfl
theorem fk28 : (fun (P : Program) (fn : Func) (c : OpenClaim) => ((c.kinds == (if c.domain.isEmpty then [] else fn.params.toList.map fun t => match P.underlying t with | some (.int k) => some k | _ => none)) : Bool)) Tryz.prog Tryz.f9 Rows.cosignBackRow = true := by kernel_rfl
theorem fk29 : (fun (c : OpenClaim) => ((c.pinned == c.pinnedBy) : Bool)) Rows.cosignBackRow = true := by kernel_rfl
theorem fk30 : (fun (P : Program) (fn : Func) (s : ChangeSpec) (c : OpenClaim) => ((c.veiled == (fn.params.toList ++ s.plain.varTypes P ++ fn.resultTypes.toList).any (P.veiledRec ·)) : Bool)) Tryz.prog Tryz.f9 ((OpenSpec.ofChange Rows.cosignBackSpec).bare) Rows.cosignBackRow = true := by kernel_rfl
theorem fk31 : (fun (P : Program) (fn : Func) (s : ChangeSpec) (c : OpenClaim) => (c.veiledFits P fn.params.toList (fn.params.toList ++ s.plain.varTypes P ++ fn.resultTypes.toList) : Bool)) Tryz.prog Tryz.f9 ((OpenSpec.ofChange Rows.cosignBackSpec).bare) Rows.cosignBackRow = true := by kernel_rfl
set_option maxRecDepth 100000 in
theorem facts : joinedFacts Tryz.prog 9 Tryz.f9 ((OpenSpec.ofChange Rows.cosignBackSpec).bare) Rows.cosignBackRow = true := by
  unfold joinedFacts
  exact (and_tt (and_tt (and_tt (and_tt (and_tt (and_tt (and_tt (and_tt (and_tt (and_tt (and_tt (and_tt (and_tt (and_tt (and_tt (and_tt (and_tt (and_tt (and_tt (and_tt (and_tt (and_tt (and_tt (and_tt (and_tt (and_tt (and_tt (and_tt (and_tt (and_tt (and_tt fk0 fk1) fk2) fk3) fk4) fk5) fk6) fk7) fk8) fk9) fk10) fk11) fk12) fk13) fk14) fk15) fk16) fk17) fk18) fk19) fk20) fk21) fk22) fk23) fk24) fk25) fk26) fk27) fk28) fk29) fk30) fk31)

theorem said : Rows.CosignBackSaid :=
  OpenClaim.holds_of_cond 9 Tryz.f9 rfl rfl rfl rfl rfl rfl rfl ⟨rfl, rfl, rfl, rfl, rfl⟩ rfl rfl rfl rfl rfl (by kernel_rfl) Tryz.func9 facts
    (of_decide_eq_true (by kernel_rfl)) (by unfold Func.isWrapper; first | (rw [if_pos (by decide +kernel)]; kernel_rfl) | (rw [if_neg (by decide +kernel)]; exact ⟨rfl, rfl⟩))
    (fun os started H enc _ F => by rw [OpenClaim.pre_eq_preRow]; exact lifted os started H enc F)

/-- No parameter wants a stand-in; the program's own looks are off: what the card asks. -/
theorem plain (f : FuncId) (fn : Func) (hf : Tryz.pinned.checked.prog.funcNamed "docket/docketlaw21.CosignBack" = some f) (hfn : Tryz.pinned.checked.prog.funcs[f]? = some fn) :
    true = Tryz.pinned.checked.prog.looks [] ∧ ∀ (j : Nat) t, fn.params[j]? = some t → Tryz.pinned.checked.prog.wantsStandIn t = false := by
  obtain rfl : f = 9 := Option.some.inj ((show Tryz.prog.funcNamed "docket/docketlaw21.CosignBack" = some 9 by kernel_rfl).symm.trans hf) |>.symm
  obtain rfl : fn = Tryz.f9 := (Option.some.inj (Tryz.func9.symm.trans hfn)).symm
  refine ⟨by kernel_rfl, fun j t ht => ?_⟩
  rw [Tryz.params9] at ht
  have hm : t = 35 ∨ t = 49 := by simpa using Array.mem_of_getElem? ht
  rcases hm with rfl | rfl
  · exact (show Tryz.prog.wantsStandIn 35 = false by kernel_rfl)
  · exact (show Tryz.prog.wantsStandIn 49 = false by kernel_rfl)

/-- THE CARD. -/
theorem proved : Rows.CosignBackCardSaid :=
  Claim7.holds_tied_plain_at .later [] _ _ _ _ said (fun _ h => by cases h) (by kernel_rfl) (fun _ h => by cases h) cosignBack_row_tie rfl ⟨rfl, rfl⟩ (by kernel_rfl) rfl plain (by kernel_rfl)
#print axioms proved
end Go.Proofs.YtoboabkaojfbaaaGreatDoor.cosignBack
