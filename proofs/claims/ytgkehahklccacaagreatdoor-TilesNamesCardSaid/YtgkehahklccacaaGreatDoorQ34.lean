import Derived.Test.YtgkehahklccacaaGreatDoorQ33
import Derived.Test.YtgkehahklccacaaGreatDoorCards
import Derived.Test.YtgkehahklccacaaGreatDoorTie
import Derived.ProofKit
import Derived.OpenShut
import Derived.Deep.DeepHandedRow
import Derived.Lib.LaidTab
import Derived.Lib.LaidU8
import Derived.Lib.SmallJoins
import Derived.SizedLaws
import Derived.MakeChecks
namespace Go.Proofs.YtgkehahklccacaaGreatDoor
open Go Go.RowKit
set_option maxRecDepth 100000
set_option maxHeartbeats 1000000
set_option linter.unusedVariables false
set_option linter.unusedSimpArgs false

open Go.Maps Go.WideMaps Go.ChangeMaps
def fiveD : Dg := ⟨5 :: List.replicate 31 0, rfl⟩
theorem five_eq : dgA fiveD.1 = #[.int .u8 5, .int .u8 0, .int .u8 0, .int .u8 0, .int .u8 0, .int .u8 0, .int .u8 0, .int .u8 0, .int .u8 0, .int .u8 0, .int .u8 0, .int .u8 0, .int .u8 0, .int .u8 0, .int .u8 0, .int .u8 0, .int .u8 0, .int .u8 0, .int .u8 0, .int .u8 0, .int .u8 0, .int .u8 0, .int .u8 0, .int .u8 0, .int .u8 0, .int .u8 0, .int .u8 0, .int .u8 0, .int .u8 0, .int .u8 0, .int .u8 0, .int .u8 0] := by rfl
theorem L_build5 {ops : Array Oper} {rest : List Oper} {o : Oper} {a : Act} {w : World} {Q : Exit → Act → World → Prop} (hg : o.guard = none) (ho : o.op = .build 38 #[(0, .const (.int .u8 5))]) (E : Array Value) (hE : E = dgA fiveD.1)
    (h : wpList Tryz.prog ops Q rest (a.put o.dst (.agg E)) w) : wpList Tryz.prog ops Q (o :: rest) a w := by
  have hb : Tryz.prog.built 38 (#[(0, Operand.const (.int .u8 5))].map fun (i, x) => (i, a.eval x)).toList = some E := by
    rw [hE]
    have e : (#[(0, Operand.const (.int .u8 5))].map fun (x : Nat × Operand) => (x.1, a.eval x.2)).toList = [(0, Value.int .u8 5)] := by simp [Act.eval]
    refine (congrArg _ e).trans ?_
    kernel_rfl
  refine wpList_plain hg fun _ hK => ?_
  unfold Oper.wp execOp
  simp only [ho, Sem.run_bind, run_build w 38 _ _ hb, Result.andThen_ok]
  exact hK _ _ h
set_option maxHeartbeats 4000000
theorem leaf20 (w : World) (i : Int) : Calls Tryz.prog 20 #[.int .i64 i] w fun e w' => e = .returned (.agg (dgA fiveD.1)) ∧ Below w.heap.size w w' := by
  obtain ⟨rb, hrb⟩ : ∃ rb, rb = w.heap.size := ⟨_, rfl⟩
  obtain ⟨w1, hw1⟩ : ∃ w1, w1 = w.alloc (.cells (dgA zDg.1) 38) := ⟨_, rfl⟩
  have hb1 : Below w.heap.size w w1 := by rw [hw1]; exact (Below.refl _ _).alloc (Nat.le_refl _) _
  have hg1 : w1.heap[rb]? = some (.cells (dgA zDg.1) 38 (0, 0)) := by rw [hw1, hrb]; exact heap_alloc_new _ _
  obtain ⟨E, hE⟩ : ∃ E, E = dgA fiveD.1 := ⟨_, rfl⟩
  have HE := Lib.hid hE
  have HES := Lib.hid (show E.size = 32 by rw [hE, dgA_size, fiveD.2])
  have HE1 := Lib.hid (show E.all (·.oneCell') = true by rw [hE]; exact dgA_all _)
  have HTH := Lib.hid (there_block hg1)
  have HGF := Lib.hid (setCells_all hg1 E.toList (by rw [Array.length_toList, HES.out]; rfl))
  have HB := Lib.hid (hb1.grown (setCells_grown rb E.toList 0 w1) hb1.size (fun k hk => by rw [← Option.some.inj hk, hrb]; exact Nat.le_refl _))
  have hw1' : w.alloc (.cells #[.int .u8 0, .int .u8 0, .int .u8 0, .int .u8 0, .int .u8 0, .int .u8 0, .int .u8 0, .int .u8 0, .int .u8 0, .int .u8 0, .int .u8 0, .int .u8 0, .int .u8 0, .int .u8 0, .int .u8 0, .int .u8 0, .int .u8 0, .int .u8 0, .int .u8 0, .int .u8 0, .int .u8 0, .int .u8 0, .int .u8 0, .int .u8 0, .int .u8 0, .int .u8 0, .int .u8 0, .int .u8 0, .int .u8 0, .int .u8 0, .int .u8 0, .int .u8 0] 38) = w1 := hw1.symm
  have hrb' : w.heap.size = rb := hrb.symm
  clear hrb hw1 hb1 hg1 hE
  go_enter Tryz.func20, Tryz.ntmps20
  go_wp2_with (first
    | (refine L_build5 rfl (by rfl) E HE.out ?_)
    | (refine wpList_store_mid rfl 38 (.tmp 2) (.tmp 3) (by rfl) rb 0 E (by rfl) (by rfl) (by rw [HES.out]; exact HTH.out) (by rw [HES.out]; exact info38) HE1.out ?_))
  have HGF9 := Lib.hid (show (w1.setCells rb 0 E.toList).heap[rb]? = some (.cells E 38 (0, 0)) by have := HGF.out; simpa using this)
  refine bodyPost_ret (v := .agg E) (results_cell_row (p := 2) (ty := 38) rfl _ _ rb 38 E (0, 0) _ rfl HGF9.out Tryz.underlying38 rfl (by rw [HES.out]; exact info38)) rfl ⟨by rw [HE.out], HB.out⟩
end Go.Proofs.YtgkehahklccacaaGreatDoor
namespace Go.Proofs.YtgkehahklccacaaGreatDoor
open Go Go.RowKit
set_option maxRecDepth 100000
set_option maxHeartbeats 1000000
set_option linter.unusedVariables false
set_option linter.unusedSimpArgs false

open Go.Maps Go.WideMaps Go.ChangeMaps
set_option maxHeartbeats 8000000
theorem flush_none (w : World) (L : Lay) (τ : Nat → Nat) (gt gd : Nat) (d : Dm) (T : TT) (Y : TY) (h : BT w L τ gt gd d T Y) (hp : Pre d) (hl : T.live d tlN = 0) (hn32 : (d.length tlN).2 = 32) (hf : T.L.length / 256 = 0) :
    Calls Tryz.prog 12 #[.pointer (some ⟨gt, 0, none⟩)] w fun e w' => e = .returned .nilIface ∧ Below w.heap.size w w' := by
  have HLV := Lib.hid (live_any w L τ gt gd d T Y h ⟨#[70, 108, 117, 115, 104]⟩)
  have HH := Lib.hid h
  have HP := Lib.hid hp
  have hord := h.t.ord.1
  have hv0 : ∃ a c, Y.ordV = .slice a (T.L.length / 256) c := by
    rcases hord.2 with ⟨hv, h0⟩ | ⟨g, cap, cur, hv, -⟩
    · exact ⟨none, 0, by rw [hv, h0]⟩
    · exact ⟨_, _, hv⟩
  obtain ⟨oa, oc, hov⟩ := hv0
  have HOV := Lib.hid hov
  obtain ⟨F, hF⟩ : ∃ F, F = T.L.length / 256 := ⟨_, rfl⟩
  rw [← hF] at HOV
  have HF := Lib.hid hF
  have HL := Lib.hid hl
  have hn0 : (d.length tlN).2 ≠ 0 := by rw [hn32]; decide
  have HN0 := Lib.hid hn0
  have HN32 := Lib.hid hn32
  clear h hp hord hov hF
  have hF0 : F = 0 := by rw [HF.out, hf]
  clear hl hn0 hn32 hf
  go_enter Tryz.func12, Tryz.ntmps12
  refine wp_two_k (c := fl0) ⟨_, _, rfl⟩ fun K hK => ?_
  have HK := Lib.hid hK
  clear hK
  conv => arg 2; whnf
  go_wp2_with fail
  refine HK.out _ _ ?_
  clear HK K
  refine wp_two_k (c := dropSeq 1 fl0) ⟨_, _, rfl⟩ fun K hK => ?_
  have HK := Lib.hid hK
  clear hK
  conv => arg 2; whnf
  go_wp2_with (go_at_call 39; refine HLV.out.mono ?_; rintro e w1 ⟨⟨v, rfl, hv⟩, hb1⟩; rw [HL.out] at hv; obtain rfl : v = .nilIface := (hv.resolve_right fun q => q.1 rfl).2; have hBT1 := HH.out.below hb1; have c0 := hBT1.t.cells.1; have c7 := hBT1.t.cells.2.2.2.2.2.2.1; have HBT1 := Lib.hid hBT1; have HLN := Lib.hid (length_any w1 L gd d hBT1.d HP.out tlN (by decide)); have HB1 := Lib.hid hb1; clear hv hb1 hBT1)
  refine HK.out _ _ ?_
  clear HK K
  rw [dropSeq_succ]
  refine wp_two_k (c := dropSeq 2 fl0) ⟨_, _, rfl⟩ fun K hK => ?_
  have HK := Lib.hid hK
  clear hK
  conv => arg 2; whnf
  go_wp2_with (go_at_call 40; refine HLN.out.mono ?_; rintro e w2 ⟨hb2, v, rfl, hv⟩; have HIS := Lib.hid hv.tv; obtain ⟨g2, rfl, hg2, -⟩ := (hv.resolve_left fun q => HN0.out q.1).2; have HG := Lib.hid hg2; clear hv hg2; have hBT2 := HBT1.out.below hb2; have d0 := hBT2.t.cells.1; have d7 := hBT2.t.cells.2.2.2.2.2.2.1; have HBT2 := Lib.hid hBT2; have HB2 := Lib.hid (HB1.out.trans (hb2.mono HB1.out.size)); clear hb2 hBT2 c0 c7)
  refine HK.out _ _ ?_
  clear HK K
  rw [dropSeq_succ]
  refine wp_two_k (c := dropSeq 3 fl0) ⟨_, _, rfl⟩ fun K hK => ?_
  have HK := Lib.hid hK
  clear hK
  conv => arg 2; whnf
  go_wp2_with (go_at_call 41; refine (is_same _ _ _ _ 32 ⟨g2, rfl, HN32.out ▸ HG.out⟩).mono ?_; rintro e wx ⟨rfl, hw⟩; have hw := hw.symm; subst hw)
  refine HK.out _ _ ?_
  clear HK K
  rw [dropSeq_succ]
  rw [HOV.out, hF0] at d7
  clear hF0
  conv => arg 2; whnf
  go_wp2_with fail
  go_ret
  exact ⟨rfl, HB2.out⟩

theorem pre100 : Pre (Dm.new 100) := by
  refine ⟨⟨fun s i h => (by cases h), fun s i h => (by cases h), fun c hc => (by cases hc)⟩, by decide, by decide, by decide, by decide, by decide, by decide, by decide, by decide, fun s h => (by cases h), fun f h => (by cases h)⟩
end Go.Proofs.YtgkehahklccacaaGreatDoor
namespace Go.Proofs.YtgkehahklccacaaGreatDoor
open Go.ChangeShapes Go.WideShapes Go.ChangeAt Go.RowKit
set_option linter.unusedVariables false
set_option maxRecDepth 100000
theorem own : ownKnob Tryz.prog.godebug = none := by kernel_rfl
theorem laidOut : laidOutB Tryz.prog = true := by kernel_rfl
theorem gHalf : Tryz.prog.globalNamed "docket/frame.half" = some 2 := by kernel_rfl
theorem gRound : Tryz.prog.globalNamed "docket/digest.round" = some 3 := by kernel_rfl
theorem gHalfT : (Tryz.prog.globals[2]?).map (·.type) = some 345 := by kernel_rfl
theorem gRoundT : (Tryz.prog.globals[3]?).map (·.type) = some 353 := by kernel_rfl
theorem cHalf : Tryz.prog.cellsOf 345 = 16 := by kernel_rfl
theorem cRound : Tryz.prog.cellsOf 353 = 64 := by kernel_rfl
theorem c255 : Tryz.prog.cellsOf 255 = 1 := by kernel_rfl
def halfI : List Int := [0, 498536548, 997073096, 651767980, 1994146192, 1802195444, 1303535960, 1342533948, 3988292384, 4027552580, 3604390888, 3412177804, 2607071920, 2262029012, 2685067896, 3183342108]
def roundI : List Int := [1116352408, 1899447441, 3049323471, 3921009573, 961987163, 1508970993, 2453635748, 2870763221, 3624381080, 310598401, 607225278, 1426881987, 1925078388, 2162078206, 2614888103, 3248222580, 3835390401, 4022224774, 264347078, 604807628, 770255983, 1249150122, 1555081692, 1996064986, 2554220882, 2821834349, 2952996808, 3210313671, 3336571891, 3584528711, 113926993, 338241895, 666307205, 773529912, 1294757372, 1396182291, 1695183700, 1986661051, 2177026350, 2456956037, 2730485921, 2820302411, 3259730800, 3345764771, 3516065817, 3600352804, 4094571909, 275423344, 430227734, 506948616, 659060556, 883997877, 958139571, 1322822218, 1537002063, 1747873779, 1955562222, 2024104815, 2227730452, 2361852424, 2428436474, 2756734187, 3204031479, 3329325298]
theorem tab_reads {P : Program} {W : World} {name : String} {k : IntKind} {zs : List Int} {g : Nat} {t e : TypeId} {n : Nat}
    (hg : P.globalNamed name = some g) (hty : (P.globals[g]?).map (·.type) = some t) (ht : P.underlying t = some (.array n e)) (he : P.underlying e = some (.int k)) (hce : P.cellsOf e = 1) (hct : P.cellsOf t = n)
    (h : Lib.VarReads P W name (Lib.tabData k zs)) : Lib.TabIs P W name k zs := by
  obtain ⟨g', t', cs, fuel, p, hg', ht', hvar, hd⟩ := h
  obtain rfl := Option.some.inj (hg.symm.trans hg')
  obtain rfl := Option.some.inj (hty.symm.trans ht')
  unfold Lib.TabIs
  rw [hvar, ← Lib.cells_of_tab ht he hce hct hd]
theorem half_same : (Rows.laid_docket_frame_half : DataW Unit) = Lib.tabData .u32 halfI := rfl
theorem round_same : (Rows.laid_docket_digest_round : DataW Unit) = Lib.tabData .u32 roundI := rfl
theorem half_of {W : World} (ht : Lib.TabIs Tryz.prog W "docket/frame.half" .u32 halfI) : HalfTab W := fun i hi => by
  rw [ht.cell gHalf i hi]
  have e : ∀ i : Fin 16, halfI.getD i.val 0 = ((halfL.getD i.val 0).toNat : Int) := by decide +kernel
  rw [e ⟨i, hi⟩]
theorem round_of {W : World} (ht : Lib.TabIs Tryz.prog W "docket/digest.round" .u32 roundI) : RoundTab W := fun i hi => by
  rw [ht.cell gRound i hi]
  have e : ∀ i : Fin 64, roundI.getD i.val 0 = ((kT i.val).toNat : Int) := by decide +kernel
  rw [e ⟨i, hi⟩]
theorem tableB {W : World} (h : laidMetH Tryz.prog [("docket/digest.round", Rows.laid_docket_digest_round), ("docket/frame.half", Rows.laid_docket_frame_half)] W) : HalfTab W ∧ RoundTab W ∧ 4 ≤ W.heap.size := by
  rw [MakeChecks.laidMetH_plain _ _ _ (by kernel_rfl)] at h
  have a := round_of (tab_reads gRound gRoundT Tryz.underlying353 Tryz.underlying255 c255 cRound (Lib.laidMet.reads h (.head _)))
  have b := half_of (tab_reads gHalf gHalfT Tryz.underlying345 Tryz.underlying255 c255 cHalf (Lib.laidMet.reads h (.tail _ (.head _))))
  refine ⟨b, a, ?_⟩
  have := World.block_lt_of_cell? W _ (a 0 (by decide))
  exact this
def setO (v : Array Value) : Obj → Obj
  | .cells _ t frozen => .cells v t frozen
  | o => o
/-- A world for the witnesses: the settled one, the tables holding what their initialisers lay. -/
noncomputable def laidStart (os : Os) : World :=
  { World.holding Tryz.prog os ⟨#[], #[], []⟩ with heap := ((World.holding Tryz.prog os ⟨#[], #[], []⟩).heap.modify 2 (setO (halfI.map fun z => Value.int .u32 z).toArray)).modify 3 (setO (roundI.map fun z => Value.int .u32 z).toArray) }
end Go.Proofs.YtgkehahklccacaaGreatDoor
namespace Go.Proofs.YtgkehahklccacaaGreatDoor
open Go.ChangeShapes Go.WideShapes Go.ChangeAt Go.RowKit
set_option linter.unusedVariables false
set_option maxRecDepth 100000
theorem gDb : Tryz.prog.globalNamed "math/bits.deBruijn64tab" = some 1 := by kernel_rfl
theorem gDbT : (Tryz.prog.globals[1]?).map (·.type) = some 330 := by kernel_rfl
theorem cDb : Tryz.prog.cellsOf 330 = 64 := by kernel_rfl
theorem c5 : Tryz.prog.cellsOf 5 = 1 := by kernel_rfl
def db32I : List Int := [0, 1, 28, 2, 29, 14, 24, 3, 30, 22, 20, 15, 25, 17, 4, 8, 31, 27, 13, 23, 21, 19, 16, 7, 26, 12, 18, 6, 11, 5, 10, 9]
def db64I : List Int := [0, 1, 56, 2, 57, 49, 28, 3, 61, 58, 42, 50, 38, 29, 17, 4, 62, 47, 59, 36, 45, 43, 51, 22, 53, 39, 33, 30, 24, 18, 12, 5, 63, 55, 48, 27, 60, 41, 37, 16, 46, 35, 44, 21, 52, 32, 23, 11, 54, 26, 40, 15, 34, 20, 31, 10, 25, 14, 19, 9, 13, 8, 7, 6]
theorem db_same : (Rows.laid_math_bits_deBruijn64tab : DataW Unit) = Lib.tabData .u8 db64I := rfl
theorem db_of {W : World} (ht : Lib.TabIs Tryz.prog W "math/bits.deBruijn64tab" .u8 db64I) : TabAt 1 Lib.deBruijn64tab W := fun i hi => by
  rw [ht.cell gDb i hi]
  have e : ∀ i : Fin 64, db64I.getD i.val 0 = ((Lib.deBruijn64tab.getD i.val 0 : Nat) : Int) := by decide +kernel
  rw [e ⟨i, hi⟩]
theorem tableN {W : World} (h : laidMetH Tryz.prog [("math/bits.deBruijn32tab", Rows.laid_math_bits_deBruijn32tab), ("math/bits.deBruijn64tab", Rows.laid_math_bits_deBruijn64tab), ("docket/digest.round", Rows.laid_docket_digest_round), ("docket/frame.half", Rows.laid_docket_frame_half)] W) : HalfTab W ∧ RoundTab W ∧ 4 ≤ W.heap.size ∧ TabAt 1 Lib.deBruijn64tab W := by
  rw [MakeChecks.laidMetH_plain _ _ _ (by kernel_rfl)] at h
  have c := db_of (tab_reads gDb gDbT Tryz.underlying330 Tryz.underlying5 c5 cDb (Lib.laidMet.reads h (.tail _ (.head _))))
  have a := round_of (tab_reads gRound gRoundT Tryz.underlying353 Tryz.underlying255 c255 cRound (Lib.laidMet.reads h (.tail _ (.tail _ (.head _)))))
  have b := half_of (tab_reads gHalf gHalfT Tryz.underlying345 Tryz.underlying255 c255 cHalf (Lib.laidMet.reads h (.tail _ (.tail _ (.tail _ (.head _))))))
  refine ⟨b, a, ?_, c⟩
  have := World.block_lt_of_cell? W _ (a 0 (by decide))
  exact this
/-- A world for the witnesses: the settled one, the tables holding what their initialisers lay. -/
noncomputable def laidStart4 (os : Os) : World :=
  { laidStart os with heap := ((laidStart os).heap.modify 0 (setO (db32I.map fun z => Value.int .u8 z).toArray)).modify 1 (setO (db64I.map fun z => Value.int .u8 z).toArray) }
end Go.Proofs.YtgkehahklccacaaGreatDoor
namespace Go.Proofs.YtgkehahklccacaaGreatDoor
open Go Go.RowKit
set_option maxRecDepth 100000
set_option maxHeartbeats 1000000
set_option linter.unusedVariables false
set_option linter.unusedSimpArgs false

open Go.Maps Go.WideMaps Go.ChangeMaps
noncomputable def tn0 : Code := Tryz.f4.body.getD .skip
set_option maxHeartbeats 8000000
theorem L_load_when {P : Program} {ops : Array Oper} {rest : List Oper} {o : Oper} {a : Act} {w : World} {Q : Exit → Act → World → Prop} (hw : Region.wanted o (yielded ops a.tmps) = true) (ty : TypeId) (x : Operand) (ho : o.op = .load ty x)
    (g : Nat) (hx : a.eval x = .pointer (some ⟨g, 0, none⟩)) (t : TypeId) (cs : Array Value) (fr : Nat × Nat) (d : TypeDesc) (hg : w.heap[g]? = some (.cells cs t fr))
    (hu : P.underlying ty = some d) (hd : (match d with | .struct _ | .array _ _ => true | _ => false) = true) (hi : (P.info? ty).map (·.size) = some cs.size)
    (h : wpList P ops Q rest (a.put o.dst (.agg cs)) w) : wpList P ops Q (o :: rest) a w :=
  wpList_step fun K hK => by rw [if_pos hw]; exact wp_load_row ty x ho g hx t cs fr d hg hu hd hi (hK _ _ h)
theorem opened20 (w : World) (L : Lay) (gd : Nat) (h : DAt w L gd (Dm.new 100)) (hh : HalfTab w) (ht : RoundTab w) (h4 : 4 ≤ w.heap.size) :
    Calls Tryz.prog 21 #[.pointer (some ⟨gd, 0, none⟩), .int .i64 32, .int .i64 1, .func (.func 20) #[] #[]] w fun e w' => ∃ (gt : Nat) (τ : Nat → Nat) (Y : TY) (T : TT), e = .returned (.tuple #[.pointer (some ⟨gt, 0, none⟩), .nilIface]) ∧ BT w' L τ gt gd ((Dm.new 100).claim tlN) T Y ∧ T.L = [fiveD] ∧ T.wd = 32 ∧ T.held = 0 ∧ T.live ((Dm.new 100).claim tlN) tlN = 0 ∧ Upd L.ρ L.ρ w w' ∧ ∀ k, τ k ≠ 0 → w.heap.size ≤ k := by
  refine (open_any20 w L gd (Dm.new 100) h pre100 rfl (fun i hi => absurd hi (Nat.not_lt_zero i)) (by decide) (by decide) 32 (by decide) [fiveD] 1 rfl (by decide) 0 (by decide) [] (by rfl) (by rfl) (by decide) (by decide) (by decide) (fun q => absurd q (by decide)) hh ht h4 (fun i x wx hx _ => ?_)).mono ?_
  · have : x = fiveD := by
      match i, hx with
      | 0, hx => exact (Option.some.inj hx).symm
    rw [this]
    exact leaf20 wx i
  · rintro e w' ⟨gt, τ, Y, rfl, hbt, hu, hnw⟩
    exact ⟨gt, τ, Y, _, rfl, hbt, rfl, rfl, rfl, live_fresh _ rfl _ _ _ _ _, hu, hnw⟩
theorem names_go (W : World) (hT : HalfTab W ∧ RoundTab W ∧ 4 ≤ W.heap.size ∧ TabAt 1 Lib.deBruijn64tab W) : Calls Tryz.prog 4 #[] W fun e w' => e = .returned (.bool true) ∧ Below W.heap.size W w' := by
  have HT := Lib.hid hT
  have HND := Lib.hid (newdisk_any W 100 (by decide) (by decide))
  have hn1 : ∀ wx, (binOp .eql 58 (.func (.func 20) #[] #[]) .nilFunc).run Tryz.prog wx = .ok (.bool false) wx := fun wx => by kernel_rfl
  clear hT hn1
  go_enter Tryz.func4, Tryz.ntmps4
  refine wp_two_k (c := tn0) ⟨_, _, rfl⟩ fun K hK => ?_
  have HK := Lib.hid hK
  clear hK
  conv => arg 2; whnf
  go_wp2_with fail
  refine HK.out _ _ ?_
  clear HK K
  refine wp_two_k (c := dropSeq 1 tn0) ⟨_, _, rfl⟩ fun K hK => ?_
  have HK := Lib.hid hK
  clear hK
  conv => arg 2; whnf
  go_wp2_with fail
  refine HK.out _ _ ?_
  clear HK K
  rw [dropSeq_succ]
  refine wp_two_k (c := dropSeq 2 tn0) ⟨_, _, rfl⟩ fun K hK => ?_
  have HK := Lib.hid hK
  clear hK
  conv => arg 2; whnf
  go_wp2_with (go_at_call 10; refine HND.out.mono ?_; rintro e w1 ⟨hb1, L, gd, rfl, hd1, hlo⟩; have HB1 := Lib.hid hb1; have HD1 := Lib.hid hd1; have HLO := Lib.hid hlo; clear hb1 hd1 hlo)
  refine HK.out _ _ ?_
  clear HK K
  rw [dropSeq_succ]
  refine wp_two_k (c := dropSeq 3 tn0) ⟨_, _, rfl⟩ fun K hK => ?_
  have HK := Lib.hid hK
  clear hK
  conv => arg 2; whnf
  go_wp2_with fail
  refine HK.out _ _ ?_
  clear HK K
  rw [dropSeq_succ]
  refine wp_two_k (c := dropSeq 4 tn0) ⟨_, _, rfl⟩ fun K hK => ?_
  have HK := Lib.hid hK
  clear hK
  conv => arg 2; whnf
  go_wp2_with fail
  refine HK.out _ _ ?_
  clear HK K
  rw [dropSeq_succ]
  refine wp_two_k (c := dropSeq 5 tn0) ⟨_, _, rfl⟩ fun K hK => ?_
  have HK := Lib.hid hK
  clear hK
  conv => arg 2; whnf
  go_wp2_with (go_at_call 21; refine (open_no1 w1 gd).mono ?_; rintro e w2 ⟨⟨g1, rfl, hs1, hh1⟩, hb1⟩;  have G1k1 := Lib.hid hh1; have HB2 := Lib.hid (HB1.out.trans (hb1.mono HB1.out.size)); have HD2 := Lib.hid (HD1.out.below hb1); clear hs1 hh1 hb1 )
  refine HK.out _ _ ?_
  clear HK K
  rw [dropSeq_succ]
  refine wp_two_k (c := dropSeq 6 tn0) ⟨_, _, rfl⟩ fun K hK => ?_
  have HK := Lib.hid hK
  clear hK
  conv => arg 2; whnf
  go_wp2_with (go_at_call 21; refine (open_no2 w2 gd).mono ?_; rintro e w3 ⟨⟨g2, rfl, hs2, hh2⟩, hb2⟩; have G1k2 := Lib.hid ((hb2.block g1 (Array.getElem?_eq_some_iff.1 G1k1.out).1).trans G1k1.out); have G2k2 := Lib.hid hh2; have HB3 := Lib.hid (HB2.out.trans (hb2.mono HB2.out.size)); have HD3 := Lib.hid (HD2.out.below hb2); clear hs2 hh2 hb2 G1k1)
  refine HK.out _ _ ?_
  clear HK K
  rw [dropSeq_succ]
  refine wp_two_k (c := dropSeq 7 tn0) ⟨_, _, rfl⟩ fun K hK => ?_
  have HK := Lib.hid hK
  clear hK
  conv => arg 2; whnf
  go_wp2_with (go_at_call 21; refine (open_no3 w3 gd).mono ?_; rintro e w4 ⟨⟨g3, rfl, hs3, hh3⟩, hb3⟩; have G1k3 := Lib.hid ((hb3.block g1 (Array.getElem?_eq_some_iff.1 G1k2.out).1).trans G1k2.out); have G2k3 := Lib.hid ((hb3.block g2 (Array.getElem?_eq_some_iff.1 G2k2.out).1).trans G2k2.out); have G3k3 := Lib.hid hh3; have HB4 := Lib.hid (HB3.out.trans (hb3.mono HB3.out.size)); have HD4 := Lib.hid (HD3.out.below hb3); clear hs3 hh3 hb3 G1k2 G2k2)
  refine HK.out _ _ ?_
  clear HK K
  rw [dropSeq_succ]
  refine wp_two_k (c := dropSeq 8 tn0) ⟨_, _, rfl⟩ fun K hK => ?_
  have HK := Lib.hid hK
  clear hK
  conv => arg 2; whnf
  go_wp2_with (go_at_call 21; refine (open_no4 w4 gd).mono ?_; rintro e w5 ⟨⟨g4, rfl, hs4, hh4⟩, hb4⟩; have G1k4 := Lib.hid ((hb4.block g1 (Array.getElem?_eq_some_iff.1 G1k3.out).1).trans G1k3.out); have G2k4 := Lib.hid ((hb4.block g2 (Array.getElem?_eq_some_iff.1 G2k3.out).1).trans G2k3.out); have G3k4 := Lib.hid ((hb4.block g3 (Array.getElem?_eq_some_iff.1 G3k3.out).1).trans G3k3.out); have G4k4 := Lib.hid hh4; have HB5 := Lib.hid (HB4.out.trans (hb4.mono HB4.out.size)); have HD5 := Lib.hid (HD4.out.below hb4); clear hs4 hh4 hb4 G1k3 G2k3 G3k3)
  refine HK.out _ _ ?_
  clear HK K
  rw [dropSeq_succ]
  refine wp_two_k (c := dropSeq 9 tn0) ⟨_, _, rfl⟩ fun K hK => ?_
  have HK := Lib.hid hK
  clear hK
  conv => arg 2; whnf
  go_wp2_with (go_at_call 21; refine (open_no5 w5 gd).mono ?_; rintro e w6 ⟨⟨g5, rfl, hs5, hh5⟩, hb5⟩; have G1k5 := Lib.hid ((hb5.block g1 (Array.getElem?_eq_some_iff.1 G1k4.out).1).trans G1k4.out); have G2k5 := Lib.hid ((hb5.block g2 (Array.getElem?_eq_some_iff.1 G2k4.out).1).trans G2k4.out); have G3k5 := Lib.hid ((hb5.block g3 (Array.getElem?_eq_some_iff.1 G3k4.out).1).trans G3k4.out); have G4k5 := Lib.hid ((hb5.block g4 (Array.getElem?_eq_some_iff.1 G4k4.out).1).trans G4k4.out); have G5k5 := Lib.hid hh5; have HB6 := Lib.hid (HB5.out.trans (hb5.mono HB5.out.size)); have HD6 := Lib.hid (HD5.out.below hb5); clear hs5 hh5 hb5 G1k4 G2k4 G3k4 G4k4)
  refine HK.out _ _ ?_
  clear HK K
  rw [dropSeq_succ]
  refine wp_two_k (c := dropSeq 10 tn0) ⟨_, _, rfl⟩ fun K hK => ?_
  have HK := Lib.hid hK
  clear hK
  conv => arg 2; whnf
  go_wp2_with (go_at_call 21; refine (open_no6 w6 gd).mono ?_; rintro e w7 ⟨⟨g6, rfl, hs6, hh6⟩, hb6⟩; have G1k6 := Lib.hid ((hb6.block g1 (Array.getElem?_eq_some_iff.1 G1k5.out).1).trans G1k5.out); have G2k6 := Lib.hid ((hb6.block g2 (Array.getElem?_eq_some_iff.1 G2k5.out).1).trans G2k5.out); have G3k6 := Lib.hid ((hb6.block g3 (Array.getElem?_eq_some_iff.1 G3k5.out).1).trans G3k5.out); have G4k6 := Lib.hid ((hb6.block g4 (Array.getElem?_eq_some_iff.1 G4k5.out).1).trans G4k5.out); have G5k6 := Lib.hid ((hb6.block g5 (Array.getElem?_eq_some_iff.1 G5k5.out).1).trans G5k5.out); have G6k6 := Lib.hid hh6; have HB7 := Lib.hid (HB6.out.trans (hb6.mono HB6.out.size)); have HD7 := Lib.hid (HD6.out.below hb6); clear hs6 hh6 hb6 G1k5 G2k5 G3k5 G4k5 G5k5)
  refine HK.out _ _ ?_
  clear HK K
  rw [dropSeq_succ]
  have HCL := Lib.hid (show Calls Tryz.prog 22 #[.pointer (some ⟨gd, 0, none⟩), .string (bs tlN)] w7 (fun e w' => e = .returned (.int .i64 0) ∧ w' = w7) from claims_any w7 L gd (Dm.new 100) HD7.out tlN (by decide))
  refine wp_two_k (c := dropSeq 11 tn0) ⟨_, _, rfl⟩ fun K hK => ?_
  have HK := Lib.hid hK
  clear hK
  conv => arg 2; whnf
  go_wp2_with (go_at_call 22; refine HCL.out.mono ?_; rintro e wx ⟨rfl, hw⟩; have hw := hw.symm; subst hw)
  refine HK.out _ _ ?_
  clear HK K
  rw [dropSeq_succ]
  refine wp_two_k (c := dropSeq 12 tn0) ⟨_, _, rfl⟩ fun K hK => ?_
  have HK := Lib.hid hK
  clear hK
  conv => arg 2; whnf
  go_wp2_with (go_at_call 23; refine (refused_open _ _ (show _ from by first | exact G1k6.out | exact G2k6.out | exact G3k6.out | exact G4k6.out | exact G5k6.out | exact G6k6.out)).mono ?_; rintro e wx ⟨rfl, hw⟩; have hw := hw.symm; subst hw)
  refine HK.out _ _ ?_
  clear HK K
  rw [dropSeq_succ]
  have h7s := HB7.out.size
  have HOP := Lib.hid (opened20 w7 L gd HD7.out (HT.out.1.below HB7.out (by have := HT.out.2.2.1; omega)) (rt_below HT.out.2.1 HB7.out (by have := HT.out.2.2.1; omega)) (by have := HT.out.2.2.1; omega))
  clear h7s
  refine wp_two_k (c := dropSeq 13 tn0) ⟨_, _, rfl⟩ fun K hK => ?_
  have HK := Lib.hid hK
  clear hK
  conv => arg 2; whnf
  go_wp2_with (go_at_call 21; refine HOP.out.mono ?_; rintro e w8 ⟨gt, τ, Y, T, rfl, hbt, hl, hwd, hhe, hlv, hu, hnw⟩; have HBT := Lib.hid hbt; have HTL := Lib.hid hl; have HTW := Lib.hid hwd; have HTH := Lib.hid hhe; have HLV := Lib.hid hlv; have HUU := Lib.hid hu; clear hbt hl hwd hhe hlv hu hnw)
  refine HK.out _ _ ?_
  clear HK K
  rw [dropSeq_succ]
  have hb8 : Below W.heap.size W w8 := ⟨HUU.out.os.trans HB7.out.os, HUU.out.tape.trans HB7.out.tape, HUU.out.output.trans HB7.out.output, Nat.le_trans HB7.out.size HUU.out.size, fun k hk => (HUU.out.block k (Nat.lt_of_lt_of_le hk HB7.out.size) (HLO.out k hk)).trans (HB7.out.block k hk)⟩
  have HB8 := Lib.hid hb8
  clear hb8
  have hle : T.L.length = 1 := by rw [HTL.out]; rfl
  have HS := Lib.hid (show Calls Tryz.prog 24 #[.pointer (some ⟨gt, 0, none⟩)] w8 (fun e w' => e = .returned (.int .i64 1) ∧ w' = w8) from by have := tsize_any w8 τ gt gd T Y HBT.out.t; rw [hle] at this; exact this)
  have HFL := Lib.hid (show Calls Tryz.prog 19 #[.pointer (some ⟨gt, 0, none⟩)] w8 (fun e w' => e = .returned (.int .i64 0) ∧ Below w8.heap.size w8 w') from by have := flushed_any w8 τ gt gd T Y HBT.out.t (by rw [HTH.out]; exact Nat.zero_le _); rw [HTH.out] at this; exact this)
  have HFN := Lib.hid (fun (wx : World) (hb : Below w8.heap.size w8 wx) => flush_none wx L τ gt gd _ T Y (HBT.out.below hb) (show Pre ((Dm.new 100).claim tlN) from ⟨⟨pre100.refs.1, pre100.refs.2, pre100.refs.3⟩, pre100.nn, pre100.ns, pre100.few, pre100.fewS, pre100.acts, pre100.epoch, pre100.fsl, pre100.chl, pre100.leg, pre100.fl⟩) HLV.out (by rfl) (by rw [hle]))
  have HAC := Lib.hid (fun (wx : World) (hb : Below w8.heap.size w8 wx) => show Calls Tryz.prog 17 #[.pointer (some ⟨gd, 0, none⟩)] wx (fun e w' => e = .returned (.int .i64 0) ∧ w' = wx) from acts_any wx L gd _ (HBT.out.below hb).d)
  have HRT := Lib.hid (fun (wx : World) (hb : Below w8.heap.size w8 wx) => show Calls Tryz.prog 25 #[.pointer (some ⟨gt, 0, none⟩), .int .i64 1] wx (fun e w' => e = .returned (.tuple #[.agg (dgA fiveD.1), .nilIface]) ∧ Below wx.heap.size wx w') from by
    have hbw := HB8.out.trans (hb.mono HB8.out.size)
    have := root_some wx L τ gt gd _ T Y (HBT.out.below hb) HLV.out (rt_below HT.out.2.1 hbw (by have := HT.out.2.2.1; omega)) (tab_below HT.out.2.2.2 hbw (by have := HT.out.2.2.1; omega)) 1 (by decide) (by rw [hle]; exact Nat.le_refl _)
    rw [HTL.out] at this
    exact this)
  clear hle
  refine wp_two_k (c := dropSeq 14 tn0) ⟨_, _, rfl⟩ fun K hK => ?_
  have HK := Lib.hid hK
  clear hK
  conv => arg 2; whnf
  go_wp2_with (first | (go_at_call 24; refine HS.out.mono ?_; rintro e wx ⟨rfl, hw⟩; have hw := hw.symm; subst hw) | (go_at_call 19; refine HFL.out.mono ?_; rintro e w9 ⟨rfl, hb9⟩; have HB9 := Lib.hid hb9; clear hb9) | (go_at_call 12; refine (HFN.out _ HB9.out).mono ?_; rintro e w10 ⟨rfl, hb10⟩; have HB10 := Lib.hid (HB9.out.trans (hb10.mono HB9.out.size)); clear hb10) | (go_at_call 17; refine (HAC.out _ HB10.out).mono ?_; rintro e wx ⟨rfl, hw⟩; have hw := hw.symm; subst hw))
  refine HK.out _ _ ?_
  clear HK K
  rw [dropSeq_succ]
  obtain ⟨E, hE⟩ : ∃ E, E = dgA fiveD.1 := ⟨_, rfl⟩
  have hrt := HRT.out w10 HB10.out
  rw [← hE] at hrt
  have HRT2 := Lib.hid hrt
  have HE := Lib.hid hE
  have HES := Lib.hid (show E.size = 32 by rw [hE, dgA_size, fiveD.2])
  have HE1 := Lib.hid (show E.all (·.oneCell') = true by rw [hE]; exact dgA_all _)
  have HBW := Lib.hid (HB8.out.trans (HB10.out.mono HB8.out.size))
  clear hrt hE HRT HS HFL HFN HAC
  refine wp_two_k (c := dropSeq 15 tn0) ⟨_, _, rfl⟩ fun K hK => ?_
  have HK := Lib.hid hK
  clear hK
  conv => arg 2; whnf
  go_wp2_with (first
    | (go_at_call 25; refine HRT2.out.mono ?_; rintro e w11 ⟨rfl, hb11⟩; have HBX := Lib.hid (HBW.out.trans (hb11.mono HBW.out.size)); clear hb11; have HNW := Lib.hid (new_dig w11 E HES.out); obtain ⟨r0, hr0⟩ : ∃ r0, r0 = w11.heap.size := ⟨_, rfl⟩; obtain ⟨w12, hw12⟩ : ∃ w12, w12 = w11.alloc (.cells (dgA zDg.1) 38) := ⟨_, rfl⟩; rw [← hw12, ← hr0] at HNW; have hr0' := hr0.symm; have hw12' : w11.alloc (.cells #[.int .u8 0, .int .u8 0, .int .u8 0, .int .u8 0, .int .u8 0, .int .u8 0, .int .u8 0, .int .u8 0, .int .u8 0, .int .u8 0, .int .u8 0, .int .u8 0, .int .u8 0, .int .u8 0, .int .u8 0, .int .u8 0, .int .u8 0, .int .u8 0, .int .u8 0, .int .u8 0, .int .u8 0, .int .u8 0, .int .u8 0, .int .u8 0, .int .u8 0, .int .u8 0, .int .u8 0, .int .u8 0, .int .u8 0, .int .u8 0, .int .u8 0, .int .u8 0] 38) = w12 := hw12.symm; clear hr0 hw12)
    | (refine wpList_store_mid rfl 38 (.tmp 17) (.tmp 154) (by rfl) r0 0 E (by rfl) (by rfl) HNW.out.2.2 (by rw [HES.out]; exact info38) HE1.out ?_))
  refine HK.out _ _ ?_
  clear HK K
  rw [dropSeq_succ]
  have HG := Lib.hid HNW.out.2.1
  have HBZ := Lib.hid (HBX.out.trans (HNW.out.1.mono (by rw [← hr0']; exact HBX.out.size)))
  clear HNW hr0' hw12'
  generalize w12.setCells r0 0 E.toList = wF at *
  have hld := load_dg wF r0 E HG.out HES.out
  have heq : ∀ wx, (binOp .eql 38 (.agg E) (.agg #[.int .u8 5, .int .u8 0, .int .u8 0, .int .u8 0, .int .u8 0, .int .u8 0, .int .u8 0, .int .u8 0, .int .u8 0, .int .u8 0, .int .u8 0, .int .u8 0, .int .u8 0, .int .u8 0, .int .u8 0, .int .u8 0, .int .u8 0, .int .u8 0, .int .u8 0, .int .u8 0, .int .u8 0, .int .u8 0, .int .u8 0, .int .u8 0, .int .u8 0, .int .u8 0, .int .u8 0, .int .u8 0, .int .u8 0, .int .u8 0, .int .u8 0, .int .u8 0])).run Tryz.prog wx = .ok (.bool true) wx := fun wx => by rw [HE.out, five_eq]; kernel_rfl
  conv => arg 2; whnf
  go_wp2_with (refine L_load_when (by rfl) 38 (.tmp 17) (by rfl) r0 (by rfl) 38 E (0, 0) _ HG.out Tryz.underlying38 rfl (by rw [HES.out]; exact info38) ?_)
  go_ret
  exact ⟨rfl, HBZ.out⟩
end Go.Proofs.YtgkehahklccacaaGreatDoor
