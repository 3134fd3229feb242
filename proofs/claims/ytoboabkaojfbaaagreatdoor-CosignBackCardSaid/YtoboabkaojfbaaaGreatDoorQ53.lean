import Derived.Test.YtoboabkaojfbaaaGreatDoorCards
import Derived.Test.YtoboabkaojfbaaaGreatDoorTie
import Derived.ProofKit
import Derived.OpenShut
import Derived.Deep.DeepHandedRow
import Derived.Lib.LaidTab
import Derived.Lib.LaidU8
import Derived.Lib.SmallJoins
import Derived.SizedLaws
import Derived.MakeChecks
import Derived.Test.YtoboabkaojfbaaaGreatDoorQ32
import Derived.Test.YtoboabkaojfbaaaGreatDoorQ52
namespace Go.Proofs.YtoboabkaojfbaaaGreatDoor
open Go Go.RowKit
set_option maxRecDepth 100000
set_option maxHeartbeats 8000000
set_option linter.unusedVariables false
set_option linter.unusedSimpArgs false
/-! The tables laid -/
open Go.ChangeShapes Go.WideShapes Go.ChangeAt
theorem own : ownKnob Tryz.prog.godebug = none := by kernel_rfl
theorem laidOut : laidOutB Tryz.prog = true := by kernel_rfl
theorem gRound : Tryz.prog.globalNamed "docket/digest.round" = some 1 := by kernel_rfl
theorem gRoundT : (Tryz.prog.globals[1]?).map (·.type) = some 340 := by kernel_rfl
theorem cRound : Tryz.prog.cellsOf 340 = 64 := by kernel_rfl
theorem cU32 : Tryz.prog.cellsOf 216 = 1 := by kernel_rfl
theorem gDb : Tryz.prog.globalNamed "math/bits.deBruijn64tab" = some 3 := by kernel_rfl
theorem gDbT : (Tryz.prog.globals[3]?).map (·.type) = some 307 := by kernel_rfl
theorem cDb : Tryz.prog.cellsOf 307 = 64 := by kernel_rfl
theorem cU8 : Tryz.prog.cellsOf 5 = 1 := by kernel_rfl
def roundI : List Int := [1116352408, 1899447441, 3049323471, 3921009573, 961987163, 1508970993, 2453635748, 2870763221, 3624381080, 310598401, 607225278, 1426881987, 1925078388, 2162078206, 2614888103, 3248222580, 3835390401, 4022224774, 264347078, 604807628, 770255983, 1249150122, 1555081692, 1996064986, 2554220882, 2821834349, 2952996808, 3210313671, 3336571891, 3584528711, 113926993, 338241895, 666307205, 773529912, 1294757372, 1396182291, 1695183700, 1986661051, 2177026350, 2456956037, 2730485921, 2820302411, 3259730800, 3345764771, 3516065817, 3600352804, 4094571909, 275423344, 430227734, 506948616, 659060556, 883997877, 958139571, 1322822218, 1537002063, 1747873779, 1955562222, 2024104815, 2227730452, 2361852424, 2428436474, 2756734187, 3204031479, 3329325298]
def db32I : List Int := [0, 1, 28, 2, 29, 14, 24, 3, 30, 22, 20, 15, 25, 17, 4, 8, 31, 27, 13, 23, 21, 19, 16, 7, 26, 12, 18, 6, 11, 5, 10, 9]
def db64I : List Int := [0, 1, 56, 2, 57, 49, 28, 3, 61, 58, 42, 50, 38, 29, 17, 4, 62, 47, 59, 36, 45, 43, 51, 22, 53, 39, 33, 30, 24, 18, 12, 5, 63, 55, 48, 27, 60, 41, 37, 16, 46, 35, 44, 21, 52, 32, 23, 11, 54, 26, 40, 15, 34, 20, 31, 10, 25, 14, 19, 9, 13, 8, 7, 6]
theorem tab_reads {P : Program} {W : World} {name : String} {k : IntKind} {zs : List Int} {g : Nat} {t e : TypeId} {n : Nat}
    (hg : P.globalNamed name = some g) (hty : (P.globals[g]?).map (·.type) = some t) (ht : P.underlying t = some (.array n e)) (he : P.underlying e = some (.int k)) (hce : P.cellsOf e = 1) (hct : P.cellsOf t = n)
    (h : Lib.VarReads P W name (Lib.tabData k zs)) : Lib.TabIs P W name k zs := by
  obtain ⟨g', t', cs, fuel, p, hg', ht', hvar, hd⟩ := h
  obtain rfl := Option.some.inj (hg.symm.trans hg')
  obtain rfl := Option.some.inj (hty.symm.trans ht')
  unfold Lib.TabIs
  rw [hvar, ← Lib.cells_of_tab ht he hce hct hd]
theorem round_of {W : World} (ht : Lib.TabIs Tryz.prog W "docket/digest.round" .u32 roundI) : RoundTab W := fun i hi => by
  rw [ht.cell gRound i hi]
  have e : ∀ i : Fin 64, roundI.getD i.val 0 = ((kT i.val).toNat : Int) := by decide +kernel
  rw [e ⟨i, hi⟩]
theorem db_of {W : World} (ht : Lib.TabIs Tryz.prog W "math/bits.deBruijn64tab" .u8 db64I) : TabAt 3 Lib.deBruijn64tab W := fun i hi => by
  rw [ht.cell gDb i hi]
  have e : ∀ i : Fin 64, db64I.getD i.val 0 = ((Lib.deBruijn64tab.getD i.val 0 : Nat) : Int) := by decide +kernel
  rw [e ⟨i, hi⟩]
theorem tableC {W : World} (h : laidMetH Tryz.prog [("math/bits.deBruijn32tab", Rows.laid_math_bits_deBruijn32tab), ("math/bits.deBruijn64tab", Rows.laid_math_bits_deBruijn64tab), ("docket/digest.round", Rows.laid_docket_digest_round)] W) : Tabs W := by
  rw [MakeChecks.laidMetH_plain _ _ _ (by kernel_rfl)] at h
  have c := db_of (tab_reads gDb gDbT Tryz.underlying307 Tryz.underlying5 cU8 cDb (Lib.laidMet.reads h (.tail _ (.head _))))
  have a := round_of (tab_reads gRound gRoundT Tryz.underlying340 Tryz.underlying216 cU32 cRound (Lib.laidMet.reads h (.tail _ (.tail _ (.head _)))))
  refine ⟨?_, a, c⟩
  have := World.block_lt_of_cell? W _ (c 0 (by decide))
  exact this
def setO (v : Array Value) : Obj → Obj
  | .cells _ t frozen => .cells v t frozen
  | o => o
/-- A world for the witnesses: the settled one, the tables holding what their initialisers lay. -/
noncomputable def laidStart (os : Os) : World :=
  { World.holding Tryz.prog os ⟨#[], #[], []⟩ with heap := (((World.holding Tryz.prog os ⟨#[], #[], []⟩).heap.modify 1 (setO (roundI.map fun z => Value.int .u32 z).toArray)).modify 2 (setO (db32I.map fun z => Value.int .u8 z).toArray)).modify 3 (setO (db64I.map fun z => Value.int .u8 z).toArray) }
end Go.Proofs.YtoboabkaojfbaaaGreatDoor
namespace Go.Proofs.YtoboabkaojfbaaaGreatDoor
open Go Go.RowKit
set_option maxRecDepth 100000
set_option maxHeartbeats 8000000
set_option linter.unusedVariables false
set_option linter.unusedSimpArgs false
/-! CosignBack, as the frame wants it -/
open Go.ChangeShapes Go.WideShapes Go.ChangeAt
theorem back_go (W : World) (f : Fc) (sA sB wA wB : S3) (hF : FcAt W f sA sB wA wB) (a : Option Addr) (n c : Nat) (raw : List UInt8) (hr : R8 W a n c raw) (hn : n ≤ 140737488351232) (ht : Tabs W) :
    Calls Tryz.prog 9 #[.agg (fcA f sA sB wA wB), .slice a n c] W fun e w' => e = .returned (.bool true) ∧ Below W.heap.size W w' := back_any W f sA sB wA wB hF a n c raw hr ht
theorem open_bytes {W : World} {a : Option Addr} {len cap : Nat} {zs : List Int}
    (h : (a = none ∧ len = 0 ∧ cap = 0 ∧ zs = []) ∨ ∃ x, a = some x ∧ len ≤ cap ∧ cap ≤ maxLen ∧ zs.length = cap ∧ (∀ i, i < zs.length → W.cell? (x.add i) = some (.int .u8 (zs.getD i 0))) ∧ ∀ n ∈ zs, (Lit.int .u8 n).wf = true)
    (hc : len ≤ 281474976710656) : ∃ l, R8 W a len cap l := by
  rcases h with ⟨rfl, rfl, rfl, rfl⟩ | ⟨x, rfl, hl, hm, hz, hcell, hwz⟩
  · exact ⟨[], rfl, Nat.le_refl _, by decide, fun i hi => by simp at hi⟩
  · refine ⟨(zs.take len).map (fun z => UInt8.ofNat z.toNat), by simp; omega, hl, hc, fun i hi => ?_⟩
    simp at hi
    have h1 := hcell i (by omega)
    obtain ⟨b, off, spot⟩ := x
    have hspot : spot = none := by
      by_cases h0 : i = 0
      · subst h0
        simpa [Addr.add] using World.cell?_spot h1
      · have h2 := hcell 0 (by omega)
        simpa [Addr.add] using World.cell?_spot h2
    subst hspot
    refine ⟨b, off, rfl, ?_⟩
    rw [Addr.add_lit] at h1
    rw [h1]
    have hg : zs.getD i 0 = zs[i]'(by omega) := by simp [List.getD, show i < zs.length by omega]
    have hw := bounds_u8 (hwz (zs.getD i 0) (by rw [hg]; exact List.getElem_mem _))
    rw [hg] at hw ⊢
    simp only [List.getElem_map, List.getElem_take]
    congr 2
    simp; omega
end Go.Proofs.YtoboabkaojfbaaaGreatDoor
