/-
  No cell of these rows narrows 'for every input' (looked for: loops, veiled, ifaces, maps, wideKeys, modest, calm, conditions, laid).
  DERIVED. THE GIVEN ROWS OF THIS SEAT. 3 by the template 'for every input the law returns true; each argument reads behind the call as it read before'; 0 by the template 'total and deterministic' (their statements: YtenflafcjcpecaaTotals.lean).
  GIVEN WITH THE SEED: the statements are not yours to turn. If you find one false, say at which input.
  Laid BY PROGRAM, IN A SANDBOX (cutbox-rows.mjs): the forced cells as the released guide's own fill.sh prints them over the translation de76ecd1f24771f4… (all of the seat's roots in one cut). By AI agents, Wed Nov 11 2026. No macro, syntax, notation, axiom, sorry.
-/
import Derived.Test.YtenflafcjcpecaaChecked
import GoSem.Claim
import GoSem.ClaimJoined
import GoSem.ClaimMapViews
import Derived.JoinedTies
import Derived.KernelRfl
namespace Go.Proofs.Ytenflafcjcpecaa
/- THE CELL 'sum', in the pinned program and in every row, IS THE sha256 OF THE DUMP (.gsa) THAT YtenflafcjcpecaaProg.lean LOADS. Nothing in Lean hashes anything: it is a label: what it is worth is what the hold of that sum in a sandbox is worth. -/
noncomputable def Try.pinned : Pinned := { name := "ytenflafcjcpecaa", sum := "de76ecd1f24771f434d3cadffeecee670b2487ce759461e3f2a144ac4afb55c4", checked := Try.checked }
namespace Rows
def none {H : Type} : Left H := { results := [], args := [] }

/-- 'docketlaw21.CosignNames': WHATEVER THE INPUT: true; the input reads as it did. -/
def cosignNamesSpec : ChangeSpec := { name := "cosignNames", fn := fun _ => fun
  | [] => { results := [.lit (.bool true)], args := [] }
  | _ => none }
def cosignNamesRow : OpenClaim := { program := "ytenflafcjcpecaa", sum := "de76ecd1f24771f434d3cadffeecee670b2487ce759461e3f2a144ac4afb55c4", func := "docket/docketlaw21.CosignNames", spec := "cosignNames", apart := false }
def CosignNamesSaid : Prop := cosignNamesRow.holds Try.pinned (OpenSpec.ofChange cosignNamesSpec)

/-- ITS FALSE NEIGHBOUR: 'it returns false'. Refute it at one input. -/
def cosignNamesWrong : ChangeSpec := { name := "cosignNames", fn := fun _ => fun
  | [] => { results := [.lit (.bool false)], args := [] }
  | _ => none }
def CosignNamesWrongFalsely : Prop := cosignNamesRow.holds Try.pinned (OpenSpec.ofChange cosignNamesWrong)

/-- 'docketlaw10.KindsNames': WHATEVER THE INPUT: true; the input reads as it did. -/
def kindsNamesSpec : ChangeSpec := { name := "kindsNames", fn := fun _ => fun
  | [] => { results := [.lit (.bool true)], args := [] }
  | _ => none }
def kindsNamesRow : OpenClaim := { program := "ytenflafcjcpecaa", sum := "de76ecd1f24771f434d3cadffeecee670b2487ce759461e3f2a144ac4afb55c4", func := "docket/docketlaw10.KindsNames", spec := "kindsNames", apart := false }
def KindsNamesSaid : Prop := kindsNamesRow.holds Try.pinned (OpenSpec.ofChange kindsNamesSpec)

/-- ITS FALSE NEIGHBOUR: 'it returns false'. Refute it at one input. -/
def kindsNamesWrong : ChangeSpec := { name := "kindsNames", fn := fun _ => fun
  | [] => { results := [.lit (.bool false)], args := [] }
  | _ => none }
def KindsNamesWrongFalsely : Prop := kindsNamesRow.holds Try.pinned (OpenSpec.ofChange kindsNamesWrong)

/-- 'docketlaw11.EvalNames': WHATEVER THE INPUT: true; the input reads as it did. -/
def evalNamesSpec : ChangeSpec := { name := "evalNames", fn := fun _ => fun
  | [] => { results := [.lit (.bool true)], args := [] }
  | _ => none }
def evalNamesRow : OpenClaim := { program := "ytenflafcjcpecaa", sum := "de76ecd1f24771f434d3cadffeecee670b2487ce759461e3f2a144ac4afb55c4", func := "docket/docketlaw11.EvalNames", spec := "evalNames", apart := false }
def EvalNamesSaid : Prop := evalNamesRow.holds Try.pinned (OpenSpec.ofChange evalNamesSpec)

/-- ITS FALSE NEIGHBOUR: 'it returns false'. Refute it at one input. -/
def evalNamesWrong : ChangeSpec := { name := "evalNames", fn := fun _ => fun
  | [] => { results := [.lit (.bool false)], args := [] }
  | _ => none }
def EvalNamesWrongFalsely : Prop := evalNamesRow.holds Try.pinned (OpenSpec.ofChange evalNamesWrong)

/- THE SECOND FORM. 'bulk': how many values and letters a reading holds, each counted each time it is reached (what is shared counts as often as it is met; a slice's spare places count too). A statement '..UptoSaid' is the law's where the arguments, and the package variables that the reading takes, are together of bulk at most 1048576: NARROWER than '..Said'. Prove '..Said' where nothing that the law and all that it calls make is longer than what came in: it says more and counts as full. Else prove '..UptoSaid'. A law counts once. -/
mutual
def uptoBulk {H : Type} : DataW H → Nat
  | .lit (.string bytes) => bytes.length + 1
  | .lit _ => 1
  | .nil => 1
  | .ptr d => uptoBulk d + 1
  | .slice elems spare => uptoBulkAll elems + uptoBulkAll spare + 1
  | .agg parts => uptoBulkAll parts + 1
  | .iface _ d => uptoBulk d + 1
  | .map entries => uptoBulkEntries entries + 1
  | .held _ => 1
def uptoBulkAll {H : Type} : List (DataW H) → Nat
  | [] => 0
  | d :: r => uptoBulk d + uptoBulkAll r
def uptoBulkEntries {H : Type} : List (Lit × DataW H) → Nat
  | [] => 0
  | x :: r => uptoBulkEntry x + uptoBulkEntries r
def uptoBulkEntry {H : Type} : Lit × DataW H → Nat
  | (.string bytes, d) => bytes.length + uptoBulk d + 1
  | (_, d) => uptoBulk d + 1
 end
def uptoSmall : (H : Type) → List (DataW H) → Bool := fun _ ds => decide (uptoBulkAll ds ≤ 1048576)
def OpenSpec.upto (s : _root_.Go.ChangeSpec) : _root_.Go.OpenSpec := { _root_.Go.OpenSpec.ofChange s with cond := some uptoSmall }

/-- 'docketlaw21.CosignNames', WHERE WHAT IT READS IS OF BULK AT MOST 1048576: true; the input reads as it did. -/
def cosignNamesUptoRow : OpenClaim := { program := "ytenflafcjcpecaa", sum := "de76ecd1f24771f434d3cadffeecee670b2487ce759461e3f2a144ac4afb55c4", func := "docket/docketlaw21.CosignNames", spec := "cosignNames", apart := false, narrowed := true }
def CosignNamesUptoSaid : Prop := cosignNamesUptoRow.holds Try.pinned (OpenSpec.upto cosignNamesSpec)

/-- 'docketlaw10.KindsNames', WHERE WHAT IT READS IS OF BULK AT MOST 1048576: true; the input reads as it did. -/
def kindsNamesUptoRow : OpenClaim := { program := "ytenflafcjcpecaa", sum := "de76ecd1f24771f434d3cadffeecee670b2487ce759461e3f2a144ac4afb55c4", func := "docket/docketlaw10.KindsNames", spec := "kindsNames", apart := false, narrowed := true }
def KindsNamesUptoSaid : Prop := kindsNamesUptoRow.holds Try.pinned (OpenSpec.upto kindsNamesSpec)

/-- 'docketlaw11.EvalNames', WHERE WHAT IT READS IS OF BULK AT MOST 1048576: true; the input reads as it did. -/
def evalNamesUptoRow : OpenClaim := { program := "ytenflafcjcpecaa", sum := "de76ecd1f24771f434d3cadffeecee670b2487ce759461e3f2a144ac4afb55c4", func := "docket/docketlaw11.EvalNames", spec := "evalNames", apart := false, narrowed := true }
def EvalNamesUptoSaid : Prop := evalNamesUptoRow.holds Try.pinned (OpenSpec.upto evalNamesSpec)

end Rows
end Go.Proofs.Ytenflafcjcpecaa
