/-
  NARROWER THAN 'FOR EVERY INPUT', by the rows' own cells (each row's printed sentence says how): EvalWorth: laid · EvalKept: laid.
  DERIVED. THE GIVEN ROWS OF THIS SEAT. 2 by the template 'for every input the law returns true; each argument reads behind the call as it read before'; 0 by the template 'total and deterministic' (their statements: YtcnckjlmldnblaaGreatDoorTotals.lean).
  GIVEN WITH THE SEED: the statements are not yours to turn. If you find one false, say at which input.
  Laid BY PROGRAM, IN A SANDBOX (cutbox-rows.mjs): the forced cells as the released guide's own fill.sh prints them over the translation dbfa04380ec5bbb5… (all of the seat's roots in one cut). By AI agents, Wed Nov 11 2026. No macro, syntax, notation, axiom, sorry.
-/
import Derived.Test.YtcnckjlmldnblaaGreatDoorChecked
import GoSem.Claim
import GoSem.ClaimJoined
import GoSem.ClaimMapViews
import Derived.JoinedTies
import Derived.KernelRfl
namespace Go.Proofs.YtcnckjlmldnblaaGreatDoor
/- THE CELL 'sum', in the pinned program and in every row, IS THE sha256 OF THE DUMP (.gsa) THAT YtcnckjlmldnblaaGreatDoorProg.lean LOADS. Nothing in Lean hashes anything: it is a label: what it is worth is what the hold of that sum in a sandbox is worth. -/
noncomputable def Tryz.pinned : Pinned := { name := "ytcnckjlmldnblaagreatdoor", sum := "dbfa04380ec5bbb5fb282deabaece97646582f53dd7753bef7054e3ec83b222c", checked := Tryz.checked }
namespace Rows
def none {H : Type} : Left H := { results := [], args := [] }

/- WHAT THE LISTED PACKAGE-LEVEL VARIABLES READ AS WHEN THE CALL BEGINS. Each datum BY PROGRAM (the guide's laid-datum.mjs) off the statement by which the dump's own 'gosem.cut.vars' lays the variable. In a bare row this is a premise. The card (YtcnckjlmldnblaaGreatDoorCards.lean) ties it to the program's text. -/
def laid_docket_docketref9_reserved {H : Type} : DataW H := .agg [.lit (.string [116, 121, 112, 101]), .lit (.string [97, 116, 116, 114, 105, 98, 117, 116, 101]), .lit (.string [115, 116, 97, 103, 101]), .lit (.string [109, 105, 108, 101, 115, 116, 111, 110, 101]), .lit (.string [115, 116, 101, 112]), .lit (.string [105, 110]), .lit (.string [111, 112, 101, 110, 115]), .lit (.string [99, 108, 111, 115, 101, 115]), .lit (.string [114, 101, 97, 99, 104, 101, 100]), .lit (.string [119, 104, 101, 110]), .lit (.string [114, 101, 111, 112, 101, 110]), .lit (.string [105, 110, 116]), .lit (.string [98, 111, 111, 108]), .lit (.string [116, 101, 120, 116]), .lit (.string [116, 105, 109, 101]), .lit (.string [115, 101, 116]), .lit (.string [111, 112, 116, 105, 111, 110, 97, 108]), .lit (.string [105, 102]), .lit (.string [116, 104, 101, 110]), .lit (.string [101, 108, 115, 101]), .lit (.string [111, 114]), .lit (.string [97, 110, 100]), .lit (.string [110, 111, 116]), .lit (.string [116, 114, 117, 101]), .lit (.string [102, 97, 108, 115, 101]), .lit (.string [110, 111, 116, 104, 105, 110, 103]), .lit (.string [104, 97, 115]), .lit (.string [115, 105, 122, 101]), .lit (.string [106, 111, 105, 110]), .lit (.string [111, 112, 101, 110]), .lit (.string [99, 108, 111, 99, 107]), .lit (.string [115, 116, 101, 112, 115]), .lit (.string [109, 105, 110]), .lit (.string [109, 97, 120]), .lit (.string [100, 101, 102, 97, 117, 108, 116])]
def laid_docket_text_reserved {H : Type} : DataW H := .agg [.lit (.string [116, 121, 112, 101]), .lit (.string [97, 116, 116, 114, 105, 98, 117, 116, 101]), .lit (.string [115, 116, 97, 103, 101]), .lit (.string [109, 105, 108, 101, 115, 116, 111, 110, 101]), .lit (.string [115, 116, 101, 112]), .lit (.string [105, 110]), .lit (.string [111, 112, 101, 110, 115]), .lit (.string [99, 108, 111, 115, 101, 115]), .lit (.string [114, 101, 97, 99, 104, 101, 100]), .lit (.string [119, 104, 101, 110]), .lit (.string [114, 101, 111, 112, 101, 110]), .lit (.string [105, 110, 116]), .lit (.string [98, 111, 111, 108]), .lit (.string [116, 101, 120, 116]), .lit (.string [116, 105, 109, 101]), .lit (.string [115, 101, 116]), .lit (.string [111, 112, 116, 105, 111, 110, 97, 108]), .lit (.string [105, 102]), .lit (.string [116, 104, 101, 110]), .lit (.string [101, 108, 115, 101]), .lit (.string [111, 114]), .lit (.string [97, 110, 100]), .lit (.string [110, 111, 116]), .lit (.string [116, 114, 117, 101]), .lit (.string [102, 97, 108, 115, 101]), .lit (.string [110, 111, 116, 104, 105, 110, 103]), .lit (.string [104, 97, 115]), .lit (.string [115, 105, 122, 101]), .lit (.string [106, 111, 105, 110]), .lit (.string [111, 112, 101, 110]), .lit (.string [99, 108, 111, 99, 107]), .lit (.string [115, 116, 101, 112, 115]), .lit (.string [109, 105, 110]), .lit (.string [109, 97, 120]), .lit (.string [100, 101, 102, 97, 117, 108, 116])]

/-- 'docketlaw11.EvalWorth': WHATEVER THE INPUT: true; the input reads as it did. -/
def evalWorthSpec : ChangeSpec := { name := "evalWorth", fn := fun _ => fun
  | [d1, d2, d3, d4] => { results := [.lit (.bool true)], args := [d1, d2, d3, d4] }
  | _ => none }
def evalWorthRow : OpenClaim := { program := "ytcnckjlmldnblaagreatdoor", sum := "dbfa04380ec5bbb5fb282deabaece97646582f53dd7753bef7054e3ec83b222c", func := "docket/docketlaw11.EvalWorth", spec := "evalWorth", unfollowed := true, recurses := true, named := ["docket/text.reserved", "docket/docketref9.reserved"], apart := false, laid := [("docket/docketref9.reserved", laid_docket_docketref9_reserved), ("docket/text.reserved", laid_docket_text_reserved)] }
def EvalWorthSaid : Prop := evalWorthRow.holds Tryz.pinned (OpenSpec.ofChange evalWorthSpec)

/-- ITS FALSE NEIGHBOUR: 'it returns false'. Refute it at one input. -/
def evalWorthWrong : ChangeSpec := { name := "evalWorth", fn := fun _ => fun
  | [d1, d2, d3, d4] => { results := [.lit (.bool false)], args := [d1, d2, d3, d4] }
  | _ => none }
def EvalWorthWrongFalsely : Prop := evalWorthRow.holds Tryz.pinned (OpenSpec.ofChange evalWorthWrong)

/-- 'docketlaw11.EvalKept': WHATEVER THE INPUT: true; the input reads as it did. -/
def evalKeptSpec : ChangeSpec := { name := "evalKept", fn := fun _ => fun
  | [d] => { results := [.lit (.bool true)], args := [d] }
  | _ => none }
def evalKeptRow : OpenClaim := { program := "ytcnckjlmldnblaagreatdoor", sum := "dbfa04380ec5bbb5fb282deabaece97646582f53dd7753bef7054e3ec83b222c", func := "docket/docketlaw11.EvalKept", spec := "evalKept", unfollowed := true, recurses := true, named := ["docket/text.reserved", "docket/docketref9.reserved"], apart := false, laid := [("docket/docketref9.reserved", laid_docket_docketref9_reserved), ("docket/text.reserved", laid_docket_text_reserved)] }
def EvalKeptSaid : Prop := evalKeptRow.holds Tryz.pinned (OpenSpec.ofChange evalKeptSpec)

/-- ITS FALSE NEIGHBOUR: 'it returns false'. Refute it at one input. -/
def evalKeptWrong : ChangeSpec := { name := "evalKept", fn := fun _ => fun
  | [d] => { results := [.lit (.bool false)], args := [d] }
  | _ => none }
def EvalKeptWrongFalsely : Prop := evalKeptRow.holds Tryz.pinned (OpenSpec.ofChange evalKeptWrong)

/- THE SECOND FORM. 'bulk': how many values and letters a reading holds, each counted each time it is reached (what is shared counts as often as it is met; a slice's spare places count too). A statement '..UptoSaid' is the law's where the arguments, and the package variables that the reading takes, are together of bulk at most 1048576: NARROWER than '..Said'. Prove '..Said' where nothing that the law and all that it calls make is longer than what came in: it says more and counts as full. Else prove '..UptoSaid'. A law counts once. -/
mutual
def uptoBulk {H : Type} : DataW H → Nat
  | .lit (.string bytes) => bytes.length + 1
  | .lit _ => 1
  | .nil => 1
  | .ptr d => uptoBulk d + 1
  | .slice elems spare => uptoBulkAll elems + uptoBulkAll spare + 1
  | .agg parts => uptoBulkAll parts + 1
  | .iface _ d => uptoBulk d + 1
  | .map entries => uptoBulkEntries entries + 1
  | .held _ => 1
def uptoBulkAll {H : Type} : List (DataW H) → Nat
  | [] => 0
  | d :: r => uptoBulk d + uptoBulkAll r
def uptoBulkEntries {H : Type} : List (Lit × DataW H) → Nat
  | [] => 0
  | x :: r => uptoBulkEntry x + uptoBulkEntries r
def uptoBulkEntry {H : Type} : Lit × DataW H → Nat
  | (.string bytes, d) => bytes.length + uptoBulk d + 1
  | (_, d) => uptoBulk d + 1
 end
def uptoSmall : (H : Type) → List (DataW H) → Bool := fun _ ds => decide (uptoBulkAll ds ≤ 1048576)
def OpenSpec.upto (s : _root_.Go.ChangeSpec) : _root_.Go.OpenSpec := { _root_.Go.OpenSpec.ofChange s with cond := some uptoSmall }

/-- 'docketlaw11.EvalWorth', WHERE WHAT IT READS IS OF BULK AT MOST 1048576: true; the input reads as it did. -/
def evalWorthUptoRow : OpenClaim := { program := "ytcnckjlmldnblaagreatdoor", sum := "dbfa04380ec5bbb5fb282deabaece97646582f53dd7753bef7054e3ec83b222c", func := "docket/docketlaw11.EvalWorth", spec := "evalWorth", unfollowed := true, recurses := true, named := ["docket/text.reserved", "docket/docketref9.reserved"], apart := false, laid := [("docket/docketref9.reserved", laid_docket_docketref9_reserved), ("docket/text.reserved", laid_docket_text_reserved)], narrowed := true }
def EvalWorthUptoSaid : Prop := evalWorthUptoRow.holds Tryz.pinned (OpenSpec.upto evalWorthSpec)

/-- 'docketlaw11.EvalKept', WHERE WHAT IT READS IS OF BULK AT MOST 1048576: true; the input reads as it did. -/
def evalKeptUptoRow : OpenClaim := { program := "ytcnckjlmldnblaagreatdoor", sum := "dbfa04380ec5bbb5fb282deabaece97646582f53dd7753bef7054e3ec83b222c", func := "docket/docketlaw11.EvalKept", spec := "evalKept", unfollowed := true, recurses := true, named := ["docket/text.reserved", "docket/docketref9.reserved"], apart := false, laid := [("docket/docketref9.reserved", laid_docket_docketref9_reserved), ("docket/text.reserved", laid_docket_text_reserved)], narrowed := true }
def EvalKeptUptoSaid : Prop := evalKeptUptoRow.holds Tryz.pinned (OpenSpec.upto evalKeptSpec)

end Rows
end Go.Proofs.YtcnckjlmldnblaaGreatDoor
