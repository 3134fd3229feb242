/-
  NARROWER THAN 'FOR EVERY INPUT', by the rows' own cells (each row's printed sentence says how): EvalRight: laid · EvalSees: laid · EvalLocal: laid · EvalLazy: laid · EvalInts: laid · EvalSets: laid · EvalSound: laid.
  DERIVED. THE GIVEN ROWS OF THIS SEAT. 7 by the template 'for every input the law returns true; each argument reads behind the call as it read before'; 0 by the template 'total and deterministic' (their statements: YtcnckjlmldnblaaDoorTotals.lean).
  GIVEN WITH THE SEED: the statements are not yours to turn. If you find one false, say at which input.
  Laid BY PROGRAM, IN A SANDBOX (cutbox-rows.mjs): the forced cells as the released guide's own fill.sh prints them over the translation 906e637609d8012d… (all of the seat's roots in one cut). By AI agents, Wed Nov 11 2026. No macro, syntax, notation, axiom, sorry.
-/
import Derived.Test.YtcnckjlmldnblaaDoorChecked
import GoSem.Claim
import GoSem.ClaimJoined
import GoSem.ClaimMapViews
import Derived.JoinedTies
import Derived.KernelRfl
namespace Go.Proofs.YtcnckjlmldnblaaDoor
/- THE CELL 'sum', in the pinned program and in every row, IS THE sha256 OF THE DUMP (.gsa) THAT YtcnckjlmldnblaaDoorProg.lean LOADS. Nothing in Lean hashes anything: it is a label: what it is worth is what the hold of that sum in a sandbox is worth. -/
noncomputable def Tryd.pinned : Pinned := { name := "ytcnckjlmldnblaadoor", sum := "906e637609d8012dc22932696c807c21abd1a86ab9a423d153e255536c8571e1", checked := Tryd.checked }
namespace Rows
def none {H : Type} : Left H := { results := [], args := [] }

/- WHAT THE LISTED PACKAGE-LEVEL VARIABLES READ AS WHEN THE CALL BEGINS. Each datum BY PROGRAM (the guide's laid-datum.mjs) off the statement by which the dump's own 'gosem.cut.vars' lays the variable. In a bare row this is a premise. The card (YtcnckjlmldnblaaDoorCards.lean) ties it to the program's text. -/
def laid_docket_text_reserved {H : Type} : DataW H := .agg [.lit (.string [116, 121, 112, 101]), .lit (.string [97, 116, 116, 114, 105, 98, 117, 116, 101]), .lit (.string [115, 116, 97, 103, 101]), .lit (.string [109, 105, 108, 101, 115, 116, 111, 110, 101]), .lit (.string [115, 116, 101, 112]), .lit (.string [105, 110]), .lit (.string [111, 112, 101, 110, 115]), .lit (.string [99, 108, 111, 115, 101, 115]), .lit (.string [114, 101, 97, 99, 104, 101, 100]), .lit (.string [119, 104, 101, 110]), .lit (.string [114, 101, 111, 112, 101, 110]), .lit (.string [105, 110, 116]), .lit (.string [98, 111, 111, 108]), .lit (.string [116, 101, 120, 116]), .lit (.string [116, 105, 109, 101]), .lit (.string [115, 101, 116]), .lit (.string [111, 112, 116, 105, 111, 110, 97, 108]), .lit (.string [105, 102]), .lit (.string [116, 104, 101, 110]), .lit (.string [101, 108, 115, 101]), .lit (.string [111, 114]), .lit (.string [97, 110, 100]), .lit (.string [110, 111, 116]), .lit (.string [116, 114, 117, 101]), .lit (.string [102, 97, 108, 115, 101]), .lit (.string [110, 111, 116, 104, 105, 110, 103]), .lit (.string [104, 97, 115]), .lit (.string [115, 105, 122, 101]), .lit (.string [106, 111, 105, 110]), .lit (.string [111, 112, 101, 110]), .lit (.string [99, 108, 111, 99, 107]), .lit (.string [115, 116, 101, 112, 115]), .lit (.string [109, 105, 110]), .lit (.string [109, 97, 120]), .lit (.string [100, 101, 102, 97, 117, 108, 116])]
def laid_docket_kinds_nothing {H : Type} : DataW H := .agg [.lit (.int .i64 0), .lit (.bool true)]

/-- 'docketlaw11.EvalRight': WHATEVER THE INPUT: true; the input reads as it did. -/
def evalRightSpec : ChangeSpec := { name := "evalRight", fn := fun _ => fun
  | [d1, d2] => { results := [.lit (.bool true)], args := [d1, d2] }
  | _ => none }
def evalRightRow : OpenClaim := { program := "ytcnckjlmldnblaadoor", sum := "906e637609d8012dc22932696c807c21abd1a86ab9a423d153e255536c8571e1", func := "docket/docketlaw11.EvalRight", spec := "evalRight", unfollowed := true, recurses := true, named := ["docket/text.reserved"], apart := false, laid := [("docket/text.reserved", laid_docket_text_reserved)] }
def EvalRightSaid : Prop := evalRightRow.holds Tryd.pinned (OpenSpec.ofChange evalRightSpec)

/-- ITS FALSE NEIGHBOUR: 'it returns false'. Refute it at one input. -/
def evalRightWrong : ChangeSpec := { name := "evalRight", fn := fun _ => fun
  | [d1, d2] => { results := [.lit (.bool false)], args := [d1, d2] }
  | _ => none }
def EvalRightWrongFalsely : Prop := evalRightRow.holds Tryd.pinned (OpenSpec.ofChange evalRightWrong)

/-- 'docketlaw11.EvalSees': WHATEVER THE INPUT: true; the input reads as it did. -/
def evalSeesSpec : ChangeSpec := { name := "evalSees", fn := fun _ => fun
  | [d1, d2] => { results := [.lit (.bool true)], args := [d1, d2] }
  | _ => none }
def evalSeesRow : OpenClaim := { program := "ytcnckjlmldnblaadoor", sum := "906e637609d8012dc22932696c807c21abd1a86ab9a423d153e255536c8571e1", func := "docket/docketlaw11.EvalSees", spec := "evalSees", unfollowed := true, recurses := true, named := ["docket/text.reserved"], apart := false, laid := [("docket/text.reserved", laid_docket_text_reserved)] }
def EvalSeesSaid : Prop := evalSeesRow.holds Tryd.pinned (OpenSpec.ofChange evalSeesSpec)

/-- ITS FALSE NEIGHBOUR: 'it returns false'. Refute it at one input. -/
def evalSeesWrong : ChangeSpec := { name := "evalSees", fn := fun _ => fun
  | [d1, d2] => { results := [.lit (.bool false)], args := [d1, d2] }
  | _ => none }
def EvalSeesWrongFalsely : Prop := evalSeesRow.holds Tryd.pinned (OpenSpec.ofChange evalSeesWrong)

/-- 'docketlaw11.EvalLocal': WHATEVER THE INPUT: true; the input reads as it did. -/
def evalLocalSpec : ChangeSpec := { name := "evalLocal", fn := fun _ => fun
  | [d1, d2, d3, d4] => { results := [.lit (.bool true)], args := [d1, d2, d3, d4] }
  | _ => none }
def evalLocalRow : OpenClaim := { program := "ytcnckjlmldnblaadoor", sum := "906e637609d8012dc22932696c807c21abd1a86ab9a423d153e255536c8571e1", func := "docket/docketlaw11.EvalLocal", spec := "evalLocal", unfollowed := true, recurses := true, named := ["docket/text.reserved"], apart := false, laid := [("docket/text.reserved", laid_docket_text_reserved)] }
def EvalLocalSaid : Prop := evalLocalRow.holds Tryd.pinned (OpenSpec.ofChange evalLocalSpec)

/-- ITS FALSE NEIGHBOUR: 'it returns false'. Refute it at one input. -/
def evalLocalWrong : ChangeSpec := { name := "evalLocal", fn := fun _ => fun
  | [d1, d2, d3, d4] => { results := [.lit (.bool false)], args := [d1, d2, d3, d4] }
  | _ => none }
def EvalLocalWrongFalsely : Prop := evalLocalRow.holds Tryd.pinned (OpenSpec.ofChange evalLocalWrong)

/-- 'docketlaw11.EvalLazy': WHATEVER THE INPUT: true; the input reads as it did. -/
def evalLazySpec : ChangeSpec := { name := "evalLazy", fn := fun _ => fun
  | [d1, d2, d3, d4] => { results := [.lit (.bool true)], args := [d1, d2, d3, d4] }
  | _ => none }
def evalLazyRow : OpenClaim := { program := "ytcnckjlmldnblaadoor", sum := "906e637609d8012dc22932696c807c21abd1a86ab9a423d153e255536c8571e1", func := "docket/docketlaw11.EvalLazy", spec := "evalLazy", unfollowed := true, recurses := true, named := ["docket/text.reserved"], apart := false, laid := [("docket/text.reserved", laid_docket_text_reserved)] }
def EvalLazySaid : Prop := evalLazyRow.holds Tryd.pinned (OpenSpec.ofChange evalLazySpec)

/-- ITS FALSE NEIGHBOUR: 'it returns false'. Refute it at one input. -/
def evalLazyWrong : ChangeSpec := { name := "evalLazy", fn := fun _ => fun
  | [d1, d2, d3, d4] => { results := [.lit (.bool false)], args := [d1, d2, d3, d4] }
  | _ => none }
def EvalLazyWrongFalsely : Prop := evalLazyRow.holds Tryd.pinned (OpenSpec.ofChange evalLazyWrong)

/-- 'docketlaw11.EvalInts': WHATEVER THE INPUT: true; the input reads as it did. -/
def evalIntsSpec : ChangeSpec := { name := "evalInts", fn := fun _ => fun
  | [d1, d2] => { results := [.lit (.bool true)], args := [d1, d2] }
  | _ => none }
def evalIntsRow : OpenClaim := { program := "ytcnckjlmldnblaadoor", sum := "906e637609d8012dc22932696c807c21abd1a86ab9a423d153e255536c8571e1", func := "docket/docketlaw11.EvalInts", spec := "evalInts", unfollowed := true, recurses := true, named := ["docket/text.reserved"], apart := false, laid := [("docket/text.reserved", laid_docket_text_reserved)] }
def EvalIntsSaid : Prop := evalIntsRow.holds Tryd.pinned (OpenSpec.ofChange evalIntsSpec)

/-- ITS FALSE NEIGHBOUR: 'it returns false'. Refute it at one input. -/
def evalIntsWrong : ChangeSpec := { name := "evalInts", fn := fun _ => fun
  | [d1, d2] => { results := [.lit (.bool false)], args := [d1, d2] }
  | _ => none }
def EvalIntsWrongFalsely : Prop := evalIntsRow.holds Tryd.pinned (OpenSpec.ofChange evalIntsWrong)

/-- 'docketlaw11.EvalSets': WHATEVER THE INPUT: true; the input reads as it did. -/
def evalSetsSpec : ChangeSpec := { name := "evalSets", fn := fun _ => fun
  | [d1, d2, d3] => { results := [.lit (.bool true)], args := [d1, d2, d3] }
  | _ => none }
def evalSetsRow : OpenClaim := { program := "ytcnckjlmldnblaadoor", sum := "906e637609d8012dc22932696c807c21abd1a86ab9a423d153e255536c8571e1", func := "docket/docketlaw11.EvalSets", spec := "evalSets", unfollowed := true, recurses := true, named := ["docket/text.reserved"], apart := false, laid := [("docket/text.reserved", laid_docket_text_reserved)] }
def EvalSetsSaid : Prop := evalSetsRow.holds Tryd.pinned (OpenSpec.ofChange evalSetsSpec)

/-- ITS FALSE NEIGHBOUR: 'it returns false'. Refute it at one input. -/
def evalSetsWrong : ChangeSpec := { name := "evalSets", fn := fun _ => fun
  | [d1, d2, d3] => { results := [.lit (.bool false)], args := [d1, d2, d3] }
  | _ => none }
def EvalSetsWrongFalsely : Prop := evalSetsRow.holds Tryd.pinned (OpenSpec.ofChange evalSetsWrong)

/-- 'docketlaw11.EvalSound': WHATEVER THE INPUT: true; the input reads as it did. -/
def evalSoundSpec : ChangeSpec := { name := "evalSound", fn := fun _ => fun
  | [d1, d2, d3] => { results := [.lit (.bool true)], args := [d1, d2, d3] }
  | _ => none }
def evalSoundRow : OpenClaim := { program := "ytcnckjlmldnblaadoor", sum := "906e637609d8012dc22932696c807c21abd1a86ab9a423d153e255536c8571e1", func := "docket/docketlaw11.EvalSound", spec := "evalSound", unfollowed := true, recurses := true, named := ["docket/text.reserved", "docket/kinds.nothing"], apart := false, laid := [("docket/text.reserved", laid_docket_text_reserved), ("docket/kinds.nothing", laid_docket_kinds_nothing)] }
def EvalSoundSaid : Prop := evalSoundRow.holds Tryd.pinned (OpenSpec.ofChange evalSoundSpec)

/-- ITS FALSE NEIGHBOUR: 'it returns false'. Refute it at one input. -/
def evalSoundWrong : ChangeSpec := { name := "evalSound", fn := fun _ => fun
  | [d1, d2, d3] => { results := [.lit (.bool false)], args := [d1, d2, d3] }
  | _ => none }
def EvalSoundWrongFalsely : Prop := evalSoundRow.holds Tryd.pinned (OpenSpec.ofChange evalSoundWrong)

/- THE SECOND FORM. 'bulk': how many values and letters a reading holds, each counted each time it is reached (what is shared counts as often as it is met; a slice's spare places count too). A statement '..UptoSaid' is the law's where the arguments, and the package variables that the reading takes, are together of bulk at most 1048576: NARROWER than '..Said'. Prove '..Said' where nothing that the law and all that it calls make is longer than what came in: it says more and counts as full. Else prove '..UptoSaid'. A law counts once. -/
mutual
def uptoBulk {H : Type} : DataW H → Nat
  | .lit (.string bytes) => bytes.length + 1
  | .lit _ => 1
  | .nil => 1
  | .ptr d => uptoBulk d + 1
  | .slice elems spare => uptoBulkAll elems + uptoBulkAll spare + 1
  | .agg parts => uptoBulkAll parts + 1
  | .iface _ d => uptoBulk d + 1
  | .map entries => uptoBulkEntries entries + 1
  | .held _ => 1
def uptoBulkAll {H : Type} : List (DataW H) → Nat
  | [] => 0
  | d :: r => uptoBulk d + uptoBulkAll r
def uptoBulkEntries {H : Type} : List (Lit × DataW H) → Nat
  | [] => 0
  | x :: r => uptoBulkEntry x + uptoBulkEntries r
def uptoBulkEntry {H : Type} : Lit × DataW H → Nat
  | (.string bytes, d) => bytes.length + uptoBulk d + 1
  | (_, d) => uptoBulk d + 1
 end
def uptoSmall : (H : Type) → List (DataW H) → Bool := fun _ ds => decide (uptoBulkAll ds ≤ 1048576)
def OpenSpec.upto (s : _root_.Go.ChangeSpec) : _root_.Go.OpenSpec := { _root_.Go.OpenSpec.ofChange s with cond := some uptoSmall }

/-- 'docketlaw11.EvalRight', WHERE WHAT IT READS IS OF BULK AT MOST 1048576: true; the input reads as it did. -/
def evalRightUptoRow : OpenClaim := { program := "ytcnckjlmldnblaadoor", sum := "906e637609d8012dc22932696c807c21abd1a86ab9a423d153e255536c8571e1", func := "docket/docketlaw11.EvalRight", spec := "evalRight", unfollowed := true, recurses := true, named := ["docket/text.reserved"], apart := false, laid := [("docket/text.reserved", laid_docket_text_reserved)], narrowed := true }
def EvalRightUptoSaid : Prop := evalRightUptoRow.holds Tryd.pinned (OpenSpec.upto evalRightSpec)

/-- 'docketlaw11.EvalSees', WHERE WHAT IT READS IS OF BULK AT MOST 1048576: true; the input reads as it did. -/
def evalSeesUptoRow : OpenClaim := { program := "ytcnckjlmldnblaadoor", sum := "906e637609d8012dc22932696c807c21abd1a86ab9a423d153e255536c8571e1", func := "docket/docketlaw11.EvalSees", spec := "evalSees", unfollowed := true, recurses := true, named := ["docket/text.reserved"], apart := false, laid := [("docket/text.reserved", laid_docket_text_reserved)], narrowed := true }
def EvalSeesUptoSaid : Prop := evalSeesUptoRow.holds Tryd.pinned (OpenSpec.upto evalSeesSpec)

/-- 'docketlaw11.EvalLocal', WHERE WHAT IT READS IS OF BULK AT MOST 1048576: true; the input reads as it did. -/
def evalLocalUptoRow : OpenClaim := { program := "ytcnckjlmldnblaadoor", sum := "906e637609d8012dc22932696c807c21abd1a86ab9a423d153e255536c8571e1", func := "docket/docketlaw11.EvalLocal", spec := "evalLocal", unfollowed := true, recurses := true, named := ["docket/text.reserved"], apart := false, laid := [("docket/text.reserved", laid_docket_text_reserved)], narrowed := true }
def EvalLocalUptoSaid : Prop := evalLocalUptoRow.holds Tryd.pinned (OpenSpec.upto evalLocalSpec)

/-- 'docketlaw11.EvalLazy', WHERE WHAT IT READS IS OF BULK AT MOST 1048576: true; the input reads as it did. -/
def evalLazyUptoRow : OpenClaim := { program := "ytcnckjlmldnblaadoor", sum := "906e637609d8012dc22932696c807c21abd1a86ab9a423d153e255536c8571e1", func := "docket/docketlaw11.EvalLazy", spec := "evalLazy", unfollowed := true, recurses := true, named := ["docket/text.reserved"], apart := false, laid := [("docket/text.reserved", laid_docket_text_reserved)], narrowed := true }
def EvalLazyUptoSaid : Prop := evalLazyUptoRow.holds Tryd.pinned (OpenSpec.upto evalLazySpec)

/-- 'docketlaw11.EvalInts', WHERE WHAT IT READS IS OF BULK AT MOST 1048576: true; the input reads as it did. -/
def evalIntsUptoRow : OpenClaim := { program := "ytcnckjlmldnblaadoor", sum := "906e637609d8012dc22932696c807c21abd1a86ab9a423d153e255536c8571e1", func := "docket/docketlaw11.EvalInts", spec := "evalInts", unfollowed := true, recurses := true, named := ["docket/text.reserved"], apart := false, laid := [("docket/text.reserved", laid_docket_text_reserved)], narrowed := true }
def EvalIntsUptoSaid : Prop := evalIntsUptoRow.holds Tryd.pinned (OpenSpec.upto evalIntsSpec)

/-- 'docketlaw11.EvalSets', WHERE WHAT IT READS IS OF BULK AT MOST 1048576: true; the input reads as it did. -/
def evalSetsUptoRow : OpenClaim := { program := "ytcnckjlmldnblaadoor", sum := "906e637609d8012dc22932696c807c21abd1a86ab9a423d153e255536c8571e1", func := "docket/docketlaw11.EvalSets", spec := "evalSets", unfollowed := true, recurses := true, named := ["docket/text.reserved"], apart := false, laid := [("docket/text.reserved", laid_docket_text_reserved)], narrowed := true }
def EvalSetsUptoSaid : Prop := evalSetsUptoRow.holds Tryd.pinned (OpenSpec.upto evalSetsSpec)

/-- 'docketlaw11.EvalSound', WHERE WHAT IT READS IS OF BULK AT MOST 1048576: true; the input reads as it did. -/
def evalSoundUptoRow : OpenClaim := { program := "ytcnckjlmldnblaadoor", sum := "906e637609d8012dc22932696c807c21abd1a86ab9a423d153e255536c8571e1", func := "docket/docketlaw11.EvalSound", spec := "evalSound", unfollowed := true, recurses := true, named := ["docket/text.reserved", "docket/kinds.nothing"], apart := false, laid := [("docket/text.reserved", laid_docket_text_reserved), ("docket/kinds.nothing", laid_docket_kinds_nothing)], narrowed := true }
def EvalSoundUptoSaid : Prop := evalSoundUptoRow.holds Tryd.pinned (OpenSpec.upto evalSoundSpec)

end Rows
end Go.Proofs.YtcnckjlmldnblaaDoor
