/-
  NARROWER THAN 'FOR EVERY INPUT', by the rows' own cells (each row's printed sentence says how): KindsTable: laid · KindsOf: laid · KindsLocal: laid · KindsSwap: laid · KindsKept: laid · KindsFits: laid.
  DERIVED. THE GIVEN ROWS OF THIS SEAT. 6 by the template 'for every input the law returns true; each argument reads behind the call as it read before'; 0 by the template 'total and deterministic' (their statements: YtakaoacialnjaaaDoorTotals.lean).
  GIVEN WITH THE SEED: the statements are not yours to turn. If you find one false, say at which input.
  Laid BY PROGRAM, IN A SANDBOX (cutbox-rows.mjs): the forced cells as the released guide's own fill.sh prints them over the translation af21446997798591… (all of the seat's roots in one cut). By AI agents, Wed Nov 11 2026. No macro, syntax, notation, axiom, sorry.
-/
import Derived.Test.YtakaoacialnjaaaDoorChecked
import GoSem.Claim
import GoSem.ClaimJoined
import GoSem.ClaimMapViews
import Derived.JoinedTies
import Derived.KernelRfl
namespace Go.Proofs.YtakaoacialnjaaaDoor
/- THE CELL 'sum', in the pinned program and in every row, IS THE sha256 OF THE DUMP (.gsa) THAT YtakaoacialnjaaaDoorProg.lean LOADS. Nothing in Lean hashes anything: it is a label: what it is worth is what the hold of that sum in a sandbox is worth. -/
noncomputable def Tryd.pinned : Pinned := { name := "ytakaoacialnjaaadoor", sum := "af214469977985916177ee8ce9e555f1ffea36d7bfe17dcb54f87f7deccd5a54", checked := Tryd.checked }
namespace Rows
def none {H : Type} : Left H := { results := [], args := [] }

/- WHAT THE LISTED PACKAGE-LEVEL VARIABLES READ AS WHEN THE CALL BEGINS. Each datum BY PROGRAM (the guide's laid-datum.mjs) off the statement by which the dump's own 'gosem.cut.vars' lays the variable. In a bare row this is a premise. The card (YtakaoacialnjaaaDoorCards.lean) ties it to the program's text. -/
def laid_docket_docketref9_reserved {H : Type} : DataW H := .agg [.lit (.string [116, 121, 112, 101]), .lit (.string [97, 116, 116, 114, 105, 98, 117, 116, 101]), .lit (.string [115, 116, 97, 103, 101]), .lit (.string [109, 105, 108, 101, 115, 116, 111, 110, 101]), .lit (.string [115, 116, 101, 112]), .lit (.string [105, 110]), .lit (.string [111, 112, 101, 110, 115]), .lit (.string [99, 108, 111, 115, 101, 115]), .lit (.string [114, 101, 97, 99, 104, 101, 100]), .lit (.string [119, 104, 101, 110]), .lit (.string [114, 101, 111, 112, 101, 110]), .lit (.string [105, 110, 116]), .lit (.string [98, 111, 111, 108]), .lit (.string [116, 101, 120, 116]), .lit (.string [116, 105, 109, 101]), .lit (.string [115, 101, 116]), .lit (.string [111, 112, 116, 105, 111, 110, 97, 108]), .lit (.string [105, 102]), .lit (.string [116, 104, 101, 110]), .lit (.string [101, 108, 115, 101]), .lit (.string [111, 114]), .lit (.string [97, 110, 100]), .lit (.string [110, 111, 116]), .lit (.string [116, 114, 117, 101]), .lit (.string [102, 97, 108, 115, 101]), .lit (.string [110, 111, 116, 104, 105, 110, 103]), .lit (.string [104, 97, 115]), .lit (.string [115, 105, 122, 101]), .lit (.string [106, 111, 105, 110]), .lit (.string [111, 112, 101, 110]), .lit (.string [99, 108, 111, 99, 107]), .lit (.string [115, 116, 101, 112, 115]), .lit (.string [109, 105, 110]), .lit (.string [109, 97, 120]), .lit (.string [100, 101, 102, 97, 117, 108, 116])]
def laid_docket_text_reserved {H : Type} : DataW H := .agg [.lit (.string [116, 121, 112, 101]), .lit (.string [97, 116, 116, 114, 105, 98, 117, 116, 101]), .lit (.string [115, 116, 97, 103, 101]), .lit (.string [109, 105, 108, 101, 115, 116, 111, 110, 101]), .lit (.string [115, 116, 101, 112]), .lit (.string [105, 110]), .lit (.string [111, 112, 101, 110, 115]), .lit (.string [99, 108, 111, 115, 101, 115]), .lit (.string [114, 101, 97, 99, 104, 101, 100]), .lit (.string [119, 104, 101, 110]), .lit (.string [114, 101, 111, 112, 101, 110]), .lit (.string [105, 110, 116]), .lit (.string [98, 111, 111, 108]), .lit (.string [116, 101, 120, 116]), .lit (.string [116, 105, 109, 101]), .lit (.string [115, 101, 116]), .lit (.string [111, 112, 116, 105, 111, 110, 97, 108]), .lit (.string [105, 102]), .lit (.string [116, 104, 101, 110]), .lit (.string [101, 108, 115, 101]), .lit (.string [111, 114]), .lit (.string [97, 110, 100]), .lit (.string [110, 111, 116]), .lit (.string [116, 114, 117, 101]), .lit (.string [102, 97, 108, 115, 101]), .lit (.string [110, 111, 116, 104, 105, 110, 103]), .lit (.string [104, 97, 115]), .lit (.string [115, 105, 122, 101]), .lit (.string [106, 111, 105, 110]), .lit (.string [111, 112, 101, 110]), .lit (.string [99, 108, 111, 99, 107]), .lit (.string [115, 116, 101, 112, 115]), .lit (.string [109, 105, 110]), .lit (.string [109, 97, 120]), .lit (.string [100, 101, 102, 97, 117, 108, 116])]
def laid_docket_kinds_nothing {H : Type} : DataW H := .agg [.lit (.int .i64 0), .lit (.bool true)]

/-- 'docketlaw10.KindsTable': WHATEVER THE INPUT: true; the input reads as it did. -/
def kindsTableSpec : ChangeSpec := { name := "kindsTable", fn := fun _ => fun
  | [] => { results := [.lit (.bool true)], args := [] }
  | _ => none }
def kindsTableRow : OpenClaim := { program := "ytakaoacialnjaaadoor", sum := "af214469977985916177ee8ce9e555f1ffea36d7bfe17dcb54f87f7deccd5a54", func := "docket/docketlaw10.KindsTable", spec := "kindsTable", named := ["docket/text.reserved", "docket/kinds.nothing", "docket/docketref9.reserved"], apart := false, laid := [("docket/docketref9.reserved", laid_docket_docketref9_reserved), ("docket/text.reserved", laid_docket_text_reserved), ("docket/kinds.nothing", laid_docket_kinds_nothing)] }
def KindsTableSaid : Prop := kindsTableRow.holds Tryd.pinned (OpenSpec.ofChange kindsTableSpec)

/-- ITS FALSE NEIGHBOUR: 'it returns false'. Refute it at one input. -/
def kindsTableWrong : ChangeSpec := { name := "kindsTable", fn := fun _ => fun
  | [] => { results := [.lit (.bool false)], args := [] }
  | _ => none }
def KindsTableWrongFalsely : Prop := kindsTableRow.holds Tryd.pinned (OpenSpec.ofChange kindsTableWrong)

/-- 'docketlaw10.KindsOf': WHATEVER THE INPUT: true; the input reads as it did. -/
def kindsOfSpec : ChangeSpec := { name := "kindsOf", fn := fun _ => fun
  | [d1, d2, d3] => { results := [.lit (.bool true)], args := [d1, d2, d3] }
  | _ => none }
def kindsOfRow : OpenClaim := { program := "ytakaoacialnjaaadoor", sum := "af214469977985916177ee8ce9e555f1ffea36d7bfe17dcb54f87f7deccd5a54", func := "docket/docketlaw10.KindsOf", spec := "kindsOf", unfollowed := true, recurses := true, named := ["docket/text.reserved", "docket/kinds.nothing", "docket/docketref9.reserved"], apart := false, laid := [("docket/docketref9.reserved", laid_docket_docketref9_reserved), ("docket/text.reserved", laid_docket_text_reserved), ("docket/kinds.nothing", laid_docket_kinds_nothing)] }
def KindsOfSaid : Prop := kindsOfRow.holds Tryd.pinned (OpenSpec.ofChange kindsOfSpec)

/-- ITS FALSE NEIGHBOUR: 'it returns false'. Refute it at one input. -/
def kindsOfWrong : ChangeSpec := { name := "kindsOf", fn := fun _ => fun
  | [d1, d2, d3] => { results := [.lit (.bool false)], args := [d1, d2, d3] }
  | _ => none }
def KindsOfWrongFalsely : Prop := kindsOfRow.holds Tryd.pinned (OpenSpec.ofChange kindsOfWrong)

/-- 'docketlaw10.KindsLocal': WHATEVER THE INPUT: true; the input reads as it did. -/
def kindsLocalSpec : ChangeSpec := { name := "kindsLocal", fn := fun _ => fun
  | [d1, d2, d3] => { results := [.lit (.bool true)], args := [d1, d2, d3] }
  | _ => none }
def kindsLocalRow : OpenClaim := { program := "ytakaoacialnjaaadoor", sum := "af214469977985916177ee8ce9e555f1ffea36d7bfe17dcb54f87f7deccd5a54", func := "docket/docketlaw10.KindsLocal", spec := "kindsLocal", named := ["docket/text.reserved", "docket/kinds.nothing"], apart := false, laid := [("docket/text.reserved", laid_docket_text_reserved), ("docket/kinds.nothing", laid_docket_kinds_nothing)] }
def KindsLocalSaid : Prop := kindsLocalRow.holds Tryd.pinned (OpenSpec.ofChange kindsLocalSpec)

/-- ITS FALSE NEIGHBOUR: 'it returns false'. Refute it at one input. -/
def kindsLocalWrong : ChangeSpec := { name := "kindsLocal", fn := fun _ => fun
  | [d1, d2, d3] => { results := [.lit (.bool false)], args := [d1, d2, d3] }
  | _ => none }
def KindsLocalWrongFalsely : Prop := kindsLocalRow.holds Tryd.pinned (OpenSpec.ofChange kindsLocalWrong)

/-- 'docketlaw10.KindsSwap': WHATEVER THE INPUT: true; the input reads as it did. -/
def kindsSwapSpec : ChangeSpec := { name := "kindsSwap", fn := fun _ => fun
  | [d1, d2, d3] => { results := [.lit (.bool true)], args := [d1, d2, d3] }
  | _ => none }
def kindsSwapRow : OpenClaim := { program := "ytakaoacialnjaaadoor", sum := "af214469977985916177ee8ce9e555f1ffea36d7bfe17dcb54f87f7deccd5a54", func := "docket/docketlaw10.KindsSwap", spec := "kindsSwap", named := ["docket/text.reserved", "docket/kinds.nothing"], apart := false, laid := [("docket/text.reserved", laid_docket_text_reserved), ("docket/kinds.nothing", laid_docket_kinds_nothing)] }
def KindsSwapSaid : Prop := kindsSwapRow.holds Tryd.pinned (OpenSpec.ofChange kindsSwapSpec)

/-- ITS FALSE NEIGHBOUR: 'it returns false'. Refute it at one input. -/
def kindsSwapWrong : ChangeSpec := { name := "kindsSwap", fn := fun _ => fun
  | [d1, d2, d3] => { results := [.lit (.bool false)], args := [d1, d2, d3] }
  | _ => none }
def KindsSwapWrongFalsely : Prop := kindsSwapRow.holds Tryd.pinned (OpenSpec.ofChange kindsSwapWrong)

/-- 'docketlaw10.KindsKept': WHATEVER THE INPUT: true; the input reads as it did. -/
def kindsKeptSpec : ChangeSpec := { name := "kindsKept", fn := fun _ => fun
  | [d] => { results := [.lit (.bool true)], args := [d] }
  | _ => none }
def kindsKeptRow : OpenClaim := { program := "ytakaoacialnjaaadoor", sum := "af214469977985916177ee8ce9e555f1ffea36d7bfe17dcb54f87f7deccd5a54", func := "docket/docketlaw10.KindsKept", spec := "kindsKept", unfollowed := true, recurses := true, named := ["docket/text.reserved", "docket/kinds.nothing", "docket/docketref9.reserved"], apart := false, laid := [("docket/docketref9.reserved", laid_docket_docketref9_reserved), ("docket/text.reserved", laid_docket_text_reserved), ("docket/kinds.nothing", laid_docket_kinds_nothing)] }
def KindsKeptSaid : Prop := kindsKeptRow.holds Tryd.pinned (OpenSpec.ofChange kindsKeptSpec)

/-- ITS FALSE NEIGHBOUR: 'it returns false'. Refute it at one input. -/
def kindsKeptWrong : ChangeSpec := { name := "kindsKept", fn := fun _ => fun
  | [d] => { results := [.lit (.bool false)], args := [d] }
  | _ => none }
def KindsKeptWrongFalsely : Prop := kindsKeptRow.holds Tryd.pinned (OpenSpec.ofChange kindsKeptWrong)

/-- 'docketlaw10.KindsFits': WHATEVER THE INPUT: true; the input reads as it did. -/
def kindsFitsSpec : ChangeSpec := { name := "kindsFits", fn := fun _ => fun
  | [d1, d2, d3] => { results := [.lit (.bool true)], args := [d1, d2, d3] }
  | _ => none }
def kindsFitsRow : OpenClaim := { program := "ytakaoacialnjaaadoor", sum := "af214469977985916177ee8ce9e555f1ffea36d7bfe17dcb54f87f7deccd5a54", func := "docket/docketlaw10.KindsFits", spec := "kindsFits", named := ["docket/kinds.nothing", "docket/text.reserved"], apart := false, laid := [("docket/text.reserved", laid_docket_text_reserved), ("docket/kinds.nothing", laid_docket_kinds_nothing)] }
def KindsFitsSaid : Prop := kindsFitsRow.holds Tryd.pinned (OpenSpec.ofChange kindsFitsSpec)

/-- ITS FALSE NEIGHBOUR: 'it returns false'. Refute it at one input. -/
def kindsFitsWrong : ChangeSpec := { name := "kindsFits", fn := fun _ => fun
  | [d1, d2, d3] => { results := [.lit (.bool false)], args := [d1, d2, d3] }
  | _ => none }
def KindsFitsWrongFalsely : Prop := kindsFitsRow.holds Tryd.pinned (OpenSpec.ofChange kindsFitsWrong)

/- THE SECOND FORM. 'bulk': how many values and letters a reading holds, each counted each time it is reached (what is shared counts as often as it is met; a slice's spare places count too). A statement '..UptoSaid' is the law's where the arguments, and the package variables that the reading takes, are together of bulk at most 1048576: NARROWER than '..Said'. Prove '..Said' where nothing that the law and all that it calls make is longer than what came in: it says more and counts as full. Else prove '..UptoSaid'. A law counts once. -/
mutual
def uptoBulk {H : Type} : DataW H → Nat
  | .lit (.string bytes) => bytes.length + 1
  | .lit _ => 1
  | .nil => 1
  | .ptr d => uptoBulk d + 1
  | .slice elems spare => uptoBulkAll elems + uptoBulkAll spare + 1
  | .agg parts => uptoBulkAll parts + 1
  | .iface _ d => uptoBulk d + 1
  | .map entries => uptoBulkEntries entries + 1
  | .held _ => 1
def uptoBulkAll {H : Type} : List (DataW H) → Nat
  | [] => 0
  | d :: r => uptoBulk d + uptoBulkAll r
def uptoBulkEntries {H : Type} : List (Lit × DataW H) → Nat
  | [] => 0
  | x :: r => uptoBulkEntry x + uptoBulkEntries r
def uptoBulkEntry {H : Type} : Lit × DataW H → Nat
  | (.string bytes, d) => bytes.length + uptoBulk d + 1
  | (_, d) => uptoBulk d + 1
 end
def uptoSmall : (H : Type) → List (DataW H) → Bool := fun _ ds => decide (uptoBulkAll ds ≤ 1048576)
def OpenSpec.upto (s : _root_.Go.ChangeSpec) : _root_.Go.OpenSpec := { _root_.Go.OpenSpec.ofChange s with cond := some uptoSmall }

/-- 'docketlaw10.KindsTable', WHERE WHAT IT READS IS OF BULK AT MOST 1048576: true; the input reads as it did. -/
def kindsTableUptoRow : OpenClaim := { program := "ytakaoacialnjaaadoor", sum := "af214469977985916177ee8ce9e555f1ffea36d7bfe17dcb54f87f7deccd5a54", func := "docket/docketlaw10.KindsTable", spec := "kindsTable", named := ["docket/text.reserved", "docket/kinds.nothing", "docket/docketref9.reserved"], apart := false, laid := [("docket/docketref9.reserved", laid_docket_docketref9_reserved), ("docket/text.reserved", laid_docket_text_reserved), ("docket/kinds.nothing", laid_docket_kinds_nothing)], narrowed := true }
def KindsTableUptoSaid : Prop := kindsTableUptoRow.holds Tryd.pinned (OpenSpec.upto kindsTableSpec)

/-- 'docketlaw10.KindsOf', WHERE WHAT IT READS IS OF BULK AT MOST 1048576: true; the input reads as it did. -/
def kindsOfUptoRow : OpenClaim := { program := "ytakaoacialnjaaadoor", sum := "af214469977985916177ee8ce9e555f1ffea36d7bfe17dcb54f87f7deccd5a54", func := "docket/docketlaw10.KindsOf", spec := "kindsOf", unfollowed := true, recurses := true, named := ["docket/text.reserved", "docket/kinds.nothing", "docket/docketref9.reserved"], apart := false, laid := [("docket/docketref9.reserved", laid_docket_docketref9_reserved), ("docket/text.reserved", laid_docket_text_reserved), ("docket/kinds.nothing", laid_docket_kinds_nothing)], narrowed := true }
def KindsOfUptoSaid : Prop := kindsOfUptoRow.holds Tryd.pinned (OpenSpec.upto kindsOfSpec)

/-- 'docketlaw10.KindsLocal', WHERE WHAT IT READS IS OF BULK AT MOST 1048576: true; the input reads as it did. -/
def kindsLocalUptoRow : OpenClaim := { program := "ytakaoacialnjaaadoor", sum := "af214469977985916177ee8ce9e555f1ffea36d7bfe17dcb54f87f7deccd5a54", func := "docket/docketlaw10.KindsLocal", spec := "kindsLocal", named := ["docket/text.reserved", "docket/kinds.nothing"], apart := false, laid := [("docket/text.reserved", laid_docket_text_reserved), ("docket/kinds.nothing", laid_docket_kinds_nothing)], narrowed := true }
def KindsLocalUptoSaid : Prop := kindsLocalUptoRow.holds Tryd.pinned (OpenSpec.upto kindsLocalSpec)

/-- 'docketlaw10.KindsSwap', WHERE WHAT IT READS IS OF BULK AT MOST 1048576: true; the input reads as it did. -/
def kindsSwapUptoRow : OpenClaim := { program := "ytakaoacialnjaaadoor", sum := "af214469977985916177ee8ce9e555f1ffea36d7bfe17dcb54f87f7deccd5a54", func := "docket/docketlaw10.KindsSwap", spec := "kindsSwap", named := ["docket/text.reserved", "docket/kinds.nothing"], apart := false, laid := [("docket/text.reserved", laid_docket_text_reserved), ("docket/kinds.nothing", laid_docket_kinds_nothing)], narrowed := true }
def KindsSwapUptoSaid : Prop := kindsSwapUptoRow.holds Tryd.pinned (OpenSpec.upto kindsSwapSpec)

/-- 'docketlaw10.KindsKept', WHERE WHAT IT READS IS OF BULK AT MOST 1048576: true; the input reads as it did. -/
def kindsKeptUptoRow : OpenClaim := { program := "ytakaoacialnjaaadoor", sum := "af214469977985916177ee8ce9e555f1ffea36d7bfe17dcb54f87f7deccd5a54", func := "docket/docketlaw10.KindsKept", spec := "kindsKept", unfollowed := true, recurses := true, named := ["docket/text.reserved", "docket/kinds.nothing", "docket/docketref9.reserved"], apart := false, laid := [("docket/docketref9.reserved", laid_docket_docketref9_reserved), ("docket/text.reserved", laid_docket_text_reserved), ("docket/kinds.nothing", laid_docket_kinds_nothing)], narrowed := true }
def KindsKeptUptoSaid : Prop := kindsKeptUptoRow.holds Tryd.pinned (OpenSpec.upto kindsKeptSpec)

/-- 'docketlaw10.KindsFits', WHERE WHAT IT READS IS OF BULK AT MOST 1048576: true; the input reads as it did. -/
def kindsFitsUptoRow : OpenClaim := { program := "ytakaoacialnjaaadoor", sum := "af214469977985916177ee8ce9e555f1ffea36d7bfe17dcb54f87f7deccd5a54", func := "docket/docketlaw10.KindsFits", spec := "kindsFits", named := ["docket/kinds.nothing", "docket/text.reserved"], apart := false, laid := [("docket/text.reserved", laid_docket_text_reserved), ("docket/kinds.nothing", laid_docket_kinds_nothing)], narrowed := true }
def KindsFitsUptoSaid : Prop := kindsFitsUptoRow.holds Tryd.pinned (OpenSpec.upto kindsFitsSpec)

end Rows
end Go.Proofs.YtakaoacialnjaaaDoor
