/-
  NARROWER THAN 'FOR EVERY INPUT', by the rows' own cells (each row's printed sentence says how): FrameCRC: laid · FramePacks: laid · FrameCertain: laid · FrameNumbers: laid · FrameNames: laid · FrameTorn: laid · FrameEnds: laid.
  DERIVED. THE GIVEN ROWS OF THIS SEAT. 7 by the template 'for every input the law returns true; each argument reads behind the call as it read before'; 0 by the template 'total and deterministic' (their statements: YtdepdediggokgaaDoorTotals.lean).
  GIVEN WITH THE SEED: the statements are not yours to turn. If you find one false, say at which input.
  Laid BY PROGRAM, IN A SANDBOX (cutbox-rows.mjs): the forced cells as the released guide's own fill.sh prints them over the translation 26e5ca6dcb88b759… (all of the seat's roots in one cut). By AI agents, Wed Nov 11 2026. No macro, syntax, notation, axiom, sorry.
-/
import Derived.Test.YtdepdediggokgaaDoorChecked
import GoSem.Claim
import GoSem.ClaimJoined
import GoSem.ClaimMapViews
import Derived.JoinedTies
import Derived.KernelRfl
namespace Go.Proofs.YtdepdediggokgaaDoor
/- THE CELL 'sum', in the pinned program and in every row, IS THE sha256 OF THE DUMP (.gsa) THAT YtdepdediggokgaaDoorProg.lean LOADS. Nothing in Lean hashes anything: it is a label: what it is worth is what the hold of that sum in a sandbox is worth. -/
noncomputable def Tryd.pinned : Pinned := { name := "ytdepdediggokgaadoor", sum := "26e5ca6dcb88b75948387f0719cdf3f6e946a21b1f42079e0308ca8146153a6c", checked := Tryd.checked }
namespace Rows
def none {H : Type} : Left H := { results := [], args := [] }

/- WHAT THE LISTED PACKAGE-LEVEL VARIABLES READ AS WHEN THE CALL BEGINS. Each datum BY PROGRAM (the guide's laid-datum.mjs) off the statement by which the dump's own 'gosem.cut.vars' lays the variable. In a bare row this is a premise. The card (YtdepdediggokgaaDoorCards.lean) ties it to the program's text. -/
def laid_docket_frame_half {H : Type} : DataW H := .agg [.lit (.int .u32 0), .lit (.int .u32 498536548), .lit (.int .u32 997073096), .lit (.int .u32 651767980), .lit (.int .u32 1994146192), .lit (.int .u32 1802195444), .lit (.int .u32 1303535960), .lit (.int .u32 1342533948), .lit (.int .u32 3988292384), .lit (.int .u32 4027552580), .lit (.int .u32 3604390888), .lit (.int .u32 3412177804), .lit (.int .u32 2607071920), .lit (.int .u32 2262029012), .lit (.int .u32 2685067896), .lit (.int .u32 3183342108)]

/-- 'docketlaw4.FrameCRC': WHATEVER THE INPUT: true; the input reads as it did. -/
def frameCRCSpec : ChangeSpec := { name := "frameCRC", fn := fun _ => fun
  | [d] => { results := [.lit (.bool true)], args := [d] }
  | _ => none }
def frameCRCRow : OpenClaim := { program := "ytdepdediggokgaadoor", sum := "26e5ca6dcb88b75948387f0719cdf3f6e946a21b1f42079e0308ca8146153a6c", func := "docket/docketlaw4.FrameCRC", spec := "frameCRC", named := ["docket/frame.half"], apart := false, laid := [("docket/frame.half", laid_docket_frame_half)] }
def FrameCRCSaid : Prop := frameCRCRow.holds Tryd.pinned (OpenSpec.ofChange frameCRCSpec)

/-- ITS FALSE NEIGHBOUR: 'it returns false'. Refute it at one input. -/
def frameCRCWrong : ChangeSpec := { name := "frameCRC", fn := fun _ => fun
  | [d] => { results := [.lit (.bool false)], args := [d] }
  | _ => none }
def FrameCRCWrongFalsely : Prop := frameCRCRow.holds Tryd.pinned (OpenSpec.ofChange frameCRCWrong)

/-- 'docketlaw4.FramePacks': WHATEVER THE INPUT: true; the input reads as it did. -/
def framePacksSpec : ChangeSpec := { name := "framePacks", fn := fun _ => fun
  | [d1, d2] => { results := [.lit (.bool true)], args := [d1, d2] }
  | _ => none }
def framePacksRow : OpenClaim := { program := "ytdepdediggokgaadoor", sum := "26e5ca6dcb88b75948387f0719cdf3f6e946a21b1f42079e0308ca8146153a6c", func := "docket/docketlaw4.FramePacks", spec := "framePacks", unfollowed := true, recurses := true, named := ["docket/frame.half"], apart := false, laid := [("docket/frame.half", laid_docket_frame_half)] }
def FramePacksSaid : Prop := framePacksRow.holds Tryd.pinned (OpenSpec.ofChange framePacksSpec)

/-- ITS FALSE NEIGHBOUR: 'it returns false'. Refute it at one input. -/
def framePacksWrong : ChangeSpec := { name := "framePacks", fn := fun _ => fun
  | [d1, d2] => { results := [.lit (.bool false)], args := [d1, d2] }
  | _ => none }
def FramePacksWrongFalsely : Prop := framePacksRow.holds Tryd.pinned (OpenSpec.ofChange framePacksWrong)

/-- 'docketlaw4.FrameCertain': WHATEVER THE INPUT: true; the input reads as it did. -/
def frameCertainSpec : ChangeSpec := { name := "frameCertain", fn := fun _ => fun
  | [d1, d2, d3] => { results := [.lit (.bool true)], args := [d1, d2, d3] }
  | _ => none }
def frameCertainRow : OpenClaim := { program := "ytdepdediggokgaadoor", sum := "26e5ca6dcb88b75948387f0719cdf3f6e946a21b1f42079e0308ca8146153a6c", func := "docket/docketlaw4.FrameCertain", spec := "frameCertain", named := ["docket/frame.half"], apart := false, laid := [("docket/frame.half", laid_docket_frame_half)] }
def FrameCertainSaid : Prop := frameCertainRow.holds Tryd.pinned (OpenSpec.ofChange frameCertainSpec)

/-- ITS FALSE NEIGHBOUR: 'it returns false'. Refute it at one input. -/
def frameCertainWrong : ChangeSpec := { name := "frameCertain", fn := fun _ => fun
  | [d1, d2, d3] => { results := [.lit (.bool false)], args := [d1, d2, d3] }
  | _ => none }
def FrameCertainWrongFalsely : Prop := frameCertainRow.holds Tryd.pinned (OpenSpec.ofChange frameCertainWrong)

/-- 'docketlaw4.FrameNumbers': WHATEVER THE INPUT: true; the input reads as it did. -/
def frameNumbersSpec : ChangeSpec := { name := "frameNumbers", fn := fun _ => fun
  | [d1, d2, d3] => { results := [.lit (.bool true)], args := [d1, d2, d3] }
  | _ => none }
def frameNumbersRow : OpenClaim := { program := "ytdepdediggokgaadoor", sum := "26e5ca6dcb88b75948387f0719cdf3f6e946a21b1f42079e0308ca8146153a6c", func := "docket/docketlaw4.FrameNumbers", spec := "frameNumbers", named := ["docket/frame.half"], apart := false, laid := [("docket/frame.half", laid_docket_frame_half)] }
def FrameNumbersSaid : Prop := frameNumbersRow.holds Tryd.pinned (OpenSpec.ofChange frameNumbersSpec)

/-- ITS FALSE NEIGHBOUR: 'it returns false'. Refute it at one input. -/
def frameNumbersWrong : ChangeSpec := { name := "frameNumbers", fn := fun _ => fun
  | [d1, d2, d3] => { results := [.lit (.bool false)], args := [d1, d2, d3] }
  | _ => none }
def FrameNumbersWrongFalsely : Prop := frameNumbersRow.holds Tryd.pinned (OpenSpec.ofChange frameNumbersWrong)

/-- 'docketlaw4.FrameNames': WHATEVER THE INPUT: true; the input reads as it did. -/
def frameNamesSpec : ChangeSpec := { name := "frameNames", fn := fun _ => fun
  | [] => { results := [.lit (.bool true)], args := [] }
  | _ => none }
def frameNamesRow : OpenClaim := { program := "ytdepdediggokgaadoor", sum := "26e5ca6dcb88b75948387f0719cdf3f6e946a21b1f42079e0308ca8146153a6c", func := "docket/docketlaw4.FrameNames", spec := "frameNames", named := ["docket/frame.half"], apart := false, laid := [("docket/frame.half", laid_docket_frame_half)] }
def FrameNamesSaid : Prop := frameNamesRow.holds Tryd.pinned (OpenSpec.ofChange frameNamesSpec)

/-- ITS FALSE NEIGHBOUR: 'it returns false'. Refute it at one input. -/
def frameNamesWrong : ChangeSpec := { name := "frameNames", fn := fun _ => fun
  | [] => { results := [.lit (.bool false)], args := [] }
  | _ => none }
def FrameNamesWrongFalsely : Prop := frameNamesRow.holds Tryd.pinned (OpenSpec.ofChange frameNamesWrong)

/-- 'docketlaw4.FrameTorn': WHATEVER THE INPUT: true; the input reads as it did. -/
def frameTornSpec : ChangeSpec := { name := "frameTorn", fn := fun _ => fun
  | [d1, d2, d3] => { results := [.lit (.bool true)], args := [d1, d2, d3] }
  | _ => none }
def frameTornRow : OpenClaim := { program := "ytdepdediggokgaadoor", sum := "26e5ca6dcb88b75948387f0719cdf3f6e946a21b1f42079e0308ca8146153a6c", func := "docket/docketlaw4.FrameTorn", spec := "frameTorn", named := ["docket/frame.half"], apart := false, laid := [("docket/frame.half", laid_docket_frame_half)] }
def FrameTornSaid : Prop := frameTornRow.holds Tryd.pinned (OpenSpec.ofChange frameTornSpec)

/-- ITS FALSE NEIGHBOUR: 'it returns false'. Refute it at one input. -/
def frameTornWrong : ChangeSpec := { name := "frameTorn", fn := fun _ => fun
  | [d1, d2, d3] => { results := [.lit (.bool false)], args := [d1, d2, d3] }
  | _ => none }
def FrameTornWrongFalsely : Prop := frameTornRow.holds Tryd.pinned (OpenSpec.ofChange frameTornWrong)

/-- 'docketlaw4.FrameEnds': WHATEVER THE INPUT: true; the input reads as it did. -/
def frameEndsSpec : ChangeSpec := { name := "frameEnds", fn := fun _ => fun
  | [d1, d2, d3] => { results := [.lit (.bool true)], args := [d1, d2, d3] }
  | _ => none }
def frameEndsRow : OpenClaim := { program := "ytdepdediggokgaadoor", sum := "26e5ca6dcb88b75948387f0719cdf3f6e946a21b1f42079e0308ca8146153a6c", func := "docket/docketlaw4.FrameEnds", spec := "frameEnds", unfollowed := true, recurses := true, named := ["docket/frame.half"], apart := false, laid := [("docket/frame.half", laid_docket_frame_half)] }
def FrameEndsSaid : Prop := frameEndsRow.holds Tryd.pinned (OpenSpec.ofChange frameEndsSpec)

/-- ITS FALSE NEIGHBOUR: 'it returns false'. Refute it at one input. -/
def frameEndsWrong : ChangeSpec := { name := "frameEnds", fn := fun _ => fun
  | [d1, d2, d3] => { results := [.lit (.bool false)], args := [d1, d2, d3] }
  | _ => none }
def FrameEndsWrongFalsely : Prop := frameEndsRow.holds Tryd.pinned (OpenSpec.ofChange frameEndsWrong)

/- THE SECOND FORM. 'bulk': how many values and letters a reading holds, each counted each time it is reached (what is shared counts as often as it is met; a slice's spare places count too). A statement '..UptoSaid' is the law's where the arguments, and the package variables that the reading takes, are together of bulk at most 1048576: NARROWER than '..Said'. Prove '..Said' where nothing that the law and all that it calls make is longer than what came in: it says more and counts as full. Else prove '..UptoSaid'. A law counts once. -/
mutual
def uptoBulk {H : Type} : DataW H → Nat
  | .lit (.string bytes) => bytes.length + 1
  | .lit _ => 1
  | .nil => 1
  | .ptr d => uptoBulk d + 1
  | .slice elems spare => uptoBulkAll elems + uptoBulkAll spare + 1
  | .agg parts => uptoBulkAll parts + 1
  | .iface _ d => uptoBulk d + 1
  | .map entries => uptoBulkEntries entries + 1
  | .held _ => 1
def uptoBulkAll {H : Type} : List (DataW H) → Nat
  | [] => 0
  | d :: r => uptoBulk d + uptoBulkAll r
def uptoBulkEntries {H : Type} : List (Lit × DataW H) → Nat
  | [] => 0
  | x :: r => uptoBulkEntry x + uptoBulkEntries r
def uptoBulkEntry {H : Type} : Lit × DataW H → Nat
  | (.string bytes, d) => bytes.length + uptoBulk d + 1
  | (_, d) => uptoBulk d + 1
 end
def uptoSmall : (H : Type) → List (DataW H) → Bool := fun _ ds => decide (uptoBulkAll ds ≤ 1048576)
def OpenSpec.upto (s : _root_.Go.ChangeSpec) : _root_.Go.OpenSpec := { _root_.Go.OpenSpec.ofChange s with cond := some uptoSmall }

/-- 'docketlaw4.FrameCRC', WHERE WHAT IT READS IS OF BULK AT MOST 1048576: true; the input reads as it did. -/
def frameCRCUptoRow : OpenClaim := { program := "ytdepdediggokgaadoor", sum := "26e5ca6dcb88b75948387f0719cdf3f6e946a21b1f42079e0308ca8146153a6c", func := "docket/docketlaw4.FrameCRC", spec := "frameCRC", named := ["docket/frame.half"], apart := false, laid := [("docket/frame.half", laid_docket_frame_half)], narrowed := true }
def FrameCRCUptoSaid : Prop := frameCRCUptoRow.holds Tryd.pinned (OpenSpec.upto frameCRCSpec)

/-- 'docketlaw4.FramePacks', WHERE WHAT IT READS IS OF BULK AT MOST 1048576: true; the input reads as it did. -/
def framePacksUptoRow : OpenClaim := { program := "ytdepdediggokgaadoor", sum := "26e5ca6dcb88b75948387f0719cdf3f6e946a21b1f42079e0308ca8146153a6c", func := "docket/docketlaw4.FramePacks", spec := "framePacks", unfollowed := true, recurses := true, named := ["docket/frame.half"], apart := false, laid := [("docket/frame.half", laid_docket_frame_half)], narrowed := true }
def FramePacksUptoSaid : Prop := framePacksUptoRow.holds Tryd.pinned (OpenSpec.upto framePacksSpec)

/-- 'docketlaw4.FrameCertain', WHERE WHAT IT READS IS OF BULK AT MOST 1048576: true; the input reads as it did. -/
def frameCertainUptoRow : OpenClaim := { program := "ytdepdediggokgaadoor", sum := "26e5ca6dcb88b75948387f0719cdf3f6e946a21b1f42079e0308ca8146153a6c", func := "docket/docketlaw4.FrameCertain", spec := "frameCertain", named := ["docket/frame.half"], apart := false, laid := [("docket/frame.half", laid_docket_frame_half)], narrowed := true }
def FrameCertainUptoSaid : Prop := frameCertainUptoRow.holds Tryd.pinned (OpenSpec.upto frameCertainSpec)

/-- 'docketlaw4.FrameNumbers', WHERE WHAT IT READS IS OF BULK AT MOST 1048576: true; the input reads as it did. -/
def frameNumbersUptoRow : OpenClaim := { program := "ytdepdediggokgaadoor", sum := "26e5ca6dcb88b75948387f0719cdf3f6e946a21b1f42079e0308ca8146153a6c", func := "docket/docketlaw4.FrameNumbers", spec := "frameNumbers", named := ["docket/frame.half"], apart := false, laid := [("docket/frame.half", laid_docket_frame_half)], narrowed := true }
def FrameNumbersUptoSaid : Prop := frameNumbersUptoRow.holds Tryd.pinned (OpenSpec.upto frameNumbersSpec)

/-- 'docketlaw4.FrameNames', WHERE WHAT IT READS IS OF BULK AT MOST 1048576: true; the input reads as it did. -/
def frameNamesUptoRow : OpenClaim := { program := "ytdepdediggokgaadoor", sum := "26e5ca6dcb88b75948387f0719cdf3f6e946a21b1f42079e0308ca8146153a6c", func := "docket/docketlaw4.FrameNames", spec := "frameNames", named := ["docket/frame.half"], apart := false, laid := [("docket/frame.half", laid_docket_frame_half)], narrowed := true }
def FrameNamesUptoSaid : Prop := frameNamesUptoRow.holds Tryd.pinned (OpenSpec.upto frameNamesSpec)

/-- 'docketlaw4.FrameTorn', WHERE WHAT IT READS IS OF BULK AT MOST 1048576: true; the input reads as it did. -/
def frameTornUptoRow : OpenClaim := { program := "ytdepdediggokgaadoor", sum := "26e5ca6dcb88b75948387f0719cdf3f6e946a21b1f42079e0308ca8146153a6c", func := "docket/docketlaw4.FrameTorn", spec := "frameTorn", named := ["docket/frame.half"], apart := false, laid := [("docket/frame.half", laid_docket_frame_half)], narrowed := true }
def FrameTornUptoSaid : Prop := frameTornUptoRow.holds Tryd.pinned (OpenSpec.upto frameTornSpec)

/-- 'docketlaw4.FrameEnds', WHERE WHAT IT READS IS OF BULK AT MOST 1048576: true; the input reads as it did. -/
def frameEndsUptoRow : OpenClaim := { program := "ytdepdediggokgaadoor", sum := "26e5ca6dcb88b75948387f0719cdf3f6e946a21b1f42079e0308ca8146153a6c", func := "docket/docketlaw4.FrameEnds", spec := "frameEnds", unfollowed := true, recurses := true, named := ["docket/frame.half"], apart := false, laid := [("docket/frame.half", laid_docket_frame_half)], narrowed := true }
def FrameEndsUptoSaid : Prop := frameEndsUptoRow.holds Tryd.pinned (OpenSpec.upto frameEndsSpec)

end Rows
end Go.Proofs.YtdepdediggokgaaDoor
