/-
  DERIVED. GIVEN WITH THE SEED: THE CARDS: each row of YtcnckjlmldnblaaDoorRows.lean that lists a variable, with what it lists TIED to the program's text (the seventh form; the later family's looks); each row that meets fmt, with fmt's text TOLD by the authors' own Lean function (tested against real Go, not proved from fmt's source: count such statements apart). THE CARD IS WHAT COUNTS. Prove the row's statement (the work); the ties are given (YtcnckjlmldnblaaDoorTie.lean); close each card by the builder's one call (the guide's Derived/Test/ToyasCard.lean, 'card_holds'). Laid BY PROGRAM, IN A SANDBOX (cutbox-door.mjs). By AI agents, Wed Nov 11 2026. No macro, syntax, notation, axiom, sorry.
-/
import Derived.Test.YtcnckjlmldnblaaDoorRows
import GoSem.ClaimSeven
namespace Go.Proofs.YtcnckjlmldnblaaDoor
namespace Rows

/-- THE TIED CARD OF 'docketlaw11.EvalRight'. -/
def evalRightCard : Claim7 := { stood := { row := evalRightRow, standIns := [], harness := (true, "0eef7ac9f8bddc4bc3c7f2d7504d9281bf7b06b986de8b28eb9dcc20bb782dbb"), looks := true }, kinds := [], alts := [], laidByText := true, laidKinds := [.data], laidTests := true, laidLooks := .later }
def EvalRightCardSaid : Prop := Claim7.holds Tryd.pinned (.plain (OpenSpec.ofChange evalRightSpec)) evalRightCard

/-- THE TIED CARD OF 'docketlaw11.EvalSees'. -/
def evalSeesCard : Claim7 := { stood := { row := evalSeesRow, standIns := [], harness := (true, "0eef7ac9f8bddc4bc3c7f2d7504d9281bf7b06b986de8b28eb9dcc20bb782dbb"), looks := true }, kinds := [], alts := [], laidByText := true, laidKinds := [.data], laidTests := true, laidLooks := .later }
def EvalSeesCardSaid : Prop := Claim7.holds Tryd.pinned (.plain (OpenSpec.ofChange evalSeesSpec)) evalSeesCard

/-- THE TIED CARD OF 'docketlaw11.EvalLocal'. -/
def evalLocalCard : Claim7 := { stood := { row := evalLocalRow, standIns := [], harness := (true, "0eef7ac9f8bddc4bc3c7f2d7504d9281bf7b06b986de8b28eb9dcc20bb782dbb"), looks := true }, kinds := [], alts := [], laidByText := true, laidKinds := [.data], laidTests := true, laidLooks := .later }
def EvalLocalCardSaid : Prop := Claim7.holds Tryd.pinned (.plain (OpenSpec.ofChange evalLocalSpec)) evalLocalCard

/-- THE TIED CARD OF 'docketlaw11.EvalLazy'. -/
def evalLazyCard : Claim7 := { stood := { row := evalLazyRow, standIns := [], harness := (true, "0eef7ac9f8bddc4bc3c7f2d7504d9281bf7b06b986de8b28eb9dcc20bb782dbb"), looks := true }, kinds := [], alts := [], laidByText := true, laidKinds := [.data], laidTests := true, laidLooks := .later }
def EvalLazyCardSaid : Prop := Claim7.holds Tryd.pinned (.plain (OpenSpec.ofChange evalLazySpec)) evalLazyCard

/-- THE TIED CARD OF 'docketlaw11.EvalInts'. -/
def evalIntsCard : Claim7 := { stood := { row := evalIntsRow, standIns := [], harness := (true, "0eef7ac9f8bddc4bc3c7f2d7504d9281bf7b06b986de8b28eb9dcc20bb782dbb"), looks := true }, kinds := [], alts := [], laidByText := true, laidKinds := [.data], laidTests := true, laidLooks := .later }
def EvalIntsCardSaid : Prop := Claim7.holds Tryd.pinned (.plain (OpenSpec.ofChange evalIntsSpec)) evalIntsCard

/-- THE TIED CARD OF 'docketlaw11.EvalSets'. -/
def evalSetsCard : Claim7 := { stood := { row := evalSetsRow, standIns := [], harness := (true, "0eef7ac9f8bddc4bc3c7f2d7504d9281bf7b06b986de8b28eb9dcc20bb782dbb"), looks := true }, kinds := [], alts := [], laidByText := true, laidKinds := [.data], laidTests := true, laidLooks := .later }
def EvalSetsCardSaid : Prop := Claim7.holds Tryd.pinned (.plain (OpenSpec.ofChange evalSetsSpec)) evalSetsCard

/-- THE TIED CARD OF 'docketlaw11.EvalSound'. -/
def evalSoundCard : Claim7 := { stood := { row := evalSoundRow, standIns := [], harness := (true, "0eef7ac9f8bddc4bc3c7f2d7504d9281bf7b06b986de8b28eb9dcc20bb782dbb"), looks := true }, kinds := [], alts := [], laidByText := true, laidKinds := [.data, .data], laidTests := true, laidLooks := .later }
def EvalSoundCardSaid : Prop := Claim7.holds Tryd.pinned (.plain (OpenSpec.ofChange evalSoundSpec)) evalSoundCard

/-- THE SECOND FORM's CARD OF 'docketlaw11.EvalRight'. -/
def evalRightUptoCard : Claim7 := { stood := { row := evalRightUptoRow, standIns := [], harness := (true, "0eef7ac9f8bddc4bc3c7f2d7504d9281bf7b06b986de8b28eb9dcc20bb782dbb"), looks := true }, kinds := [], alts := [], laidByText := true, laidKinds := [.data], laidTests := true, laidLooks := .later }
def EvalRightUptoCardSaid : Prop := Claim7.holds Tryd.pinned (.plain (OpenSpec.upto evalRightSpec)) evalRightUptoCard

/-- THE SECOND FORM's CARD OF 'docketlaw11.EvalSees'. -/
def evalSeesUptoCard : Claim7 := { stood := { row := evalSeesUptoRow, standIns := [], harness := (true, "0eef7ac9f8bddc4bc3c7f2d7504d9281bf7b06b986de8b28eb9dcc20bb782dbb"), looks := true }, kinds := [], alts := [], laidByText := true, laidKinds := [.data], laidTests := true, laidLooks := .later }
def EvalSeesUptoCardSaid : Prop := Claim7.holds Tryd.pinned (.plain (OpenSpec.upto evalSeesSpec)) evalSeesUptoCard

/-- THE SECOND FORM's CARD OF 'docketlaw11.EvalLocal'. -/
def evalLocalUptoCard : Claim7 := { stood := { row := evalLocalUptoRow, standIns := [], harness := (true, "0eef7ac9f8bddc4bc3c7f2d7504d9281bf7b06b986de8b28eb9dcc20bb782dbb"), looks := true }, kinds := [], alts := [], laidByText := true, laidKinds := [.data], laidTests := true, laidLooks := .later }
def EvalLocalUptoCardSaid : Prop := Claim7.holds Tryd.pinned (.plain (OpenSpec.upto evalLocalSpec)) evalLocalUptoCard

/-- THE SECOND FORM's CARD OF 'docketlaw11.EvalLazy'. -/
def evalLazyUptoCard : Claim7 := { stood := { row := evalLazyUptoRow, standIns := [], harness := (true, "0eef7ac9f8bddc4bc3c7f2d7504d9281bf7b06b986de8b28eb9dcc20bb782dbb"), looks := true }, kinds := [], alts := [], laidByText := true, laidKinds := [.data], laidTests := true, laidLooks := .later }
def EvalLazyUptoCardSaid : Prop := Claim7.holds Tryd.pinned (.plain (OpenSpec.upto evalLazySpec)) evalLazyUptoCard

/-- THE SECOND FORM's CARD OF 'docketlaw11.EvalInts'. -/
def evalIntsUptoCard : Claim7 := { stood := { row := evalIntsUptoRow, standIns := [], harness := (true, "0eef7ac9f8bddc4bc3c7f2d7504d9281bf7b06b986de8b28eb9dcc20bb782dbb"), looks := true }, kinds := [], alts := [], laidByText := true, laidKinds := [.data], laidTests := true, laidLooks := .later }
def EvalIntsUptoCardSaid : Prop := Claim7.holds Tryd.pinned (.plain (OpenSpec.upto evalIntsSpec)) evalIntsUptoCard

/-- THE SECOND FORM's CARD OF 'docketlaw11.EvalSets'. -/
def evalSetsUptoCard : Claim7 := { stood := { row := evalSetsUptoRow, standIns := [], harness := (true, "0eef7ac9f8bddc4bc3c7f2d7504d9281bf7b06b986de8b28eb9dcc20bb782dbb"), looks := true }, kinds := [], alts := [], laidByText := true, laidKinds := [.data], laidTests := true, laidLooks := .later }
def EvalSetsUptoCardSaid : Prop := Claim7.holds Tryd.pinned (.plain (OpenSpec.upto evalSetsSpec)) evalSetsUptoCard

/-- THE SECOND FORM's CARD OF 'docketlaw11.EvalSound'. -/
def evalSoundUptoCard : Claim7 := { stood := { row := evalSoundUptoRow, standIns := [], harness := (true, "0eef7ac9f8bddc4bc3c7f2d7504d9281bf7b06b986de8b28eb9dcc20bb782dbb"), looks := true }, kinds := [], alts := [], laidByText := true, laidKinds := [.data, .data], laidTests := true, laidLooks := .later }
def EvalSoundUptoCardSaid : Prop := Claim7.holds Tryd.pinned (.plain (OpenSpec.upto evalSoundSpec)) evalSoundUptoCard
end Rows
end Go.Proofs.YtcnckjlmldnblaaDoor
