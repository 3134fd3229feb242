/-
  DERIVED. GIVEN WITH THE SEED: THE CARDS: each row of YtakaoacialnjaaaDoorRows.lean that lists a variable, with what it lists TIED to the program's text (the seventh form; the later family's looks); each row that meets fmt, with fmt's text TOLD by the authors' own Lean function (tested against real Go, not proved from fmt's source: count such statements apart). THE CARD IS WHAT COUNTS. Prove the row's statement (the work); the ties are given (YtakaoacialnjaaaDoorTie.lean); close each card by the builder's one call (the guide's Derived/Test/ToyasCard.lean, 'card_holds'). Laid BY PROGRAM, IN A SANDBOX (cutbox-door.mjs). By AI agents, Wed Nov 11 2026. No macro, syntax, notation, axiom, sorry.
-/
import Derived.Test.YtakaoacialnjaaaDoorRows
import GoSem.ClaimSeven
namespace Go.Proofs.YtakaoacialnjaaaDoor
namespace Rows

/-- THE TIED CARD OF 'docketlaw10.KindsTable'. -/
def kindsTableCard : Claim7 := { stood := { row := kindsTableRow, standIns := [], harness := (true, "8901f494b5c9983c138f908e4b86325d6d08bb72577946aa014d63c968de7ed3"), looks := false }, kinds := [], alts := [], laidByText := true, laidKinds := [.data, .data, .data], laidTests := true, laidLooks := .later }
def KindsTableCardSaid : Prop := Claim7.holds Tryd.pinned (.plain (OpenSpec.ofChange kindsTableSpec)) kindsTableCard

/-- THE TIED CARD OF 'docketlaw10.KindsOf'. -/
def kindsOfCard : Claim7 := { stood := { row := kindsOfRow, standIns := [], harness := (true, "8901f494b5c9983c138f908e4b86325d6d08bb72577946aa014d63c968de7ed3"), looks := false }, kinds := [], alts := [], laidByText := true, laidKinds := [.data, .data, .data], laidTests := true, laidLooks := .later }
def KindsOfCardSaid : Prop := Claim7.holds Tryd.pinned (.plain (OpenSpec.ofChange kindsOfSpec)) kindsOfCard

/-- THE TIED CARD OF 'docketlaw10.KindsLocal'. -/
def kindsLocalCard : Claim7 := { stood := { row := kindsLocalRow, standIns := [], harness := (true, "8901f494b5c9983c138f908e4b86325d6d08bb72577946aa014d63c968de7ed3"), looks := false }, kinds := [], alts := [], laidByText := true, laidKinds := [.data, .data], laidTests := true, laidLooks := .later }
def KindsLocalCardSaid : Prop := Claim7.holds Tryd.pinned (.plain (OpenSpec.ofChange kindsLocalSpec)) kindsLocalCard

/-- THE TIED CARD OF 'docketlaw10.KindsSwap'. -/
def kindsSwapCard : Claim7 := { stood := { row := kindsSwapRow, standIns := [], harness := (true, "8901f494b5c9983c138f908e4b86325d6d08bb72577946aa014d63c968de7ed3"), looks := false }, kinds := [], alts := [], laidByText := true, laidKinds := [.data, .data], laidTests := true, laidLooks := .later }
def KindsSwapCardSaid : Prop := Claim7.holds Tryd.pinned (.plain (OpenSpec.ofChange kindsSwapSpec)) kindsSwapCard

/-- THE TIED CARD OF 'docketlaw10.KindsKept'. -/
def kindsKeptCard : Claim7 := { stood := { row := kindsKeptRow, standIns := [], harness := (true, "8901f494b5c9983c138f908e4b86325d6d08bb72577946aa014d63c968de7ed3"), looks := false }, kinds := [], alts := [], laidByText := true, laidKinds := [.data, .data, .data], laidTests := true, laidLooks := .later }
def KindsKeptCardSaid : Prop := Claim7.holds Tryd.pinned (.plain (OpenSpec.ofChange kindsKeptSpec)) kindsKeptCard

/-- THE TIED CARD OF 'docketlaw10.KindsFits'. -/
def kindsFitsCard : Claim7 := { stood := { row := kindsFitsRow, standIns := [], harness := (true, "8901f494b5c9983c138f908e4b86325d6d08bb72577946aa014d63c968de7ed3"), looks := false }, kinds := [], alts := [], laidByText := true, laidKinds := [.data, .data], laidTests := true, laidLooks := .later }
def KindsFitsCardSaid : Prop := Claim7.holds Tryd.pinned (.plain (OpenSpec.ofChange kindsFitsSpec)) kindsFitsCard

/-- THE SECOND FORM's CARD OF 'docketlaw10.KindsTable'. -/
def kindsTableUptoCard : Claim7 := { stood := { row := kindsTableUptoRow, standIns := [], harness := (true, "8901f494b5c9983c138f908e4b86325d6d08bb72577946aa014d63c968de7ed3"), looks := false }, kinds := [], alts := [], laidByText := true, laidKinds := [.data, .data, .data], laidTests := true, laidLooks := .later }
def KindsTableUptoCardSaid : Prop := Claim7.holds Tryd.pinned (.plain (OpenSpec.upto kindsTableSpec)) kindsTableUptoCard

/-- THE SECOND FORM's CARD OF 'docketlaw10.KindsOf'. -/
def kindsOfUptoCard : Claim7 := { stood := { row := kindsOfUptoRow, standIns := [], harness := (true, "8901f494b5c9983c138f908e4b86325d6d08bb72577946aa014d63c968de7ed3"), looks := false }, kinds := [], alts := [], laidByText := true, laidKinds := [.data, .data, .data], laidTests := true, laidLooks := .later }
def KindsOfUptoCardSaid : Prop := Claim7.holds Tryd.pinned (.plain (OpenSpec.upto kindsOfSpec)) kindsOfUptoCard

/-- THE SECOND FORM's CARD OF 'docketlaw10.KindsLocal'. -/
def kindsLocalUptoCard : Claim7 := { stood := { row := kindsLocalUptoRow, standIns := [], harness := (true, "8901f494b5c9983c138f908e4b86325d6d08bb72577946aa014d63c968de7ed3"), looks := false }, kinds := [], alts := [], laidByText := true, laidKinds := [.data, .data], laidTests := true, laidLooks := .later }
def KindsLocalUptoCardSaid : Prop := Claim7.holds Tryd.pinned (.plain (OpenSpec.upto kindsLocalSpec)) kindsLocalUptoCard

/-- THE SECOND FORM's CARD OF 'docketlaw10.KindsSwap'. -/
def kindsSwapUptoCard : Claim7 := { stood := { row := kindsSwapUptoRow, standIns := [], harness := (true, "8901f494b5c9983c138f908e4b86325d6d08bb72577946aa014d63c968de7ed3"), looks := false }, kinds := [], alts := [], laidByText := true, laidKinds := [.data, .data], laidTests := true, laidLooks := .later }
def KindsSwapUptoCardSaid : Prop := Claim7.holds Tryd.pinned (.plain (OpenSpec.upto kindsSwapSpec)) kindsSwapUptoCard

/-- THE SECOND FORM's CARD OF 'docketlaw10.KindsKept'. -/
def kindsKeptUptoCard : Claim7 := { stood := { row := kindsKeptUptoRow, standIns := [], harness := (true, "8901f494b5c9983c138f908e4b86325d6d08bb72577946aa014d63c968de7ed3"), looks := false }, kinds := [], alts := [], laidByText := true, laidKinds := [.data, .data, .data], laidTests := true, laidLooks := .later }
def KindsKeptUptoCardSaid : Prop := Claim7.holds Tryd.pinned (.plain (OpenSpec.upto kindsKeptSpec)) kindsKeptUptoCard

/-- THE SECOND FORM's CARD OF 'docketlaw10.KindsFits'. -/
def kindsFitsUptoCard : Claim7 := { stood := { row := kindsFitsUptoRow, standIns := [], harness := (true, "8901f494b5c9983c138f908e4b86325d6d08bb72577946aa014d63c968de7ed3"), looks := false }, kinds := [], alts := [], laidByText := true, laidKinds := [.data, .data], laidTests := true, laidLooks := .later }
def KindsFitsUptoCardSaid : Prop := Claim7.holds Tryd.pinned (.plain (OpenSpec.upto kindsFitsSpec)) kindsFitsUptoCard
end Rows
end Go.Proofs.YtakaoacialnjaaaDoor
