/-
  DERIVED. GIVEN WITH THE SEED: THE CARDS: each row of YtcnckjlmldnblaaGreatDoorRows.lean that lists a variable, with what it lists TIED to the program's text (the seventh form; the later family's looks); each row that meets fmt, with fmt's text TOLD by the authors' own Lean function (tested against real Go, not proved from fmt's source: count such statements apart). THE CARD IS WHAT COUNTS. Prove the row's statement (the work); the ties are given (YtcnckjlmldnblaaGreatDoorTie.lean); close each card by the builder's one call (the guide's Derived/Test/ToyasCard.lean, 'card_holds'). Laid BY PROGRAM, IN A SANDBOX (cutbox-door.mjs). By AI agents, Wed Nov 11 2026. No macro, syntax, notation, axiom, sorry.
-/
import Derived.Test.YtcnckjlmldnblaaGreatDoorRows
import GoSem.ClaimSeven
namespace Go.Proofs.YtcnckjlmldnblaaGreatDoor
namespace Rows

/-- THE TIED CARD OF 'docketlaw11.EvalWorth'. -/
def evalWorthCard : Claim7 := { stood := { row := evalWorthRow, standIns := [], harness := (true, "133fab850fda2b349f32e0a6b9e7f9e0252225bd85b69cd8da079039f9c6da03"), looks := true }, kinds := [], alts := [], laidByText := true, laidKinds := [.data, .data], laidTests := true, laidLooks := .later }
def EvalWorthCardSaid : Prop := Claim7.holds Tryz.pinned (.plain (OpenSpec.ofChange evalWorthSpec)) evalWorthCard

/-- THE TIED CARD OF 'docketlaw11.EvalKept'. -/
def evalKeptCard : Claim7 := { stood := { row := evalKeptRow, standIns := [], harness := (true, "133fab850fda2b349f32e0a6b9e7f9e0252225bd85b69cd8da079039f9c6da03"), looks := true }, kinds := [], alts := [], laidByText := true, laidKinds := [.data, .data], laidTests := true, laidLooks := .later }
def EvalKeptCardSaid : Prop := Claim7.holds Tryz.pinned (.plain (OpenSpec.ofChange evalKeptSpec)) evalKeptCard

/-- THE SECOND FORM's CARD OF 'docketlaw11.EvalWorth'. -/
def evalWorthUptoCard : Claim7 := { stood := { row := evalWorthUptoRow, standIns := [], harness := (true, "133fab850fda2b349f32e0a6b9e7f9e0252225bd85b69cd8da079039f9c6da03"), looks := true }, kinds := [], alts := [], laidByText := true, laidKinds := [.data, .data], laidTests := true, laidLooks := .later }
def EvalWorthUptoCardSaid : Prop := Claim7.holds Tryz.pinned (.plain (OpenSpec.upto evalWorthSpec)) evalWorthUptoCard

/-- THE SECOND FORM's CARD OF 'docketlaw11.EvalKept'. -/
def evalKeptUptoCard : Claim7 := { stood := { row := evalKeptUptoRow, standIns := [], harness := (true, "133fab850fda2b349f32e0a6b9e7f9e0252225bd85b69cd8da079039f9c6da03"), looks := true }, kinds := [], alts := [], laidByText := true, laidKinds := [.data, .data], laidTests := true, laidLooks := .later }
def EvalKeptUptoCardSaid : Prop := Claim7.holds Tryz.pinned (.plain (OpenSpec.upto evalKeptSpec)) evalKeptUptoCard
end Rows
end Go.Proofs.YtcnckjlmldnblaaGreatDoor
