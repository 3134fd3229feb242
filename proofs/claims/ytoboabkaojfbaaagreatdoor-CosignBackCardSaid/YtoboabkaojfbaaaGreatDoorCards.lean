/-
  DERIVED. GIVEN WITH THE SEED: THE CARDS: each row of YtoboabkaojfbaaaGreatDoorRows.lean that lists a variable, with what it lists TIED to the program's text (the seventh form; the later family's looks); each row that meets fmt, with fmt's text TOLD by the authors' own Lean function (tested against real Go, not proved from fmt's source: count such statements apart). THE CARD IS WHAT COUNTS. Prove the row's statement (the work); the ties are given (YtoboabkaojfbaaaGreatDoorTie.lean); close each card by the builder's one call (the guide's Derived/Test/ToyasCard.lean, 'card_holds'). Laid BY PROGRAM, IN A SANDBOX (cutbox-door.mjs). By AI agents, Wed Nov 11 2026. No macro, syntax, notation, axiom, sorry.
-/
import Derived.Test.YtoboabkaojfbaaaGreatDoorRows
import GoSem.ClaimSeven
namespace Go.Proofs.YtoboabkaojfbaaaGreatDoor
namespace Rows

/-- THE TIED CARD OF 'docketlaw21.CosignFaces'. -/
def cosignFacesCard : Claim7 := { stood := { row := cosignFacesRow, standIns := [], harness := (true, "e1fc3c6e25a0a1d2a50e90718a8094ceb2a1a8663a004cc05480e57be49b0425"), looks := true }, kinds := [], alts := [], laidByText := true, laidKinds := [.data, .data, .data], laidTests := true, laidLooks := .later }
def CosignFacesCardSaid : Prop := Claim7.holds Tryz.pinned (.plain (OpenSpec.ofChange cosignFacesSpec)) cosignFacesCard

/-- THE TIED CARD OF 'docketlaw21.CosignEncodes'. -/
def cosignEncodesCard : Claim7 := { stood := { row := cosignEncodesRow, standIns := [], harness := (true, "e1fc3c6e25a0a1d2a50e90718a8094ceb2a1a8663a004cc05480e57be49b0425"), looks := true }, kinds := [], alts := [], laidByText := true, laidKinds := [.data, .data, .data], laidTests := true, laidLooks := .later }
def CosignEncodesCardSaid : Prop := Claim7.holds Tryz.pinned (.plain (OpenSpec.ofChange cosignEncodesSpec)) cosignEncodesCard

/-- THE TIED CARD OF 'docketlaw21.CosignDecodes'. -/
def cosignDecodesCard : Claim7 := { stood := { row := cosignDecodesRow, standIns := [], harness := (true, "e1fc3c6e25a0a1d2a50e90718a8094ceb2a1a8663a004cc05480e57be49b0425"), looks := true }, kinds := [], alts := [], laidByText := true, laidKinds := [.data, .data, .data], laidTests := true, laidLooks := .later }
def CosignDecodesCardSaid : Prop := Claim7.holds Tryz.pinned (.plain (OpenSpec.ofChange cosignDecodesSpec)) cosignDecodesCard

/-- THE TIED CARD OF 'docketlaw21.CosignAccuses'. -/
def cosignAccusesCard : Claim7 := { stood := { row := cosignAccusesRow, standIns := [], harness := (true, "e1fc3c6e25a0a1d2a50e90718a8094ceb2a1a8663a004cc05480e57be49b0425"), looks := true }, kinds := [], alts := [], laidByText := true, laidKinds := [.data, .data, .data], laidTests := true, laidLooks := .later }
def CosignAccusesCardSaid : Prop := Claim7.holds Tryz.pinned (.plain (OpenSpec.ofChange cosignAccusesSpec)) cosignAccusesCard

/-- THE TIED CARD OF 'docketlaw21.CosignTells'. -/
def cosignTellsCard : Claim7 := { stood := { row := cosignTellsRow, standIns := [], harness := (true, "e1fc3c6e25a0a1d2a50e90718a8094ceb2a1a8663a004cc05480e57be49b0425"), looks := true }, kinds := [], alts := [], laidByText := true, laidKinds := [.data, .data, .data], laidTests := true, laidLooks := .later }
def CosignTellsCardSaid : Prop := Claim7.holds Tryz.pinned (.plain (OpenSpec.ofChange cosignTellsSpec)) cosignTellsCard

/-- THE TIED CARD OF 'docketlaw21.CosignShows'. -/
def cosignShowsCard : Claim7 := { stood := { row := cosignShowsRow, standIns := [], harness := (true, "e1fc3c6e25a0a1d2a50e90718a8094ceb2a1a8663a004cc05480e57be49b0425"), looks := true }, kinds := [], alts := [], laidByText := true, laidKinds := [.data, .data, .data], laidTests := true, laidLooks := .later }
def CosignShowsCardSaid : Prop := Claim7.holds Tryz.pinned (.plain (OpenSpec.ofChange cosignShowsSpec)) cosignShowsCard

/-- THE TIED CARD OF 'docketlaw21.CosignBack'. -/
def cosignBackCard : Claim7 := { stood := { row := cosignBackRow, standIns := [], harness := (true, "e1fc3c6e25a0a1d2a50e90718a8094ceb2a1a8663a004cc05480e57be49b0425"), looks := true }, kinds := [], alts := [], laidByText := true, laidKinds := [.data, .data, .data], laidTests := true, laidLooks := .later }
def CosignBackCardSaid : Prop := Claim7.holds Tryz.pinned (.plain (OpenSpec.ofChange cosignBackSpec)) cosignBackCard

/-- THE TIED CARD OF 'docketlaw21.CosignHonest'. -/
def cosignHonestCard : Claim7 := { stood := { row := cosignHonestRow, standIns := [], harness := (true, "e1fc3c6e25a0a1d2a50e90718a8094ceb2a1a8663a004cc05480e57be49b0425"), looks := true }, kinds := [], alts := [], laidByText := true, laidKinds := [.data, .data, .data], laidTests := true, laidLooks := .later }
def CosignHonestCardSaid : Prop := Claim7.holds Tryz.pinned (.plain (OpenSpec.ofChange cosignHonestSpec)) cosignHonestCard

/-- THE TIED CARD OF 'docketlaw21.CosignKept'. -/
def cosignKeptCard : Claim7 := { stood := { row := cosignKeptRow, standIns := [], harness := (true, "e1fc3c6e25a0a1d2a50e90718a8094ceb2a1a8663a004cc05480e57be49b0425"), looks := true }, kinds := [], alts := [], laidByText := true, laidKinds := [.data, .data, .data], laidTests := true, laidLooks := .later }
def CosignKeptCardSaid : Prop := Claim7.holds Tryz.pinned (.plain (OpenSpec.ofChange cosignKeptSpec)) cosignKeptCard

/-- THE SECOND FORM's CARD OF 'docketlaw21.CosignFaces'. -/
def cosignFacesUptoCard : Claim7 := { stood := { row := cosignFacesUptoRow, standIns := [], harness := (true, "e1fc3c6e25a0a1d2a50e90718a8094ceb2a1a8663a004cc05480e57be49b0425"), looks := true }, kinds := [], alts := [], laidByText := true, laidKinds := [.data, .data, .data], laidTests := true, laidLooks := .later }
def CosignFacesUptoCardSaid : Prop := Claim7.holds Tryz.pinned (.plain (OpenSpec.upto cosignFacesSpec)) cosignFacesUptoCard

/-- THE SECOND FORM's CARD OF 'docketlaw21.CosignEncodes'. -/
def cosignEncodesUptoCard : Claim7 := { stood := { row := cosignEncodesUptoRow, standIns := [], harness := (true, "e1fc3c6e25a0a1d2a50e90718a8094ceb2a1a8663a004cc05480e57be49b0425"), looks := true }, kinds := [], alts := [], laidByText := true, laidKinds := [.data, .data, .data], laidTests := true, laidLooks := .later }
def CosignEncodesUptoCardSaid : Prop := Claim7.holds Tryz.pinned (.plain (OpenSpec.upto cosignEncodesSpec)) cosignEncodesUptoCard

/-- THE SECOND FORM's CARD OF 'docketlaw21.CosignDecodes'. -/
def cosignDecodesUptoCard : Claim7 := { stood := { row := cosignDecodesUptoRow, standIns := [], harness := (true, "e1fc3c6e25a0a1d2a50e90718a8094ceb2a1a8663a004cc05480e57be49b0425"), looks := true }, kinds := [], alts := [], laidByText := true, laidKinds := [.data, .data, .data], laidTests := true, laidLooks := .later }
def CosignDecodesUptoCardSaid : Prop := Claim7.holds Tryz.pinned (.plain (OpenSpec.upto cosignDecodesSpec)) cosignDecodesUptoCard

/-- THE SECOND FORM's CARD OF 'docketlaw21.CosignAccuses'. -/
def cosignAccusesUptoCard : Claim7 := { stood := { row := cosignAccusesUptoRow, standIns := [], harness := (true, "e1fc3c6e25a0a1d2a50e90718a8094ceb2a1a8663a004cc05480e57be49b0425"), looks := true }, kinds := [], alts := [], laidByText := true, laidKinds := [.data, .data, .data], laidTests := true, laidLooks := .later }
def CosignAccusesUptoCardSaid : Prop := Claim7.holds Tryz.pinned (.plain (OpenSpec.upto cosignAccusesSpec)) cosignAccusesUptoCard

/-- THE SECOND FORM's CARD OF 'docketlaw21.CosignTells'. -/
def cosignTellsUptoCard : Claim7 := { stood := { row := cosignTellsUptoRow, standIns := [], harness := (true, "e1fc3c6e25a0a1d2a50e90718a8094ceb2a1a8663a004cc05480e57be49b0425"), looks := true }, kinds := [], alts := [], laidByText := true, laidKinds := [.data, .data, .data], laidTests := true, laidLooks := .later }
def CosignTellsUptoCardSaid : Prop := Claim7.holds Tryz.pinned (.plain (OpenSpec.upto cosignTellsSpec)) cosignTellsUptoCard

/-- THE SECOND FORM's CARD OF 'docketlaw21.CosignShows'. -/
def cosignShowsUptoCard : Claim7 := { stood := { row := cosignShowsUptoRow, standIns := [], harness := (true, "e1fc3c6e25a0a1d2a50e90718a8094ceb2a1a8663a004cc05480e57be49b0425"), looks := true }, kinds := [], alts := [], laidByText := true, laidKinds := [.data, .data, .data], laidTests := true, laidLooks := .later }
def CosignShowsUptoCardSaid : Prop := Claim7.holds Tryz.pinned (.plain (OpenSpec.upto cosignShowsSpec)) cosignShowsUptoCard

/-- THE SECOND FORM's CARD OF 'docketlaw21.CosignBack'. -/
def cosignBackUptoCard : Claim7 := { stood := { row := cosignBackUptoRow, standIns := [], harness := (true, "e1fc3c6e25a0a1d2a50e90718a8094ceb2a1a8663a004cc05480e57be49b0425"), looks := true }, kinds := [], alts := [], laidByText := true, laidKinds := [.data, .data, .data], laidTests := true, laidLooks := .later }
def CosignBackUptoCardSaid : Prop := Claim7.holds Tryz.pinned (.plain (OpenSpec.upto cosignBackSpec)) cosignBackUptoCard

/-- THE SECOND FORM's CARD OF 'docketlaw21.CosignHonest'. -/
def cosignHonestUptoCard : Claim7 := { stood := { row := cosignHonestUptoRow, standIns := [], harness := (true, "e1fc3c6e25a0a1d2a50e90718a8094ceb2a1a8663a004cc05480e57be49b0425"), looks := true }, kinds := [], alts := [], laidByText := true, laidKinds := [.data, .data, .data], laidTests := true, laidLooks := .later }
def CosignHonestUptoCardSaid : Prop := Claim7.holds Tryz.pinned (.plain (OpenSpec.upto cosignHonestSpec)) cosignHonestUptoCard

/-- THE SECOND FORM's CARD OF 'docketlaw21.CosignKept'. -/
def cosignKeptUptoCard : Claim7 := { stood := { row := cosignKeptUptoRow, standIns := [], harness := (true, "e1fc3c6e25a0a1d2a50e90718a8094ceb2a1a8663a004cc05480e57be49b0425"), looks := true }, kinds := [], alts := [], laidByText := true, laidKinds := [.data, .data, .data], laidTests := true, laidLooks := .later }
def CosignKeptUptoCardSaid : Prop := Claim7.holds Tryz.pinned (.plain (OpenSpec.upto cosignKeptSpec)) cosignKeptUptoCard
end Rows
end Go.Proofs.YtoboabkaojfbaaaGreatDoor
