/-
  DERIVED. GIVEN WITH THE SEED: THE CARDS: each row of YtdepdediggokgaaDoorRows.lean that lists a variable, with what it lists TIED to the program's text (the seventh form; the later family's looks); each row that meets fmt, with fmt's text TOLD by the authors' own Lean function (tested against real Go, not proved from fmt's source: count such statements apart). THE CARD IS WHAT COUNTS. Prove the row's statement (the work); the ties are given (YtdepdediggokgaaDoorTie.lean); close each card by the builder's one call (the guide's Derived/Test/ToyasCard.lean, 'card_holds'). Laid BY PROGRAM, IN A SANDBOX (cutbox-door.mjs). By AI agents, Wed Nov 11 2026. No macro, syntax, notation, axiom, sorry.
-/
import Derived.Test.YtdepdediggokgaaDoorRows
import GoSem.ClaimSeven
namespace Go.Proofs.YtdepdediggokgaaDoor
namespace Rows

/-- THE TIED CARD OF 'docketlaw4.FrameCRC'. -/
def frameCRCCard : Claim7 := { stood := { row := frameCRCRow, standIns := [], harness := (true, "e246946af26be75e0a982c855061d8e52d78efc2f1316dae190c44b38e57e1a1"), looks := false }, kinds := [], alts := [], laidByText := true, laidKinds := [.data], laidTests := true, laidLooks := .later }
def FrameCRCCardSaid : Prop := Claim7.holds Tryd.pinned (.plain (OpenSpec.ofChange frameCRCSpec)) frameCRCCard

/-- THE TIED CARD OF 'docketlaw4.FramePacks'. -/
def framePacksCard : Claim7 := { stood := { row := framePacksRow, standIns := [], harness := (true, "e246946af26be75e0a982c855061d8e52d78efc2f1316dae190c44b38e57e1a1"), looks := false }, kinds := [], alts := [], laidByText := true, laidKinds := [.data], laidTests := true, laidLooks := .later }
def FramePacksCardSaid : Prop := Claim7.holds Tryd.pinned (.plain (OpenSpec.ofChange framePacksSpec)) framePacksCard

/-- THE TIED CARD OF 'docketlaw4.FrameCertain'. -/
def frameCertainCard : Claim7 := { stood := { row := frameCertainRow, standIns := [], harness := (true, "e246946af26be75e0a982c855061d8e52d78efc2f1316dae190c44b38e57e1a1"), looks := false }, kinds := [], alts := [], laidByText := true, laidKinds := [.data], laidTests := true, laidLooks := .later }
def FrameCertainCardSaid : Prop := Claim7.holds Tryd.pinned (.plain (OpenSpec.ofChange frameCertainSpec)) frameCertainCard

/-- THE TIED CARD OF 'docketlaw4.FrameNumbers'. -/
def frameNumbersCard : Claim7 := { stood := { row := frameNumbersRow, standIns := [], harness := (true, "e246946af26be75e0a982c855061d8e52d78efc2f1316dae190c44b38e57e1a1"), looks := false }, kinds := [], alts := [], laidByText := true, laidKinds := [.data], laidTests := true, laidLooks := .later }
def FrameNumbersCardSaid : Prop := Claim7.holds Tryd.pinned (.plain (OpenSpec.ofChange frameNumbersSpec)) frameNumbersCard

/-- THE TIED CARD OF 'docketlaw4.FrameNames'. -/
def frameNamesCard : Claim7 := { stood := { row := frameNamesRow, standIns := [], harness := (true, "e246946af26be75e0a982c855061d8e52d78efc2f1316dae190c44b38e57e1a1"), looks := false }, kinds := [], alts := [], laidByText := true, laidKinds := [.data], laidTests := true, laidLooks := .later }
def FrameNamesCardSaid : Prop := Claim7.holds Tryd.pinned (.plain (OpenSpec.ofChange frameNamesSpec)) frameNamesCard

/-- THE TIED CARD OF 'docketlaw4.FrameTorn'. -/
def frameTornCard : Claim7 := { stood := { row := frameTornRow, standIns := [], harness := (true, "e246946af26be75e0a982c855061d8e52d78efc2f1316dae190c44b38e57e1a1"), looks := false }, kinds := [], alts := [], laidByText := true, laidKinds := [.data], laidTests := true, laidLooks := .later }
def FrameTornCardSaid : Prop := Claim7.holds Tryd.pinned (.plain (OpenSpec.ofChange frameTornSpec)) frameTornCard

/-- THE TIED CARD OF 'docketlaw4.FrameEnds'. -/
def frameEndsCard : Claim7 := { stood := { row := frameEndsRow, standIns := [], harness := (true, "e246946af26be75e0a982c855061d8e52d78efc2f1316dae190c44b38e57e1a1"), looks := false }, kinds := [], alts := [], laidByText := true, laidKinds := [.data], laidTests := true, laidLooks := .later }
def FrameEndsCardSaid : Prop := Claim7.holds Tryd.pinned (.plain (OpenSpec.ofChange frameEndsSpec)) frameEndsCard

/-- THE SECOND FORM's CARD OF 'docketlaw4.FrameCRC'. -/
def frameCRCUptoCard : Claim7 := { stood := { row := frameCRCUptoRow, standIns := [], harness := (true, "e246946af26be75e0a982c855061d8e52d78efc2f1316dae190c44b38e57e1a1"), looks := false }, kinds := [], alts := [], laidByText := true, laidKinds := [.data], laidTests := true, laidLooks := .later }
def FrameCRCUptoCardSaid : Prop := Claim7.holds Tryd.pinned (.plain (OpenSpec.upto frameCRCSpec)) frameCRCUptoCard

/-- THE SECOND FORM's CARD OF 'docketlaw4.FramePacks'. -/
def framePacksUptoCard : Claim7 := { stood := { row := framePacksUptoRow, standIns := [], harness := (true, "e246946af26be75e0a982c855061d8e52d78efc2f1316dae190c44b38e57e1a1"), looks := false }, kinds := [], alts := [], laidByText := true, laidKinds := [.data], laidTests := true, laidLooks := .later }
def FramePacksUptoCardSaid : Prop := Claim7.holds Tryd.pinned (.plain (OpenSpec.upto framePacksSpec)) framePacksUptoCard

/-- THE SECOND FORM's CARD OF 'docketlaw4.FrameCertain'. -/
def frameCertainUptoCard : Claim7 := { stood := { row := frameCertainUptoRow, standIns := [], harness := (true, "e246946af26be75e0a982c855061d8e52d78efc2f1316dae190c44b38e57e1a1"), looks := false }, kinds := [], alts := [], laidByText := true, laidKinds := [.data], laidTests := true, laidLooks := .later }
def FrameCertainUptoCardSaid : Prop := Claim7.holds Tryd.pinned (.plain (OpenSpec.upto frameCertainSpec)) frameCertainUptoCard

/-- THE SECOND FORM's CARD OF 'docketlaw4.FrameNumbers'. -/
def frameNumbersUptoCard : Claim7 := { stood := { row := frameNumbersUptoRow, standIns := [], harness := (true, "e246946af26be75e0a982c855061d8e52d78efc2f1316dae190c44b38e57e1a1"), looks := false }, kinds := [], alts := [], laidByText := true, laidKinds := [.data], laidTests := true, laidLooks := .later }
def FrameNumbersUptoCardSaid : Prop := Claim7.holds Tryd.pinned (.plain (OpenSpec.upto frameNumbersSpec)) frameNumbersUptoCard

/-- THE SECOND FORM's CARD OF 'docketlaw4.FrameNames'. -/
def frameNamesUptoCard : Claim7 := { stood := { row := frameNamesUptoRow, standIns := [], harness := (true, "e246946af26be75e0a982c855061d8e52d78efc2f1316dae190c44b38e57e1a1"), looks := false }, kinds := [], alts := [], laidByText := true, laidKinds := [.data], laidTests := true, laidLooks := .later }
def FrameNamesUptoCardSaid : Prop := Claim7.holds Tryd.pinned (.plain (OpenSpec.upto frameNamesSpec)) frameNamesUptoCard

/-- THE SECOND FORM's CARD OF 'docketlaw4.FrameTorn'. -/
def frameTornUptoCard : Claim7 := { stood := { row := frameTornUptoRow, standIns := [], harness := (true, "e246946af26be75e0a982c855061d8e52d78efc2f1316dae190c44b38e57e1a1"), looks := false }, kinds := [], alts := [], laidByText := true, laidKinds := [.data], laidTests := true, laidLooks := .later }
def FrameTornUptoCardSaid : Prop := Claim7.holds Tryd.pinned (.plain (OpenSpec.upto frameTornSpec)) frameTornUptoCard

/-- THE SECOND FORM's CARD OF 'docketlaw4.FrameEnds'. -/
def frameEndsUptoCard : Claim7 := { stood := { row := frameEndsUptoRow, standIns := [], harness := (true, "e246946af26be75e0a982c855061d8e52d78efc2f1316dae190c44b38e57e1a1"), looks := false }, kinds := [], alts := [], laidByText := true, laidKinds := [.data], laidTests := true, laidLooks := .later }
def FrameEndsUptoCardSaid : Prop := Claim7.holds Tryd.pinned (.plain (OpenSpec.upto frameEndsSpec)) frameEndsUptoCard
end Rows
end Go.Proofs.YtdepdediggokgaaDoor
