/-
  DERIVED. GIVEN WITH THE SEED: THE CARDS: each row of YtgkehahklccacaaGreatDoorRows.lean that lists a variable, with what it lists TIED to the program's text (the seventh form; the later family's looks); each row that meets fmt, with fmt's text TOLD by the authors' own Lean function (tested against real Go, not proved from fmt's source: count such statements apart). THE CARD IS WHAT COUNTS. Prove the row's statement (the work); the ties are given (YtgkehahklccacaaGreatDoorTie.lean); close each card by the builder's one call (the guide's Derived/Test/ToyasCard.lean, 'card_holds'). Laid BY PROGRAM, IN A SANDBOX (cutbox-door.mjs). By AI agents, Wed Nov 11 2026. No macro, syntax, notation, axiom, sorry.
-/
import Derived.Test.YtgkehahklccacaaGreatDoorRows
import GoSem.ClaimSeven
namespace Go.Proofs.YtgkehahklccacaaGreatDoor
namespace Rows

/-- THE TIED CARD OF 'docketlaw7.TilesBytes'. -/
def tilesBytesCard : Claim7 := { stood := { row := tilesBytesRow, standIns := [], harness := (true, "e2b12a44b98efbe754c5d29cbae6173c4f2f2d2f163616b60121f47dfd0313ad"), looks := true }, kinds := [], alts := [], laidByText := true, laidKinds := [.data, .data], laidTests := true, laidLooks := .later }
def TilesBytesCardSaid : Prop := Claim7.holds Tryz.pinned (.plain (OpenSpec.ofChange tilesBytesSpec)) tilesBytesCard

/-- THE TIED CARD OF 'docketlaw7.TilesNames'. -/
def tilesNamesCard : Claim7 := { stood := { row := tilesNamesRow, standIns := [], harness := (true, "e2b12a44b98efbe754c5d29cbae6173c4f2f2d2f163616b60121f47dfd0313ad"), looks := true }, kinds := [], alts := [], laidByText := true, laidKinds := [.data, .data, .data, .data], laidTests := true, laidLooks := .later }
def TilesNamesCardSaid : Prop := Claim7.holds Tryz.pinned (.plain (OpenSpec.ofChange tilesNamesSpec)) tilesNamesCard

/-- THE TIED CARD OF 'docketlaw7.TilesPlays'. -/
def tilesPlaysCard : Claim7 := { stood := { row := tilesPlaysRow, standIns := [], harness := (true, "e2b12a44b98efbe754c5d29cbae6173c4f2f2d2f163616b60121f47dfd0313ad"), looks := true }, kinds := [], alts := [], laidByText := true, laidKinds := [.data, .data, .data, .data], laidTests := true, laidLooks := .later }
def TilesPlaysCardSaid : Prop := Claim7.holds Tryz.pinned (.plain (OpenSpec.ofChange tilesPlaysSpec)) tilesPlaysCard

/-- THE TIED CARD OF 'docketlaw7.TilesCache'. -/
def tilesCacheCard : Claim7 := { stood := { row := tilesCacheRow, standIns := [], harness := (true, "e2b12a44b98efbe754c5d29cbae6173c4f2f2d2f163616b60121f47dfd0313ad"), looks := true }, kinds := [], alts := [], laidByText := true, laidKinds := [.data, .data, .data, .data], laidTests := true, laidLooks := .later }
def TilesCacheCardSaid : Prop := Claim7.holds Tryz.pinned (.plain (OpenSpec.ofChange tilesCacheSpec)) tilesCacheCard

/-- THE TIED CARD OF 'docketlaw7.TilesRoom'. -/
def tilesRoomCard : Claim7 := { stood := { row := tilesRoomRow, standIns := [], harness := (true, "e2b12a44b98efbe754c5d29cbae6173c4f2f2d2f163616b60121f47dfd0313ad"), looks := true }, kinds := [], alts := [], laidByText := true, laidKinds := [.data, .data, .data, .data], laidTests := true, laidLooks := .later }
def TilesRoomCardSaid : Prop := Claim7.holds Tryz.pinned (.plain (OpenSpec.ofChange tilesRoomSpec)) tilesRoomCard

/-- THE SECOND FORM's CARD OF 'docketlaw7.TilesBytes'. -/
def tilesBytesUptoCard : Claim7 := { stood := { row := tilesBytesUptoRow, standIns := [], harness := (true, "e2b12a44b98efbe754c5d29cbae6173c4f2f2d2f163616b60121f47dfd0313ad"), looks := true }, kinds := [], alts := [], laidByText := true, laidKinds := [.data, .data], laidTests := true, laidLooks := .later }
def TilesBytesUptoCardSaid : Prop := Claim7.holds Tryz.pinned (.plain (OpenSpec.upto tilesBytesSpec)) tilesBytesUptoCard

/-- THE SECOND FORM's CARD OF 'docketlaw7.TilesNames'. -/
def tilesNamesUptoCard : Claim7 := { stood := { row := tilesNamesUptoRow, standIns := [], harness := (true, "e2b12a44b98efbe754c5d29cbae6173c4f2f2d2f163616b60121f47dfd0313ad"), looks := true }, kinds := [], alts := [], laidByText := true, laidKinds := [.data, .data, .data, .data], laidTests := true, laidLooks := .later }
def TilesNamesUptoCardSaid : Prop := Claim7.holds Tryz.pinned (.plain (OpenSpec.upto tilesNamesSpec)) tilesNamesUptoCard

/-- THE SECOND FORM's CARD OF 'docketlaw7.TilesPlays'. -/
def tilesPlaysUptoCard : Claim7 := { stood := { row := tilesPlaysUptoRow, standIns := [], harness := (true, "e2b12a44b98efbe754c5d29cbae6173c4f2f2d2f163616b60121f47dfd0313ad"), looks := true }, kinds := [], alts := [], laidByText := true, laidKinds := [.data, .data, .data, .data], laidTests := true, laidLooks := .later }
def TilesPlaysUptoCardSaid : Prop := Claim7.holds Tryz.pinned (.plain (OpenSpec.upto tilesPlaysSpec)) tilesPlaysUptoCard

/-- THE SECOND FORM's CARD OF 'docketlaw7.TilesCache'. -/
def tilesCacheUptoCard : Claim7 := { stood := { row := tilesCacheUptoRow, standIns := [], harness := (true, "e2b12a44b98efbe754c5d29cbae6173c4f2f2d2f163616b60121f47dfd0313ad"), looks := true }, kinds := [], alts := [], laidByText := true, laidKinds := [.data, .data, .data, .data], laidTests := true, laidLooks := .later }
def TilesCacheUptoCardSaid : Prop := Claim7.holds Tryz.pinned (.plain (OpenSpec.upto tilesCacheSpec)) tilesCacheUptoCard

/-- THE SECOND FORM's CARD OF 'docketlaw7.TilesRoom'. -/
def tilesRoomUptoCard : Claim7 := { stood := { row := tilesRoomUptoRow, standIns := [], harness := (true, "e2b12a44b98efbe754c5d29cbae6173c4f2f2d2f163616b60121f47dfd0313ad"), looks := true }, kinds := [], alts := [], laidByText := true, laidKinds := [.data, .data, .data, .data], laidTests := true, laidLooks := .later }
def TilesRoomUptoCardSaid : Prop := Claim7.holds Tryz.pinned (.plain (OpenSpec.upto tilesRoomSpec)) tilesRoomUptoCard
end Rows
end Go.Proofs.YtgkehahklccacaaGreatDoor
