/-
  DERIVED. GIVEN WITH THE SEED: THE PROGRAM's TIES (one call each: nine closed facts by the kernel) AND EACH ROW's TIE, after the 31st guide's Derived/Test/Toyas{Tie, Card}.lean. No idea stands in it: it is a product of the set-up. Laid BY PROGRAM, IN A SANDBOX (cutbox-door.mjs). By AI agents, Wed Nov 11 2026. No macro, syntax, notation, axiom, sorry.
-/
import Derived.Test.YtakaoacialnjaaaDoorRows
import Derived.LaidByTextLater
import Derived.SevenTiedAt
import Derived.LaidSub
import Derived.LaidOnce
namespace Go.Proofs.YtakaoacialnjaaaDoor
open Go
set_option maxRecDepth 100000
theorem seatTie1 : Tryd.prog.laidByTextLater [("docket/docketref9.reserved", Rows.laid_docket_docketref9_reserved), ("docket/text.reserved", Rows.laid_docket_text_reserved), ("docket/kinds.nothing", Rows.laid_docket_kinds_nothing)] [.data, .data, .data] true :=
  Program.laidByTextLater_by_one 24 8 36 (by kernel_rfl) (by kernel_rfl) (by kernel_rfl) (by kernel_rfl) (by kernel_rfl) (by kernel_rfl) (fun _ _ => by kernel_rfl)
theorem noOwnUnsafe : Tryd.pinned.checked.prog.headLifts.contains "ownunsafe" = false := by kernel_rfl
theorem tie : Tryd.prog.laidByTextLater [("docket/docketref9.reserved", Rows.laid_docket_docketref9_reserved), ("docket/text.reserved", Rows.laid_docket_text_reserved), ("docket/kinds.nothing", Rows.laid_docket_kinds_nothing)] [.data, .data, .data] true :=
  Program.laidByTextLater.sub seatTie1 ["docket/docketref9.reserved", "docket/text.reserved", "docket/kinds.nothing"] (by kernel_rfl) (by kernel_rfl)
theorem kindsTable_row_tie : Rows.kindsTableRow.laidByTextAt .later Tryd.pinned [.data, .data, .data] true :=
  OpenClaim.laidByTextAt_later rfl rfl tie noOwnUnsafe
theorem kindsOf_row_tie : Rows.kindsOfRow.laidByTextAt .later Tryd.pinned [.data, .data, .data] true :=
  OpenClaim.laidByTextAt_later rfl rfl tie noOwnUnsafe
theorem kindsKept_row_tie : Rows.kindsKeptRow.laidByTextAt .later Tryd.pinned [.data, .data, .data] true :=
  OpenClaim.laidByTextAt_later rfl rfl tie noOwnUnsafe
theorem tie2 : Tryd.prog.laidByTextLater [("docket/text.reserved", Rows.laid_docket_text_reserved), ("docket/kinds.nothing", Rows.laid_docket_kinds_nothing)] [.data, .data] true :=
  Program.laidByTextLater.sub seatTie1 ["docket/text.reserved", "docket/kinds.nothing"] (by kernel_rfl) (by kernel_rfl)
theorem kindsLocal_row_tie : Rows.kindsLocalRow.laidByTextAt .later Tryd.pinned [.data, .data] true :=
  OpenClaim.laidByTextAt_later rfl rfl tie2 noOwnUnsafe
theorem kindsSwap_row_tie : Rows.kindsSwapRow.laidByTextAt .later Tryd.pinned [.data, .data] true :=
  OpenClaim.laidByTextAt_later rfl rfl tie2 noOwnUnsafe
theorem kindsFits_row_tie : Rows.kindsFitsRow.laidByTextAt .later Tryd.pinned [.data, .data] true :=
  OpenClaim.laidByTextAt_later rfl rfl tie2 noOwnUnsafe
theorem kindsTableUpto_row_tie : Rows.kindsTableUptoRow.laidByTextAt .later Tryd.pinned [.data, .data, .data] true :=
  OpenClaim.laidByTextAt_later rfl rfl tie noOwnUnsafe
theorem kindsOfUpto_row_tie : Rows.kindsOfUptoRow.laidByTextAt .later Tryd.pinned [.data, .data, .data] true :=
  OpenClaim.laidByTextAt_later rfl rfl tie noOwnUnsafe
theorem kindsLocalUpto_row_tie : Rows.kindsLocalUptoRow.laidByTextAt .later Tryd.pinned [.data, .data] true :=
  OpenClaim.laidByTextAt_later rfl rfl tie2 noOwnUnsafe
theorem kindsSwapUpto_row_tie : Rows.kindsSwapUptoRow.laidByTextAt .later Tryd.pinned [.data, .data] true :=
  OpenClaim.laidByTextAt_later rfl rfl tie2 noOwnUnsafe
theorem kindsKeptUpto_row_tie : Rows.kindsKeptUptoRow.laidByTextAt .later Tryd.pinned [.data, .data, .data] true :=
  OpenClaim.laidByTextAt_later rfl rfl tie noOwnUnsafe
theorem kindsFitsUpto_row_tie : Rows.kindsFitsUptoRow.laidByTextAt .later Tryd.pinned [.data, .data] true :=
  OpenClaim.laidByTextAt_later rfl rfl tie2 noOwnUnsafe
end Go.Proofs.YtakaoacialnjaaaDoor
