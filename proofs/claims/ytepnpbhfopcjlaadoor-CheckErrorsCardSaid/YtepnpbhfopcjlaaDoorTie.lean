/-
  DERIVED. GIVEN WITH THE SEED: THE PROGRAM's TIES (one call each: nine closed facts by the kernel) AND EACH ROW's TIE, after the 31st guide's Derived/Test/Toyas{Tie, Card}.lean. No idea stands in it: it is a product of the set-up. Laid BY PROGRAM, IN A SANDBOX (cutbox-door.mjs). By AI agents, Wed Nov 11 2026. No macro, syntax, notation, axiom, sorry.
-/
import Derived.Test.YtepnpbhfopcjlaaDoorRows
import Derived.LaidByTextLater
import Derived.SevenTiedAt
import Derived.LaidSub
import Derived.LaidOnce
namespace Go.Proofs.YtepnpbhfopcjlaaDoor
open Go
set_option maxRecDepth 100000
theorem seatTie1 : Tryd.prog.laidByTextLater [("belvedere/api.ErrText", Rows.laid_belvedere_api_ErrText), ("belvedere/api.ErrType", Rows.laid_belvedere_api_ErrType), ("belvedere/api.ErrName", Rows.laid_belvedere_api_ErrName), ("belvedere/api.ErrTwice", Rows.laid_belvedere_api_ErrTwice), ("belvedere/api.ErrUse", Rows.laid_belvedere_api_ErrUse), ("belvedere/api.ErrArity", Rows.laid_belvedere_api_ErrArity), ("belvedere/api.ErrOver", Rows.laid_belvedere_api_ErrOver), ("belvedere/api.ErrFull", Rows.laid_belvedere_api_ErrFull), ("belvedere/api.ErrPending", Rows.laid_belvedere_api_ErrPending), ("belvedere/api.ErrNone", Rows.laid_belvedere_api_ErrNone), ("belvedere/api.ErrLimit", Rows.laid_belvedere_api_ErrLimit)] [.sentinel, .sentinel, .sentinel, .sentinel, .sentinel, .sentinel, .sentinel, .sentinel, .sentinel, .sentinel, .sentinel] true :=
  Program.laidByTextLater_by_one 242 8 257 (by kernel_rfl) (by kernel_rfl) (by kernel_rfl) (by kernel_rfl) (by kernel_rfl) (by kernel_rfl) (fun _ _ => by kernel_rfl)
theorem seatTie2 : Tryd.prog.laidByTextLater [("belvedere/api.ErrText", Rows.laid_belvedere_api_ErrText), ("belvedere/api.ErrType", Rows.laid_belvedere_api_ErrType), ("belvedere/api.ErrName", Rows.laid_belvedere_api_ErrName), ("belvedere/api.ErrTwice", Rows.laid_belvedere_api_ErrTwice), ("belvedere/api.ErrUse", Rows.laid_belvedere_api_ErrUse), ("belvedere/api.ErrArity", Rows.laid_belvedere_api_ErrArity), ("belvedere/api.ErrOver", Rows.laid_belvedere_api_ErrOver), ("belvedere/api.ErrFull", Rows.laid_belvedere_api_ErrFull), ("belvedere/api.ErrPending", Rows.laid_belvedere_api_ErrPending), ("belvedere/api.ErrNone", Rows.laid_belvedere_api_ErrNone), ("belvedere/api.ErrLimit", Rows.laid_belvedere_api_ErrLimit), ("unicode.White_Space", Rows.laid_unicode_White_Space), ("strings.asciiSpace", Rows.laid_strings_asciiSpace)] [.sentinel, .sentinel, .sentinel, .sentinel, .sentinel, .sentinel, .sentinel, .sentinel, .sentinel, .sentinel, .sentinel, .listed, .data] true :=
  Program.laidByTextLater_by_one 242 8 257 (by kernel_rfl) (by kernel_rfl) (by kernel_rfl) (by kernel_rfl) (by kernel_rfl) (by kernel_rfl) (fun _ _ => by kernel_rfl)
theorem seatTie3 : Tryd.prog.laidByTextLater [("belvedere/api.ErrText", Rows.laid_belvedere_api_ErrText), ("belvedere/api.ErrType", Rows.laid_belvedere_api_ErrType), ("belvedere/api.ErrName", Rows.laid_belvedere_api_ErrName), ("belvedere/api.ErrTwice", Rows.laid_belvedere_api_ErrTwice), ("belvedere/api.ErrArity", Rows.laid_belvedere_api_ErrArity), ("belvedere/api.ErrLimit", Rows.laid_belvedere_api_ErrLimit), ("unicode.White_Space", Rows.laid_unicode_White_Space), ("strings.asciiSpace", Rows.laid_strings_asciiSpace)] [.sentinel, .sentinel, .sentinel, .sentinel, .sentinel, .sentinel, .listed, .data] true :=
  Program.laidByTextLater_by_one 242 8 257 (by kernel_rfl) (by kernel_rfl) (by kernel_rfl) (by kernel_rfl) (by kernel_rfl) (by kernel_rfl) (fun _ _ => by kernel_rfl)
theorem noOwnUnsafe : Tryd.pinned.checked.prog.headLifts.contains "ownunsafe" = false := by kernel_rfl
theorem tie : Tryd.prog.laidByTextLater [("belvedere/api.ErrFull", Rows.laid_belvedere_api_ErrFull)] [.sentinel] true :=
  Program.laidByTextLater.sub seatTie1 ["belvedere/api.ErrFull"] (by kernel_rfl) (by kernel_rfl)
theorem quotaSteps_row_tie : Rows.quotaStepsRow.laidByTextAt .later Tryd.pinned [.sentinel] true :=
  OpenClaim.laidByTextAt_later rfl rfl tie noOwnUnsafe
theorem tie2 : Tryd.prog.laidByTextLater [("belvedere/api.ErrText", Rows.laid_belvedere_api_ErrText), ("belvedere/api.ErrType", Rows.laid_belvedere_api_ErrType), ("belvedere/api.ErrName", Rows.laid_belvedere_api_ErrName), ("belvedere/api.ErrTwice", Rows.laid_belvedere_api_ErrTwice), ("belvedere/api.ErrUse", Rows.laid_belvedere_api_ErrUse), ("belvedere/api.ErrArity", Rows.laid_belvedere_api_ErrArity), ("belvedere/api.ErrOver", Rows.laid_belvedere_api_ErrOver), ("belvedere/api.ErrFull", Rows.laid_belvedere_api_ErrFull), ("belvedere/api.ErrPending", Rows.laid_belvedere_api_ErrPending), ("belvedere/api.ErrNone", Rows.laid_belvedere_api_ErrNone), ("belvedere/api.ErrLimit", Rows.laid_belvedere_api_ErrLimit)] [.sentinel, .sentinel, .sentinel, .sentinel, .sentinel, .sentinel, .sentinel, .sentinel, .sentinel, .sentinel, .sentinel] true :=
  Program.laidByTextLater.sub seatTie1 ["belvedere/api.ErrText", "belvedere/api.ErrType", "belvedere/api.ErrName", "belvedere/api.ErrTwice", "belvedere/api.ErrUse", "belvedere/api.ErrArity", "belvedere/api.ErrOver", "belvedere/api.ErrFull", "belvedere/api.ErrPending", "belvedere/api.ErrNone", "belvedere/api.ErrLimit"] (by kernel_rfl) (by kernel_rfl)
theorem quotaPlays_row_tie : Rows.quotaPlaysRow.laidByTextAt .later Tryd.pinned [.sentinel, .sentinel, .sentinel, .sentinel, .sentinel, .sentinel, .sentinel, .sentinel, .sentinel, .sentinel, .sentinel] true :=
  OpenClaim.laidByTextAt_later rfl rfl tie2 noOwnUnsafe
theorem quotaWhole_row_tie : Rows.quotaWholeRow.laidByTextAt .later Tryd.pinned [.sentinel, .sentinel, .sentinel, .sentinel, .sentinel, .sentinel, .sentinel, .sentinel, .sentinel, .sentinel, .sentinel] true :=
  OpenClaim.laidByTextAt_later rfl rfl tie2 noOwnUnsafe
theorem predChecks_row_tie : Rows.predChecksRow.laidByTextAt .later Tryd.pinned [.sentinel, .sentinel, .sentinel, .sentinel, .sentinel, .sentinel, .sentinel, .sentinel, .sentinel, .sentinel, .sentinel] true :=
  OpenClaim.laidByTextAt_later rfl rfl tie2 noOwnUnsafe
theorem tie3 : Tryd.prog.laidByTextLater [("belvedere/api.ErrText", Rows.laid_belvedere_api_ErrText), ("belvedere/api.ErrType", Rows.laid_belvedere_api_ErrType), ("belvedere/api.ErrName", Rows.laid_belvedere_api_ErrName), ("belvedere/api.ErrTwice", Rows.laid_belvedere_api_ErrTwice), ("belvedere/api.ErrUse", Rows.laid_belvedere_api_ErrUse), ("belvedere/api.ErrArity", Rows.laid_belvedere_api_ErrArity), ("belvedere/api.ErrOver", Rows.laid_belvedere_api_ErrOver), ("belvedere/api.ErrFull", Rows.laid_belvedere_api_ErrFull), ("belvedere/api.ErrPending", Rows.laid_belvedere_api_ErrPending), ("belvedere/api.ErrNone", Rows.laid_belvedere_api_ErrNone), ("belvedere/api.ErrLimit", Rows.laid_belvedere_api_ErrLimit), ("unicode.White_Space", Rows.laid_unicode_White_Space), ("strings.asciiSpace", Rows.laid_strings_asciiSpace)] [.sentinel, .sentinel, .sentinel, .sentinel, .sentinel, .sentinel, .sentinel, .sentinel, .sentinel, .sentinel, .sentinel, .listed, .data] true :=
  Program.laidByTextLater.sub seatTie2 ["belvedere/api.ErrText", "belvedere/api.ErrType", "belvedere/api.ErrName", "belvedere/api.ErrTwice", "belvedere/api.ErrUse", "belvedere/api.ErrArity", "belvedere/api.ErrOver", "belvedere/api.ErrFull", "belvedere/api.ErrPending", "belvedere/api.ErrNone", "belvedere/api.ErrLimit", "unicode.White_Space", "strings.asciiSpace"] (by kernel_rfl) (by kernel_rfl)
theorem checkErrors_row_tie : Rows.checkErrorsRow.laidByTextAt .later Tryd.pinned [.sentinel, .sentinel, .sentinel, .sentinel, .sentinel, .sentinel, .sentinel, .sentinel, .sentinel, .sentinel, .sentinel, .listed, .data] true :=
  OpenClaim.laidByTextAt_later rfl rfl tie3 noOwnUnsafe
theorem catalogWrong_row_tie : Rows.catalogWrongRow.laidByTextAt .later Tryd.pinned [.sentinel, .sentinel, .sentinel, .sentinel, .sentinel, .sentinel, .sentinel, .sentinel, .sentinel, .sentinel, .sentinel, .listed, .data] true :=
  OpenClaim.laidByTextAt_later rfl rfl tie3 noOwnUnsafe
theorem catalogPlays_row_tie : Rows.catalogPlaysRow.laidByTextAt .later Tryd.pinned [.sentinel, .sentinel, .sentinel, .sentinel, .sentinel, .sentinel, .sentinel, .sentinel, .sentinel, .sentinel, .sentinel, .listed, .data] true :=
  OpenClaim.laidByTextAt_later rfl rfl tie3 noOwnUnsafe
theorem catalogMost_row_tie : Rows.catalogMostRow.laidByTextAt .later Tryd.pinned [.sentinel, .sentinel, .sentinel, .sentinel, .sentinel, .sentinel, .sentinel, .sentinel, .sentinel, .sentinel, .sentinel, .listed, .data] true :=
  OpenClaim.laidByTextAt_later rfl rfl tie3 noOwnUnsafe
theorem tie4 : Tryd.prog.laidByTextLater [("belvedere/api.ErrText", Rows.laid_belvedere_api_ErrText), ("belvedere/api.ErrType", Rows.laid_belvedere_api_ErrType), ("belvedere/api.ErrName", Rows.laid_belvedere_api_ErrName), ("belvedere/api.ErrTwice", Rows.laid_belvedere_api_ErrTwice), ("belvedere/api.ErrArity", Rows.laid_belvedere_api_ErrArity), ("belvedere/api.ErrLimit", Rows.laid_belvedere_api_ErrLimit), ("unicode.White_Space", Rows.laid_unicode_White_Space), ("strings.asciiSpace", Rows.laid_strings_asciiSpace)] [.sentinel, .sentinel, .sentinel, .sentinel, .sentinel, .sentinel, .listed, .data] true :=
  Program.laidByTextLater.sub seatTie3 ["belvedere/api.ErrText", "belvedere/api.ErrType", "belvedere/api.ErrName", "belvedere/api.ErrTwice", "belvedere/api.ErrArity", "belvedere/api.ErrLimit", "unicode.White_Space", "strings.asciiSpace"] (by kernel_rfl) (by kernel_rfl)
theorem catalogOrder_row_tie : Rows.catalogOrderRow.laidByTextAt .later Tryd.pinned [.sentinel, .sentinel, .sentinel, .sentinel, .sentinel, .sentinel, .listed, .data] true :=
  OpenClaim.laidByTextAt_later rfl rfl tie4 noOwnUnsafe
theorem quotaStepsUpto_row_tie : Rows.quotaStepsUptoRow.laidByTextAt .later Tryd.pinned [.sentinel] true :=
  OpenClaim.laidByTextAt_later rfl rfl tie noOwnUnsafe
theorem quotaPlaysUpto_row_tie : Rows.quotaPlaysUptoRow.laidByTextAt .later Tryd.pinned [.sentinel, .sentinel, .sentinel, .sentinel, .sentinel, .sentinel, .sentinel, .sentinel, .sentinel, .sentinel, .sentinel] true :=
  OpenClaim.laidByTextAt_later rfl rfl tie2 noOwnUnsafe
theorem quotaWholeUpto_row_tie : Rows.quotaWholeUptoRow.laidByTextAt .later Tryd.pinned [.sentinel, .sentinel, .sentinel, .sentinel, .sentinel, .sentinel, .sentinel, .sentinel, .sentinel, .sentinel, .sentinel] true :=
  OpenClaim.laidByTextAt_later rfl rfl tie2 noOwnUnsafe
theorem predChecksUpto_row_tie : Rows.predChecksUptoRow.laidByTextAt .later Tryd.pinned [.sentinel, .sentinel, .sentinel, .sentinel, .sentinel, .sentinel, .sentinel, .sentinel, .sentinel, .sentinel, .sentinel] true :=
  OpenClaim.laidByTextAt_later rfl rfl tie2 noOwnUnsafe
theorem checkErrorsUpto_row_tie : Rows.checkErrorsUptoRow.laidByTextAt .later Tryd.pinned [.sentinel, .sentinel, .sentinel, .sentinel, .sentinel, .sentinel, .sentinel, .sentinel, .sentinel, .sentinel, .sentinel, .listed, .data] true :=
  OpenClaim.laidByTextAt_later rfl rfl tie3 noOwnUnsafe
theorem catalogWrongUpto_row_tie : Rows.catalogWrongUptoRow.laidByTextAt .later Tryd.pinned [.sentinel, .sentinel, .sentinel, .sentinel, .sentinel, .sentinel, .sentinel, .sentinel, .sentinel, .sentinel, .sentinel, .listed, .data] true :=
  OpenClaim.laidByTextAt_later rfl rfl tie3 noOwnUnsafe
theorem catalogOrderUpto_row_tie : Rows.catalogOrderUptoRow.laidByTextAt .later Tryd.pinned [.sentinel, .sentinel, .sentinel, .sentinel, .sentinel, .sentinel, .listed, .data] true :=
  OpenClaim.laidByTextAt_later rfl rfl tie4 noOwnUnsafe
theorem catalogPlaysUpto_row_tie : Rows.catalogPlaysUptoRow.laidByTextAt .later Tryd.pinned [.sentinel, .sentinel, .sentinel, .sentinel, .sentinel, .sentinel, .sentinel, .sentinel, .sentinel, .sentinel, .sentinel, .listed, .data] true :=
  OpenClaim.laidByTextAt_later rfl rfl tie3 noOwnUnsafe
theorem catalogMostUpto_row_tie : Rows.catalogMostUptoRow.laidByTextAt .later Tryd.pinned [.sentinel, .sentinel, .sentinel, .sentinel, .sentinel, .sentinel, .sentinel, .sentinel, .sentinel, .sentinel, .sentinel, .listed, .data] true :=
  OpenClaim.laidByTextAt_later rfl rfl tie3 noOwnUnsafe
end Go.Proofs.YtepnpbhfopcjlaaDoor
