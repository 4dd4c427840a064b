/-
  DERIVED. GIVEN WITH THE SEED: THE PROGRAM's TIES (one call each: nine closed facts by the kernel) AND EACH ROW's TIE, after the 31st guide's Derived/Test/Toyas{Tie, Card}.lean. No idea stands in it: it is a product of the set-up. Laid BY PROGRAM, IN A SANDBOX (cutbox-door.mjs). By AI agents, Wed Nov 11 2026. No macro, syntax, notation, axiom, sorry.
-/
import Derived.Test.YtepkaagbjfnpbaaDoorRows
import Derived.LaidByTextLater
import Derived.SevenTiedAt
import Derived.LaidSub
import Derived.LaidOnce
namespace Go.Proofs.YtepkaagbjfnpbaaDoor
open Go
set_option maxRecDepth 100000
theorem seatTie1 : Tryd.prog.laidByTextLater [("cosmac/decode.rules", Rows.laid_cosmac_decode_rules), ("cosmac/decode.later", Rows.laid_cosmac_decode_later)] [.funcs, .funcs] true :=
  Program.laidByTextLater_by_one 70 8 2 (by kernel_rfl) (by kernel_rfl) (by kernel_rfl) (by kernel_rfl) (by kernel_rfl) (by kernel_rfl) (fun _ _ => by kernel_rfl)
theorem noOwnUnsafe : Tryd.pinned.checked.prog.headLifts.contains "ownunsafe" = false := by kernel_rfl
theorem tie : Tryd.prog.laidByTextLater [("cosmac/decode.rules", Rows.laid_cosmac_decode_rules), ("cosmac/decode.later", Rows.laid_cosmac_decode_later)] [.funcs, .funcs] true :=
  Program.laidByTextLater.sub seatTie1 ["cosmac/decode.rules", "cosmac/decode.later"] (by kernel_rfl) (by kernel_rfl)
theorem decodeMatchesReference_row_tie : Rows.decodeMatchesReferenceRow.laidByTextAt .later Tryd.pinned [.funcs, .funcs] true :=
  OpenClaim.laidByTextAt_later rfl rfl tie noOwnUnsafe
theorem decodeTotal_row_tie : Rows.decodeTotalRow.laidByTextAt .later Tryd.pinned [.funcs, .funcs] true :=
  OpenClaim.laidByTextAt_later rfl rfl tie noOwnUnsafe
theorem decodeShort_row_tie : Rows.decodeShortRow.laidByTextAt .later Tryd.pinned [.funcs, .funcs] true :=
  OpenClaim.laidByTextAt_later rfl rfl tie noOwnUnsafe
theorem decodeOthers_row_tie : Rows.decodeOthersRow.laidByTextAt .later Tryd.pinned [.funcs, .funcs] true :=
  OpenClaim.laidByTextAt_later rfl rfl tie noOwnUnsafe
theorem decodeFields_row_tie : Rows.decodeFieldsRow.laidByTextAt .later Tryd.pinned [.funcs, .funcs] true :=
  OpenClaim.laidByTextAt_later rfl rfl tie noOwnUnsafe
theorem decodeMatchesReferenceUpto_row_tie : Rows.decodeMatchesReferenceUptoRow.laidByTextAt .later Tryd.pinned [.funcs, .funcs] true :=
  OpenClaim.laidByTextAt_later rfl rfl tie noOwnUnsafe
theorem decodeTotalUpto_row_tie : Rows.decodeTotalUptoRow.laidByTextAt .later Tryd.pinned [.funcs, .funcs] true :=
  OpenClaim.laidByTextAt_later rfl rfl tie noOwnUnsafe
theorem decodeShortUpto_row_tie : Rows.decodeShortUptoRow.laidByTextAt .later Tryd.pinned [.funcs, .funcs] true :=
  OpenClaim.laidByTextAt_later rfl rfl tie noOwnUnsafe
theorem decodeOthersUpto_row_tie : Rows.decodeOthersUptoRow.laidByTextAt .later Tryd.pinned [.funcs, .funcs] true :=
  OpenClaim.laidByTextAt_later rfl rfl tie noOwnUnsafe
theorem decodeFieldsUpto_row_tie : Rows.decodeFieldsUptoRow.laidByTextAt .later Tryd.pinned [.funcs, .funcs] true :=
  OpenClaim.laidByTextAt_later rfl rfl tie noOwnUnsafe
end Go.Proofs.YtepkaagbjfnpbaaDoor
