/-
  DERIVED. GIVEN WITH THE SEED: THE PROGRAM's TIES (one call each: nine closed facts by the kernel) AND EACH ROW's TIE, after the 31st guide's Derived/Test/Toyas{Tie, Card}.lean. No idea stands in it: it is a product of the set-up. Laid BY PROGRAM, IN A SANDBOX (cutbox-door.mjs). By AI agents, Wed Nov 11 2026. No macro, syntax, notation, axiom, sorry.
-/
import Derived.Test.YtjcipbdocbomjaaGreatDoorRows
import Derived.LaidByTextLater
import Derived.SevenTiedAt
import Derived.LaidSub
import Derived.LaidOnce
namespace Go.Proofs.YtjcipbdocbomjaaGreatDoor
open Go
set_option maxRecDepth 100000
theorem seatTie1 : Tryz.prog.laidByTextLater [("unicode.White_Space", Rows.laid_unicode_White_Space), ("strings.asciiSpace", Rows.laid_strings_asciiSpace), ("lunette/rule.words", Rows.laid_lunette_rule_words)] [.listed, .data, .widerDeep] true :=
  Program.laidByTextLater_by_one 38 8 257 (by kernel_rfl) (by kernel_rfl) (by kernel_rfl) (by kernel_rfl) (by kernel_rfl) (by kernel_rfl) (fun _ _ => by kernel_rfl)
theorem noOwnUnsafe : Tryz.pinned.checked.prog.headLifts.contains "ownunsafe" = false := by kernel_rfl
theorem tie : Tryz.prog.laidByTextLater [("unicode.White_Space", Rows.laid_unicode_White_Space), ("strings.asciiSpace", Rows.laid_strings_asciiSpace), ("lunette/rule.words", Rows.laid_lunette_rule_words)] [.listed, .data, .widerDeep] true :=
  Program.laidByTextLater.sub seatTie1 ["unicode.White_Space", "strings.asciiSpace", "lunette/rule.words"] (by kernel_rfl) (by kernel_rfl)
theorem ruleLines_row_tie : Rows.ruleLinesRow.laidByTextAt .later Tryz.pinned [.listed, .data, .widerDeep] true :=
  OpenClaim.laidByTextAt_later rfl rfl tie noOwnUnsafe
theorem ruleParts_row_tie : Rows.rulePartsRow.laidByTextAt .later Tryz.pinned [.listed, .data, .widerDeep] true :=
  OpenClaim.laidByTextAt_later rfl rfl tie noOwnUnsafe
theorem ruleReads_row_tie : Rows.ruleReadsRow.laidByTextAt .later Tryz.pinned [.listed, .data, .widerDeep] true :=
  OpenClaim.laidByTextAt_later rfl rfl tie noOwnUnsafe
theorem ruleLine_row_tie : Rows.ruleLineRow.laidByTextAt .later Tryz.pinned [.listed, .data, .widerDeep] true :=
  OpenClaim.laidByTextAt_later rfl rfl tie noOwnUnsafe
theorem ruleFinds_row_tie : Rows.ruleFindsRow.laidByTextAt .later Tryz.pinned [.listed, .data, .widerDeep] true :=
  OpenClaim.laidByTextAt_later rfl rfl tie noOwnUnsafe
theorem ruleTurned_row_tie : Rows.ruleTurnedRow.laidByTextAt .later Tryz.pinned [.listed, .data, .widerDeep] true :=
  OpenClaim.laidByTextAt_later rfl rfl tie noOwnUnsafe
theorem ruleLinesUpto_row_tie : Rows.ruleLinesUptoRow.laidByTextAt .later Tryz.pinned [.listed, .data, .widerDeep] true :=
  OpenClaim.laidByTextAt_later rfl rfl tie noOwnUnsafe
theorem rulePartsUpto_row_tie : Rows.rulePartsUptoRow.laidByTextAt .later Tryz.pinned [.listed, .data, .widerDeep] true :=
  OpenClaim.laidByTextAt_later rfl rfl tie noOwnUnsafe
theorem ruleReadsUpto_row_tie : Rows.ruleReadsUptoRow.laidByTextAt .later Tryz.pinned [.listed, .data, .widerDeep] true :=
  OpenClaim.laidByTextAt_later rfl rfl tie noOwnUnsafe
theorem ruleLineUpto_row_tie : Rows.ruleLineUptoRow.laidByTextAt .later Tryz.pinned [.listed, .data, .widerDeep] true :=
  OpenClaim.laidByTextAt_later rfl rfl tie noOwnUnsafe
theorem ruleFindsUpto_row_tie : Rows.ruleFindsUptoRow.laidByTextAt .later Tryz.pinned [.listed, .data, .widerDeep] true :=
  OpenClaim.laidByTextAt_later rfl rfl tie noOwnUnsafe
theorem ruleTurnedUpto_row_tie : Rows.ruleTurnedUptoRow.laidByTextAt .later Tryz.pinned [.listed, .data, .widerDeep] true :=
  OpenClaim.laidByTextAt_later rfl rfl tie noOwnUnsafe
end Go.Proofs.YtjcipbdocbomjaaGreatDoor
