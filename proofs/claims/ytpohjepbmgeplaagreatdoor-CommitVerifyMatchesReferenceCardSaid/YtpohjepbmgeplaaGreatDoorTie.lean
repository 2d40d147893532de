/-
  DERIVED. GIVEN WITH THE SEED: THE PROGRAM's TIES (one call each: nine closed facts by the kernel) AND EACH ROW's TIE, after the 31st guide's Derived/Test/Toyas{Tie, Card}.lean. No idea stands in it: it is a product of the set-up. Laid BY PROGRAM, IN A SANDBOX (cutbox-door.mjs). By AI agents, Wed Nov 11 2026. No macro, syntax, notation, axiom, sorry.
-/
import Derived.Test.YtpohjepbmgeplaaGreatDoorRows
import Derived.LaidByTextLater
import Derived.SevenTiedAt
import Derived.LaidSub
import Derived.LaidOnce
namespace Go.Proofs.YtpohjepbmgeplaaGreatDoor
open Go
set_option maxRecDepth 100000
theorem seatTie1 : Tryz.prog.laidByTextLater [("math/bits.deBruijn32tab", Rows.laid_math_bits_deBruijn32tab), ("math/bits.deBruijn64tab", Rows.laid_math_bits_deBruijn64tab), ("attestor/mle.one", Rows.laid_attestor_mle_one), ("attestor/sha256.constants", Rows.laid_attestor_sha256_constants), ("attestor/sha256.initial", Rows.laid_attestor_sha256_initial), ("attestor/commit.mixed", Rows.laid_attestor_commit_mixed)] [.data, .data, .data, .data, .data, .funcs] true :=
  Program.laidByTextLater_by_one 39 8 65 (by kernel_rfl) (by kernel_rfl) (by kernel_rfl) (by kernel_rfl) (by kernel_rfl) (by kernel_rfl) (fun _ _ => by kernel_rfl)
theorem noOwnUnsafe : Tryz.pinned.checked.prog.headLifts.contains "ownunsafe" = false := by kernel_rfl
theorem tie : Tryz.prog.laidByTextLater [("math/bits.deBruijn32tab", Rows.laid_math_bits_deBruijn32tab), ("math/bits.deBruijn64tab", Rows.laid_math_bits_deBruijn64tab), ("attestor/mle.one", Rows.laid_attestor_mle_one), ("attestor/sha256.constants", Rows.laid_attestor_sha256_constants), ("attestor/sha256.initial", Rows.laid_attestor_sha256_initial), ("attestor/commit.mixed", Rows.laid_attestor_commit_mixed)] [.data, .data, .data, .data, .data, .funcs] true :=
  Program.laidByTextLater.sub seatTie1 ["math/bits.deBruijn32tab", "math/bits.deBruijn64tab", "attestor/mle.one", "attestor/sha256.constants", "attestor/sha256.initial", "attestor/commit.mixed"] (by kernel_rfl) (by kernel_rfl)
theorem commitMatchesReference_row_tie : Rows.commitMatchesReferenceRow.laidByTextAt .later Tryz.pinned [.data, .data, .data, .data, .data, .funcs] true :=
  OpenClaim.laidByTextAt_later rfl rfl tie noOwnUnsafe
theorem commitVerifyMatchesReference_row_tie : Rows.commitVerifyMatchesReferenceRow.laidByTextAt .later Tryz.pinned [.data, .data, .data, .data, .data, .funcs] true :=
  OpenClaim.laidByTextAt_later rfl rfl tie noOwnUnsafe
theorem commitDistance_row_tie : Rows.commitDistanceRow.laidByTextAt .later Tryz.pinned [.data, .data, .data, .data, .data, .funcs] true :=
  OpenClaim.laidByTextAt_later rfl rfl tie noOwnUnsafe
theorem commitLinear_row_tie : Rows.commitLinearRow.laidByTextAt .later Tryz.pinned [.data, .data, .data, .data, .data, .funcs] true :=
  OpenClaim.laidByTextAt_later rfl rfl tie noOwnUnsafe
theorem commitShapes_row_tie : Rows.commitShapesRow.laidByTextAt .later Tryz.pinned [.data, .data, .data, .data, .data, .funcs] true :=
  OpenClaim.laidByTextAt_later rfl rfl tie noOwnUnsafe
theorem commitValue_row_tie : Rows.commitValueRow.laidByTextAt .later Tryz.pinned [.data, .data, .data, .data, .data, .funcs] true :=
  OpenClaim.laidByTextAt_later rfl rfl tie noOwnUnsafe
theorem commitComplete_row_tie : Rows.commitCompleteRow.laidByTextAt .later Tryz.pinned [.data, .data, .data, .data, .data, .funcs] true :=
  OpenClaim.laidByTextAt_later rfl rfl tie noOwnUnsafe
theorem commitMatchesReferenceUpto_row_tie : Rows.commitMatchesReferenceUptoRow.laidByTextAt .later Tryz.pinned [.data, .data, .data, .data, .data, .funcs] true :=
  OpenClaim.laidByTextAt_later rfl rfl tie noOwnUnsafe
theorem commitVerifyMatchesReferenceUpto_row_tie : Rows.commitVerifyMatchesReferenceUptoRow.laidByTextAt .later Tryz.pinned [.data, .data, .data, .data, .data, .funcs] true :=
  OpenClaim.laidByTextAt_later rfl rfl tie noOwnUnsafe
theorem commitDistanceUpto_row_tie : Rows.commitDistanceUptoRow.laidByTextAt .later Tryz.pinned [.data, .data, .data, .data, .data, .funcs] true :=
  OpenClaim.laidByTextAt_later rfl rfl tie noOwnUnsafe
theorem commitLinearUpto_row_tie : Rows.commitLinearUptoRow.laidByTextAt .later Tryz.pinned [.data, .data, .data, .data, .data, .funcs] true :=
  OpenClaim.laidByTextAt_later rfl rfl tie noOwnUnsafe
theorem commitShapesUpto_row_tie : Rows.commitShapesUptoRow.laidByTextAt .later Tryz.pinned [.data, .data, .data, .data, .data, .funcs] true :=
  OpenClaim.laidByTextAt_later rfl rfl tie noOwnUnsafe
theorem commitValueUpto_row_tie : Rows.commitValueUptoRow.laidByTextAt .later Tryz.pinned [.data, .data, .data, .data, .data, .funcs] true :=
  OpenClaim.laidByTextAt_later rfl rfl tie noOwnUnsafe
theorem commitCompleteUpto_row_tie : Rows.commitCompleteUptoRow.laidByTextAt .later Tryz.pinned [.data, .data, .data, .data, .data, .funcs] true :=
  OpenClaim.laidByTextAt_later rfl rfl tie noOwnUnsafe
end Go.Proofs.YtpohjepbmgeplaaGreatDoor
