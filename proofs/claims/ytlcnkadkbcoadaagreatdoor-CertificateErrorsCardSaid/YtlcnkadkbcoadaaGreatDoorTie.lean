/-
  DERIVED. GIVEN WITH THE SEED: THE PROGRAM's TIES (one call each: nine closed facts by the kernel) AND EACH ROW's TIE, after the 31st guide's Derived/Test/Toyas{Tie, Card}.lean. No idea stands in it: it is a product of the set-up. Laid BY PROGRAM, IN A SANDBOX (cutbox-door.mjs). By AI agents, Wed Nov 11 2026. No macro, syntax, notation, axiom, sorry.
-/
import Derived.Test.YtlcnkadkbcoadaaGreatDoorRows
import Derived.LaidByTextLater
import Derived.SevenTiedAt
import Derived.LaidSub
import Derived.LaidOnce
namespace Go.Proofs.YtlcnkadkbcoadaaGreatDoor
open Go
set_option maxRecDepth 100000
theorem seatTie1 : Tryz.prog.laidByTextLater [("math/bits.deBruijn32tab", Rows.laid_math_bits_deBruijn32tab), ("math/bits.deBruijn64tab", Rows.laid_math_bits_deBruijn64tab), ("internal/strconv.uint64pow10", Rows.laid_internal_strconv_uint64pow10), ("strconv.ErrRange", Rows.laid_strconv_ErrRange), ("strconv.ErrSyntax", Rows.laid_strconv_ErrSyntax), ("attestor/mle.one", Rows.laid_attestor_mle_one), ("attestor/sha256.constants", Rows.laid_attestor_sha256_constants), ("attestor/sha256.initial", Rows.laid_attestor_sha256_initial), ("attestor/commit.mixed", Rows.laid_attestor_commit_mixed), ("attestor/typecheck.widths", Rows.laid_attestor_typecheck_widths)] [.data, .data, .data, .sentinel, .sentinel, .data, .data, .data, .funcs, .mapped] true :=
  Program.laidByTextLater_by_one 112 8 65 (by kernel_rfl) (by kernel_rfl) (by kernel_rfl) (by kernel_rfl) (by kernel_rfl) (by kernel_rfl) (fun _ _ => by kernel_rfl)
theorem noOwnUnsafe : Tryz.pinned.checked.prog.headLifts.contains "ownunsafe" = false := by kernel_rfl
theorem tie : Tryz.prog.laidByTextLater [("math/bits.deBruijn32tab", Rows.laid_math_bits_deBruijn32tab), ("math/bits.deBruijn64tab", Rows.laid_math_bits_deBruijn64tab), ("internal/strconv.uint64pow10", Rows.laid_internal_strconv_uint64pow10), ("strconv.ErrRange", Rows.laid_strconv_ErrRange), ("strconv.ErrSyntax", Rows.laid_strconv_ErrSyntax), ("attestor/mle.one", Rows.laid_attestor_mle_one), ("attestor/sha256.constants", Rows.laid_attestor_sha256_constants), ("attestor/sha256.initial", Rows.laid_attestor_sha256_initial), ("attestor/commit.mixed", Rows.laid_attestor_commit_mixed), ("attestor/typecheck.widths", Rows.laid_attestor_typecheck_widths)] [.data, .data, .data, .sentinel, .sentinel, .data, .data, .data, .funcs, .mapped] true :=
  Program.laidByTextLater.sub seatTie1 ["math/bits.deBruijn32tab", "math/bits.deBruijn64tab", "internal/strconv.uint64pow10", "strconv.ErrRange", "strconv.ErrSyntax", "attestor/mle.one", "attestor/sha256.constants", "attestor/sha256.initial", "attestor/commit.mixed", "attestor/typecheck.widths"] (by kernel_rfl) (by kernel_rfl)
theorem certificateErrors_row_tie : Rows.certificateErrorsRow.laidByTextAt .later Tryz.pinned [.data, .data, .data, .sentinel, .sentinel, .data, .data, .data, .funcs, .mapped] true :=
  OpenClaim.laidByTextAt_later rfl rfl tie noOwnUnsafe
theorem certificateErrorsUpto_row_tie : Rows.certificateErrorsUptoRow.laidByTextAt .later Tryz.pinned [.data, .data, .data, .sentinel, .sentinel, .data, .data, .data, .funcs, .mapped] true :=
  OpenClaim.laidByTextAt_later rfl rfl tie noOwnUnsafe
end Go.Proofs.YtlcnkadkbcoadaaGreatDoor
