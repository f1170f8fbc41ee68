/-
  DERIVED. GIVEN WITH THE SEED: THE PROGRAM's TIES (one call each: nine closed facts by the kernel) AND EACH ROW's TIE, after the 31st guide's Derived/Test/Toyas{Tie, Card}.lean. No idea stands in it: it is a product of the set-up. Laid BY PROGRAM, IN A SANDBOX (cutbox-door.mjs). By AI agents, Wed Nov 11 2026. No macro, syntax, notation, axiom, sorry.
-/
import Derived.Test.YtddkmmfmmamipaaGreatDoorRows
import Derived.LaidByTextLater
import Derived.SevenTiedAt
import Derived.LaidSub
import Derived.LaidOnce
namespace Go.Proofs.YtddkmmfmmamipaaGreatDoor
open Go
set_option maxRecDepth 100000
theorem seatTie1 : Tryz.prog.laidByTextLater [("math/bits.deBruijn32tab", Rows.laid_math_bits_deBruijn32tab), ("math/bits.deBruijn64tab", Rows.laid_math_bits_deBruijn64tab), ("internal/strconv.uint64pow10", Rows.laid_internal_strconv_uint64pow10), ("strconv.ErrRange", Rows.laid_strconv_ErrRange), ("strconv.ErrSyntax", Rows.laid_strconv_ErrSyntax), ("interleave/scan.operators", Rows.laid_interleave_scan_operators), ("interleave/types.texts", Rows.laid_interleave_types_texts), ("interleave/check.tInt", Rows.laid_interleave_check_tInt), ("interleave/check.tBool", Rows.laid_interleave_check_tBool), ("interleave/check.tNil", Rows.laid_interleave_check_tNil), ("interleave/check.tSlice", Rows.laid_interleave_check_tSlice), ("interleave/check.tChan", Rows.laid_interleave_check_tChan), ("interleave/check.tFunc", Rows.laid_interleave_check_tFunc)] [.data, .data, .data, .sentinel, .sentinel, .data, .data, .data, .data, .data, .data, .data, .data] true :=
  Program.laidByTextLater_by_one 102 8 65 (by kernel_rfl) (by kernel_rfl) (by kernel_rfl) (by kernel_rfl) (by kernel_rfl) (by kernel_rfl) (fun _ _ => by kernel_rfl)
theorem noOwnUnsafe : Tryz.pinned.checked.prog.headLifts.contains "ownunsafe" = false := by kernel_rfl
theorem tie : Tryz.prog.laidByTextLater [("math/bits.deBruijn32tab", Rows.laid_math_bits_deBruijn32tab), ("math/bits.deBruijn64tab", Rows.laid_math_bits_deBruijn64tab), ("internal/strconv.uint64pow10", Rows.laid_internal_strconv_uint64pow10), ("strconv.ErrRange", Rows.laid_strconv_ErrRange), ("strconv.ErrSyntax", Rows.laid_strconv_ErrSyntax), ("interleave/scan.operators", Rows.laid_interleave_scan_operators), ("interleave/types.texts", Rows.laid_interleave_types_texts), ("interleave/check.tInt", Rows.laid_interleave_check_tInt), ("interleave/check.tBool", Rows.laid_interleave_check_tBool), ("interleave/check.tNil", Rows.laid_interleave_check_tNil), ("interleave/check.tSlice", Rows.laid_interleave_check_tSlice), ("interleave/check.tChan", Rows.laid_interleave_check_tChan), ("interleave/check.tFunc", Rows.laid_interleave_check_tFunc)] [.data, .data, .data, .sentinel, .sentinel, .data, .data, .data, .data, .data, .data, .data, .data] true :=
  Program.laidByTextLater.sub seatTie1 ["math/bits.deBruijn32tab", "math/bits.deBruijn64tab", "internal/strconv.uint64pow10", "strconv.ErrRange", "strconv.ErrSyntax", "interleave/scan.operators", "interleave/types.texts", "interleave/check.tInt", "interleave/check.tBool", "interleave/check.tNil", "interleave/check.tSlice", "interleave/check.tChan", "interleave/check.tFunc"] (by kernel_rfl) (by kernel_rfl)
theorem minimizeShrinkMatchesReference_row_tie : Rows.minimizeShrinkMatchesReferenceRow.laidByTextAt .later Tryz.pinned [.data, .data, .data, .sentinel, .sentinel, .data, .data, .data, .data, .data, .data, .data, .data] true :=
  OpenClaim.laidByTextAt_later rfl rfl tie noOwnUnsafe
theorem minimizeShrinkIsMinimal_row_tie : Rows.minimizeShrinkIsMinimalRow.laidByTextAt .later Tryz.pinned [.data, .data, .data, .sentinel, .sentinel, .data, .data, .data, .data, .data, .data, .data, .data] true :=
  OpenClaim.laidByTextAt_later rfl rfl tie noOwnUnsafe
theorem minimizeCutsMatchReference_row_tie : Rows.minimizeCutsMatchReferenceRow.laidByTextAt .later Tryz.pinned [.data, .data, .data, .sentinel, .sentinel, .data, .data, .data, .data, .data, .data, .data, .data] true :=
  OpenClaim.laidByTextAt_later rfl rfl tie noOwnUnsafe
theorem minimizeCutsAreSmaller_row_tie : Rows.minimizeCutsAreSmallerRow.laidByTextAt .later Tryz.pinned [.data, .data, .data, .sentinel, .sentinel, .data, .data, .data, .data, .data, .data, .data, .data] true :=
  OpenClaim.laidByTextAt_later rfl rfl tie noOwnUnsafe
theorem minimizeShrinkMatchesReferenceUpto_row_tie : Rows.minimizeShrinkMatchesReferenceUptoRow.laidByTextAt .later Tryz.pinned [.data, .data, .data, .sentinel, .sentinel, .data, .data, .data, .data, .data, .data, .data, .data] true :=
  OpenClaim.laidByTextAt_later rfl rfl tie noOwnUnsafe
theorem minimizeShrinkIsMinimalUpto_row_tie : Rows.minimizeShrinkIsMinimalUptoRow.laidByTextAt .later Tryz.pinned [.data, .data, .data, .sentinel, .sentinel, .data, .data, .data, .data, .data, .data, .data, .data] true :=
  OpenClaim.laidByTextAt_later rfl rfl tie noOwnUnsafe
theorem minimizeCutsMatchReferenceUpto_row_tie : Rows.minimizeCutsMatchReferenceUptoRow.laidByTextAt .later Tryz.pinned [.data, .data, .data, .sentinel, .sentinel, .data, .data, .data, .data, .data, .data, .data, .data] true :=
  OpenClaim.laidByTextAt_later rfl rfl tie noOwnUnsafe
theorem minimizeCutsAreSmallerUpto_row_tie : Rows.minimizeCutsAreSmallerUptoRow.laidByTextAt .later Tryz.pinned [.data, .data, .data, .sentinel, .sentinel, .data, .data, .data, .data, .data, .data, .data, .data] true :=
  OpenClaim.laidByTextAt_later rfl rfl tie noOwnUnsafe
end Go.Proofs.YtddkmmfmmamipaaGreatDoor
