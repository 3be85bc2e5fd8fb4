/-
  DERIVED. GIVEN WITH THE SEED: THE PROGRAM's TIES (one call each: nine closed facts by the kernel) AND EACH ROW's TIE, after the 31st guide's Derived/Test/Toyas{Tie, Card}.lean. No idea stands in it: it is a product of the set-up. Laid BY PROGRAM, IN A SANDBOX (cutbox-door.mjs). By AI agents, Wed Nov 11 2026. No macro, syntax, notation, axiom, sorry.
-/
import Derived.Test.YtaebdeidbibfkaaGreatDoorRows
import Derived.LaidByTextLater
import Derived.SevenTiedAt
import Derived.LaidSub
import Derived.LaidOnce
namespace Go.Proofs.YtaebdeidbibfkaaGreatDoor
open Go
set_option maxRecDepth 100000
theorem seatTie1 : Tryz.prog.laidByTextLater [("math/bits.deBruijn32tab", Rows.laid_math_bits_deBruijn32tab), ("math/bits.deBruijn64tab", Rows.laid_math_bits_deBruijn64tab), ("internal/strconv.uint64pow10", Rows.laid_internal_strconv_uint64pow10), ("busbar/tree.signs", Rows.laid_busbar_tree_signs), ("busbar/codegen.loads", Rows.laid_busbar_codegen_loads), ("busbar/codegen.joins", Rows.laid_busbar_codegen_joins), ("busbar/codegen.pops", Rows.laid_busbar_codegen_pops), ("busbar/codegen.writes", Rows.laid_busbar_codegen_writes)] [.data, .data, .data, .data, .data, .data, .data, .data] true :=
  Program.laidByTextLater_by_one 53 8 65 (by kernel_rfl) (by kernel_rfl) (by kernel_rfl) (by kernel_rfl) (by kernel_rfl) (by kernel_rfl) (fun _ _ => by kernel_rfl)
theorem noOwnUnsafe : Tryz.pinned.checked.prog.headLifts.contains "ownunsafe" = false := by kernel_rfl
theorem tie : Tryz.prog.laidByTextLater [("math/bits.deBruijn32tab", Rows.laid_math_bits_deBruijn32tab), ("math/bits.deBruijn64tab", Rows.laid_math_bits_deBruijn64tab), ("internal/strconv.uint64pow10", Rows.laid_internal_strconv_uint64pow10), ("busbar/tree.signs", Rows.laid_busbar_tree_signs)] [.data, .data, .data, .data] true :=
  Program.laidByTextLater.sub seatTie1 ["math/bits.deBruijn32tab", "math/bits.deBruijn64tab", "internal/strconv.uint64pow10", "busbar/tree.signs"] (by kernel_rfl) (by kernel_rfl)
theorem reduceMatchesReference_row_tie : Rows.reduceMatchesReferenceRow.laidByTextAt .later Tryz.pinned [.data, .data, .data, .data] true :=
  OpenClaim.laidByTextAt_later rfl rfl tie noOwnUnsafe
theorem reduceExpandMatchesReference_row_tie : Rows.reduceExpandMatchesReferenceRow.laidByTextAt .later Tryz.pinned [.data, .data, .data, .data] true :=
  OpenClaim.laidByTextAt_later rfl rfl tie noOwnUnsafe
theorem reduceInvertsExpand_row_tie : Rows.reduceInvertsExpandRow.laidByTextAt .later Tryz.pinned [.data, .data, .data, .data] true :=
  OpenClaim.laidByTextAt_later rfl rfl tie noOwnUnsafe
theorem tie2 : Tryz.prog.laidByTextLater [("busbar/codegen.loads", Rows.laid_busbar_codegen_loads), ("busbar/codegen.joins", Rows.laid_busbar_codegen_joins), ("busbar/codegen.pops", Rows.laid_busbar_codegen_pops), ("busbar/codegen.writes", Rows.laid_busbar_codegen_writes)] [.data, .data, .data, .data] true :=
  Program.laidByTextLater.sub seatTie1 ["busbar/codegen.loads", "busbar/codegen.joins", "busbar/codegen.pops", "busbar/codegen.writes"] (by kernel_rfl) (by kernel_rfl)
theorem codegenTreeMatchesReference_row_tie : Rows.codegenTreeMatchesReferenceRow.laidByTextAt .later Tryz.pinned [.data, .data, .data, .data] true :=
  OpenClaim.laidByTextAt_later rfl rfl tie2 noOwnUnsafe
theorem codegenLadderMatchesReference_row_tie : Rows.codegenLadderMatchesReferenceRow.laidByTextAt .later Tryz.pinned [.data, .data, .data, .data] true :=
  OpenClaim.laidByTextAt_later rfl rfl tie2 noOwnUnsafe
theorem reduceMatchesReferenceUpto_row_tie : Rows.reduceMatchesReferenceUptoRow.laidByTextAt .later Tryz.pinned [.data, .data, .data, .data] true :=
  OpenClaim.laidByTextAt_later rfl rfl tie noOwnUnsafe
theorem codegenTreeMatchesReferenceUpto_row_tie : Rows.codegenTreeMatchesReferenceUptoRow.laidByTextAt .later Tryz.pinned [.data, .data, .data, .data] true :=
  OpenClaim.laidByTextAt_later rfl rfl tie2 noOwnUnsafe
theorem codegenLadderMatchesReferenceUpto_row_tie : Rows.codegenLadderMatchesReferenceUptoRow.laidByTextAt .later Tryz.pinned [.data, .data, .data, .data] true :=
  OpenClaim.laidByTextAt_later rfl rfl tie2 noOwnUnsafe
theorem reduceExpandMatchesReferenceUpto_row_tie : Rows.reduceExpandMatchesReferenceUptoRow.laidByTextAt .later Tryz.pinned [.data, .data, .data, .data] true :=
  OpenClaim.laidByTextAt_later rfl rfl tie noOwnUnsafe
theorem reduceInvertsExpandUpto_row_tie : Rows.reduceInvertsExpandUptoRow.laidByTextAt .later Tryz.pinned [.data, .data, .data, .data] true :=
  OpenClaim.laidByTextAt_later rfl rfl tie noOwnUnsafe
end Go.Proofs.YtaebdeidbibfkaaGreatDoor
