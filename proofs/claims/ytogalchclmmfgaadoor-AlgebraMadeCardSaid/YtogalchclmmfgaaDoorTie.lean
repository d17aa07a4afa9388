/-
  DERIVED. GIVEN WITH THE SEED: THE PROGRAM's TIES (one call each: nine closed facts by the kernel) AND EACH ROW's TIE, after the 31st guide's Derived/Test/Toyas{Tie, Card}.lean. No idea stands in it: it is a product of the set-up. Laid BY PROGRAM, IN A SANDBOX (cutbox-door.mjs). By AI agents, Wed Nov 11 2026. No macro, syntax, notation, axiom, sorry.
-/
import Derived.Test.YtogalchclmmfgaaDoorRows
import Derived.LaidByTextLater
import Derived.SevenTiedAt
import Derived.LaidSub
import Derived.LaidOnce
namespace Go.Proofs.YtogalchclmmfgaaDoor
open Go
set_option maxRecDepth 100000
theorem seatTie1 : Tryd.prog.laidByTextLater [("querylab/expression.operations", Rows.laid_querylab_expression_operations), ("querylab/algebra.forms", Rows.laid_querylab_algebra_forms)] [.data, .data] true :=
  Program.laidByTextLater_by_one 57 8 117 (by kernel_rfl) (by kernel_rfl) (by kernel_rfl) (by kernel_rfl) (by kernel_rfl) (by kernel_rfl) (fun _ _ => by kernel_rfl)
theorem noOwnUnsafe : Tryd.pinned.checked.prog.headLifts.contains "ownunsafe" = false := by kernel_rfl
theorem tie : Tryd.prog.laidByTextLater [("querylab/expression.operations", Rows.laid_querylab_expression_operations)] [.data] true :=
  Program.laidByTextLater.sub seatTie1 ["querylab/expression.operations"] (by kernel_rfl) (by kernel_rfl)
theorem schemaSpoilt_row_tie : Rows.schemaSpoiltRow.laidByTextAt .later Tryd.pinned [.data] true :=
  OpenClaim.laidByTextAt_later rfl rfl tie noOwnUnsafe
theorem schemaReferences_row_tie : Rows.schemaReferencesRow.laidByTextAt .later Tryd.pinned [.data] true :=
  OpenClaim.laidByTextAt_later rfl rfl tie noOwnUnsafe
theorem tie2 : Tryd.prog.laidByTextLater [("querylab/expression.operations", Rows.laid_querylab_expression_operations), ("querylab/algebra.forms", Rows.laid_querylab_algebra_forms)] [.data, .data] true :=
  Program.laidByTextLater.sub seatTie1 ["querylab/expression.operations", "querylab/algebra.forms"] (by kernel_rfl) (by kernel_rfl)
theorem algebraMade_row_tie : Rows.algebraMadeRow.laidByTextAt .later Tryd.pinned [.data, .data] true :=
  OpenClaim.laidByTextAt_later rfl rfl tie2 noOwnUnsafe
theorem algebraDeep_row_tie : Rows.algebraDeepRow.laidByTextAt .later Tryd.pinned [.data, .data] true :=
  OpenClaim.laidByTextAt_later rfl rfl tie2 noOwnUnsafe
theorem schemaSpoiltUpto_row_tie : Rows.schemaSpoiltUptoRow.laidByTextAt .later Tryd.pinned [.data] true :=
  OpenClaim.laidByTextAt_later rfl rfl tie noOwnUnsafe
theorem schemaReferencesUpto_row_tie : Rows.schemaReferencesUptoRow.laidByTextAt .later Tryd.pinned [.data] true :=
  OpenClaim.laidByTextAt_later rfl rfl tie noOwnUnsafe
theorem algebraMadeUpto_row_tie : Rows.algebraMadeUptoRow.laidByTextAt .later Tryd.pinned [.data, .data] true :=
  OpenClaim.laidByTextAt_later rfl rfl tie2 noOwnUnsafe
theorem algebraDeepUpto_row_tie : Rows.algebraDeepUptoRow.laidByTextAt .later Tryd.pinned [.data, .data] true :=
  OpenClaim.laidByTextAt_later rfl rfl tie2 noOwnUnsafe
end Go.Proofs.YtogalchclmmfgaaDoor
