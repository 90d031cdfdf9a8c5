/-
  DERIVED. GIVEN WITH THE SEED: THE PROGRAM's TIES (one call each: nine closed facts by the kernel) AND EACH ROW's TIE, after the 31st guide's Derived/Test/Toyas{Tie, Card}.lean. No idea stands in it: it is a product of the set-up. Laid BY PROGRAM, IN A SANDBOX (cutbox-door.mjs). By AI agents, Wed Nov 11 2026. No macro, syntax, notation, axiom, sorry.
-/
import Derived.Test.YtoakmlopjeecoaaGreatDoorRows
import Derived.LaidByTextLater
import Derived.SevenTiedAt
import Derived.LaidSub
import Derived.LaidOnce
namespace Go.Proofs.YtoakmlopjeecoaaGreatDoor
open Go
set_option maxRecDepth 100000
theorem seatTie1 : Tryz.prog.laidByTextLater [("radicand/format.known", Rows.laid_radicand_format_known), ("radicand/engine.names", Rows.laid_radicand_engine_names), ("radicand/batch.flags", Rows.laid_radicand_batch_flags)] [.data, .data, .data] true :=
  Program.laidByTextLater_by_one 41 8 33 (by kernel_rfl) (by kernel_rfl) (by kernel_rfl) (by kernel_rfl) (by kernel_rfl) (by kernel_rfl) (fun _ _ => by kernel_rfl)
theorem noOwnUnsafe : Tryz.pinned.checked.prog.headLifts.contains "ownunsafe" = false := by kernel_rfl
theorem tie : Tryz.prog.laidByTextLater [("radicand/format.known", Rows.laid_radicand_format_known), ("radicand/engine.names", Rows.laid_radicand_engine_names), ("radicand/batch.flags", Rows.laid_radicand_batch_flags)] [.data, .data, .data] true :=
  Program.laidByTextLater.sub seatTie1 ["radicand/format.known", "radicand/engine.names", "radicand/batch.flags"] (by kernel_rfl) (by kernel_rfl)
theorem batchFull_row_tie : Rows.batchFullRow.laidByTextAt .later Tryz.pinned [.data, .data, .data] true :=
  OpenClaim.laidByTextAt_later rfl rfl tie noOwnUnsafe
theorem batchNone_row_tie : Rows.batchNoneRow.laidByTextAt .later Tryz.pinned [.data, .data, .data] true :=
  OpenClaim.laidByTextAt_later rfl rfl tie noOwnUnsafe
theorem batchFullUpto_row_tie : Rows.batchFullUptoRow.laidByTextAt .later Tryz.pinned [.data, .data, .data] true :=
  OpenClaim.laidByTextAt_later rfl rfl tie noOwnUnsafe
theorem batchNoneUpto_row_tie : Rows.batchNoneUptoRow.laidByTextAt .later Tryz.pinned [.data, .data, .data] true :=
  OpenClaim.laidByTextAt_later rfl rfl tie noOwnUnsafe
end Go.Proofs.YtoakmlopjeecoaaGreatDoor
