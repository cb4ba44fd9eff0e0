/-
  DERIVED. GIVEN WITH THE SEED: THE PROGRAM's TIES (one call each: nine closed facts by the kernel) AND EACH ROW's TIE, after the 31st guide's Derived/Test/Toyas{Tie, Card}.lean. No idea stands in it: it is a product of the set-up. Laid BY PROGRAM, IN A SANDBOX (cutbox-door.mjs). By AI agents, Wed Nov 11 2026. No macro, syntax, notation, axiom, sorry.
-/
import Derived.Test.YtabmekglalbmoaaGreatDoorRows
import Derived.LaidByTextLater
import Derived.SevenTiedAt
import Derived.LaidSub
import Derived.LaidOnce
namespace Go.Proofs.YtabmekglalbmoaaGreatDoor
open Go
set_option maxRecDepth 100000
theorem seatTie1 : Tryz.prog.laidByTextLater [("errors.errorType", Rows.laid_errors_errorType)] [.handle] true :=
  Program.laidByTextLater_by_one 16 8 2 (by kernel_rfl) (by kernel_rfl) (by kernel_rfl) (by kernel_rfl) (by kernel_rfl) (by kernel_rfl) (fun _ _ => by kernel_rfl)
theorem noOwnUnsafe : Tryz.pinned.checked.prog.headLifts.contains "ownunsafe" = false := by kernel_rfl
theorem tie : Tryz.prog.laidByTextLater [("errors.errorType", Rows.laid_errors_errorType)] [.handle] true :=
  Program.laidByTextLater.sub seatTie1 ["errors.errorType"] (by kernel_rfl) (by kernel_rfl)
theorem exphJoins_row_tie : Rows.exphJoinsRow.laidByTextAt .later Tryz.pinned [.handle] true :=
  OpenClaim.laidByTextAt_later rfl rfl tie noOwnUnsafe
theorem exphReads_row_tie : Rows.exphReadsRow.laidByTextAt .later Tryz.pinned [.handle] true :=
  OpenClaim.laidByTextAt_later rfl rfl tie noOwnUnsafe
theorem exphDeep_row_tie : Rows.exphDeepRow.laidByTextAt .later Tryz.pinned [.handle] true :=
  OpenClaim.laidByTextAt_later rfl rfl tie noOwnUnsafe
theorem exphSame_row_tie : Rows.exphSameRow.laidByTextAt .later Tryz.pinned [.handle] true :=
  OpenClaim.laidByTextAt_later rfl rfl tie noOwnUnsafe
theorem exphOthers_row_tie : Rows.exphOthersRow.laidByTextAt .later Tryz.pinned [.handle] true :=
  OpenClaim.laidByTextAt_later rfl rfl tie noOwnUnsafe
theorem numberWrites_row_tie : Rows.numberWritesRow.laidByTextAt .later Tryz.pinned [.handle] true :=
  OpenClaim.laidByTextAt_later rfl rfl tie noOwnUnsafe
theorem histPacked_row_tie : Rows.histPackedRow.laidByTextAt .later Tryz.pinned [.handle] true :=
  OpenClaim.laidByTextAt_later rfl rfl tie noOwnUnsafe
theorem histReads_row_tie : Rows.histReadsRow.laidByTextAt .later Tryz.pinned [.handle] true :=
  OpenClaim.laidByTextAt_later rfl rfl tie noOwnUnsafe
theorem histWrites_row_tie : Rows.histWritesRow.laidByTextAt .later Tryz.pinned [.handle] true :=
  OpenClaim.laidByTextAt_later rfl rfl tie noOwnUnsafe
theorem histBack_row_tie : Rows.histBackRow.laidByTextAt .later Tryz.pinned [.handle] true :=
  OpenClaim.laidByTextAt_later rfl rfl tie noOwnUnsafe
theorem histTwice_row_tie : Rows.histTwiceRow.laidByTextAt .later Tryz.pinned [.handle] true :=
  OpenClaim.laidByTextAt_later rfl rfl tie noOwnUnsafe
theorem exphJoinsUpto_row_tie : Rows.exphJoinsUptoRow.laidByTextAt .later Tryz.pinned [.handle] true :=
  OpenClaim.laidByTextAt_later rfl rfl tie noOwnUnsafe
theorem exphReadsUpto_row_tie : Rows.exphReadsUptoRow.laidByTextAt .later Tryz.pinned [.handle] true :=
  OpenClaim.laidByTextAt_later rfl rfl tie noOwnUnsafe
theorem exphDeepUpto_row_tie : Rows.exphDeepUptoRow.laidByTextAt .later Tryz.pinned [.handle] true :=
  OpenClaim.laidByTextAt_later rfl rfl tie noOwnUnsafe
theorem exphSameUpto_row_tie : Rows.exphSameUptoRow.laidByTextAt .later Tryz.pinned [.handle] true :=
  OpenClaim.laidByTextAt_later rfl rfl tie noOwnUnsafe
theorem exphOthersUpto_row_tie : Rows.exphOthersUptoRow.laidByTextAt .later Tryz.pinned [.handle] true :=
  OpenClaim.laidByTextAt_later rfl rfl tie noOwnUnsafe
theorem numberWritesUpto_row_tie : Rows.numberWritesUptoRow.laidByTextAt .later Tryz.pinned [.handle] true :=
  OpenClaim.laidByTextAt_later rfl rfl tie noOwnUnsafe
theorem histPackedUpto_row_tie : Rows.histPackedUptoRow.laidByTextAt .later Tryz.pinned [.handle] true :=
  OpenClaim.laidByTextAt_later rfl rfl tie noOwnUnsafe
theorem histReadsUpto_row_tie : Rows.histReadsUptoRow.laidByTextAt .later Tryz.pinned [.handle] true :=
  OpenClaim.laidByTextAt_later rfl rfl tie noOwnUnsafe
theorem histWritesUpto_row_tie : Rows.histWritesUptoRow.laidByTextAt .later Tryz.pinned [.handle] true :=
  OpenClaim.laidByTextAt_later rfl rfl tie noOwnUnsafe
theorem histBackUpto_row_tie : Rows.histBackUptoRow.laidByTextAt .later Tryz.pinned [.handle] true :=
  OpenClaim.laidByTextAt_later rfl rfl tie noOwnUnsafe
theorem histTwiceUpto_row_tie : Rows.histTwiceUptoRow.laidByTextAt .later Tryz.pinned [.handle] true :=
  OpenClaim.laidByTextAt_later rfl rfl tie noOwnUnsafe
end Go.Proofs.YtabmekglalbmoaaGreatDoor
