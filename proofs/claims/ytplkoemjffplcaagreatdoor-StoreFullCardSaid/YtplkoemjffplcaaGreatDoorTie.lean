/-
  DERIVED. GIVEN WITH THE SEED: THE PROGRAM's TIES (one call each: nine closed facts by the kernel) AND EACH ROW's TIE, after the 31st guide's Derived/Test/Toyas{Tie, Card}.lean. No idea stands in it: it is a product of the set-up. Laid BY PROGRAM, IN A SANDBOX (cutbox-door.mjs). By AI agents, Wed Nov 11 2026. No macro, syntax, notation, axiom, sorry.
-/
import Derived.Test.YtplkoemjffplcaaGreatDoorRows
import Derived.LaidByTextLater
import Derived.SevenTiedAt
import Derived.LaidSub
import Derived.LaidOnce
namespace Go.Proofs.YtplkoemjffplcaaGreatDoor
open Go
set_option maxRecDepth 100000
theorem seatTie1 : Tryz.prog.laidByTextLater [("tearoff/keccak.rc", Rows.laid_tearoff_keccak_rc), ("tearoff/keccak.turns", Rows.laid_tearoff_keccak_turns), ("tearoff/sets.sums", Rows.laid_tearoff_sets_sums), ("tearoff/sets.widths", Rows.laid_tearoff_sets_widths), ("tearoff/sets.heights", Rows.laid_tearoff_sets_heights), ("tearoff/sets.own", Rows.laid_tearoff_sets_own), ("tearoff/sha2.k", Rows.laid_tearoff_sha2_k), ("tearoff/sha2.first", Rows.laid_tearoff_sha2_first)] [.data, .data, .data, .data, .data, .data, .data, .data] true :=
  Program.laidByTextLater_by_one 53 8 65 (by kernel_rfl) (by kernel_rfl) (by kernel_rfl) (by kernel_rfl) (by kernel_rfl) (by kernel_rfl) (fun _ _ => by kernel_rfl)
theorem noOwnUnsafe : Tryz.pinned.checked.prog.headLifts.contains "ownunsafe" = false := by kernel_rfl
theorem tie : Tryz.prog.laidByTextLater [("tearoff/keccak.rc", Rows.laid_tearoff_keccak_rc), ("tearoff/keccak.turns", Rows.laid_tearoff_keccak_turns), ("tearoff/sets.sums", Rows.laid_tearoff_sets_sums), ("tearoff/sets.widths", Rows.laid_tearoff_sets_widths), ("tearoff/sets.heights", Rows.laid_tearoff_sets_heights), ("tearoff/sets.own", Rows.laid_tearoff_sets_own), ("tearoff/sha2.k", Rows.laid_tearoff_sha2_k), ("tearoff/sha2.first", Rows.laid_tearoff_sha2_first)] [.data, .data, .data, .data, .data, .data, .data, .data] true :=
  Program.laidByTextLater.sub seatTie1 ["tearoff/keccak.rc", "tearoff/keccak.turns", "tearoff/sets.sums", "tearoff/sets.widths", "tearoff/sets.heights", "tearoff/sets.own", "tearoff/sha2.k", "tearoff/sha2.first"] (by kernel_rfl) (by kernel_rfl)
theorem storeAll_row_tie : Rows.storeAllRow.laidByTextAt .later Tryz.pinned [.data, .data, .data, .data, .data, .data, .data, .data] true :=
  OpenClaim.laidByTextAt_later rfl rfl tie noOwnUnsafe
theorem storeFull_row_tie : Rows.storeFullRow.laidByTextAt .later Tryz.pinned [.data, .data, .data, .data, .data, .data, .data, .data] true :=
  OpenClaim.laidByTextAt_later rfl rfl tie noOwnUnsafe
theorem storeHeads_row_tie : Rows.storeHeadsRow.laidByTextAt .later Tryz.pinned [.data, .data, .data, .data, .data, .data, .data, .data] true :=
  OpenClaim.laidByTextAt_later rfl rfl tie noOwnUnsafe
theorem storeRetired_row_tie : Rows.storeRetiredRow.laidByTextAt .later Tryz.pinned [.data, .data, .data, .data, .data, .data, .data, .data] true :=
  OpenClaim.laidByTextAt_later rfl rfl tie noOwnUnsafe
theorem storeAllUpto_row_tie : Rows.storeAllUptoRow.laidByTextAt .later Tryz.pinned [.data, .data, .data, .data, .data, .data, .data, .data] true :=
  OpenClaim.laidByTextAt_later rfl rfl tie noOwnUnsafe
theorem storeFullUpto_row_tie : Rows.storeFullUptoRow.laidByTextAt .later Tryz.pinned [.data, .data, .data, .data, .data, .data, .data, .data] true :=
  OpenClaim.laidByTextAt_later rfl rfl tie noOwnUnsafe
theorem storeHeadsUpto_row_tie : Rows.storeHeadsUptoRow.laidByTextAt .later Tryz.pinned [.data, .data, .data, .data, .data, .data, .data, .data] true :=
  OpenClaim.laidByTextAt_later rfl rfl tie noOwnUnsafe
theorem storeRetiredUpto_row_tie : Rows.storeRetiredUptoRow.laidByTextAt .later Tryz.pinned [.data, .data, .data, .data, .data, .data, .data, .data] true :=
  OpenClaim.laidByTextAt_later rfl rfl tie noOwnUnsafe
end Go.Proofs.YtplkoemjffplcaaGreatDoor
