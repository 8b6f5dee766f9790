/-
  DERIVED. GIVEN WITH THE SEED: THE CARDS: each row of YtplkoemjffplcaaGreatDoorRows.lean that lists a variable, with what it lists TIED to the program's text (the seventh form; the later family's looks); each row that meets fmt, with fmt's text TOLD by the authors' own Lean function (tested against real Go, not proved from fmt's source: count such statements apart). THE CARD IS WHAT COUNTS. Prove the row's statement (the work); the ties are given (YtplkoemjffplcaaGreatDoorTie.lean); close each card by the builder's one call (the guide's Derived/Test/ToyasCard.lean, 'card_holds'). Laid BY PROGRAM, IN A SANDBOX (cutbox-door.mjs). By AI agents, Wed Nov 11 2026. No macro, syntax, notation, axiom, sorry.
-/
import Derived.Test.YtplkoemjffplcaaGreatDoorRows
import GoSem.ClaimSeven
namespace Go.Proofs.YtplkoemjffplcaaGreatDoor
namespace Rows

/-- THE TIED CARD OF 'tearofflaw22.StoreAll'. -/
def storeAllCard : Claim7 := { stood := { row := storeAllRow, standIns := [], harness := (true, "9cc179f6ff22e09b2f92100c74acf33958b1f6a56b8e60a2a3420ad856776abc"), looks := true }, kinds := [], alts := [], laidByText := true, laidKinds := [.data, .data, .data, .data, .data, .data, .data, .data], laidTests := true, laidLooks := .later }
def StoreAllCardSaid : Prop := Claim7.holds Tryz.pinned (.plain (OpenSpec.ofChange storeAllSpec)) storeAllCard

/-- THE TIED CARD OF 'tearofflaw22.StoreFull'. -/
def storeFullCard : Claim7 := { stood := { row := storeFullRow, standIns := [], harness := (true, "9cc179f6ff22e09b2f92100c74acf33958b1f6a56b8e60a2a3420ad856776abc"), looks := true }, kinds := [], alts := [], laidByText := true, laidKinds := [.data, .data, .data, .data, .data, .data, .data, .data], laidTests := true, laidLooks := .later }
def StoreFullCardSaid : Prop := Claim7.holds Tryz.pinned (.plain (OpenSpec.ofChange storeFullSpec)) storeFullCard

/-- THE TIED CARD OF 'tearofflaw22.StoreHeads'. -/
def storeHeadsCard : Claim7 := { stood := { row := storeHeadsRow, standIns := [], harness := (true, "9cc179f6ff22e09b2f92100c74acf33958b1f6a56b8e60a2a3420ad856776abc"), looks := true }, kinds := [], alts := [], laidByText := true, laidKinds := [.data, .data, .data, .data, .data, .data, .data, .data], laidTests := true, laidLooks := .later }
def StoreHeadsCardSaid : Prop := Claim7.holds Tryz.pinned (.plain (OpenSpec.ofChange storeHeadsSpec)) storeHeadsCard

/-- THE TIED CARD OF 'tearofflaw22.StoreRetired'. -/
def storeRetiredCard : Claim7 := { stood := { row := storeRetiredRow, standIns := [], harness := (true, "9cc179f6ff22e09b2f92100c74acf33958b1f6a56b8e60a2a3420ad856776abc"), looks := true }, kinds := [], alts := [], laidByText := true, laidKinds := [.data, .data, .data, .data, .data, .data, .data, .data], laidTests := true, laidLooks := .later }
def StoreRetiredCardSaid : Prop := Claim7.holds Tryz.pinned (.plain (OpenSpec.ofChange storeRetiredSpec)) storeRetiredCard

/-- THE SECOND FORM's CARD OF 'tearofflaw22.StoreAll'. -/
def storeAllUptoCard : Claim7 := { stood := { row := storeAllUptoRow, standIns := [], harness := (true, "9cc179f6ff22e09b2f92100c74acf33958b1f6a56b8e60a2a3420ad856776abc"), looks := true }, kinds := [], alts := [], laidByText := true, laidKinds := [.data, .data, .data, .data, .data, .data, .data, .data], laidTests := true, laidLooks := .later }
def StoreAllUptoCardSaid : Prop := Claim7.holds Tryz.pinned (.plain (OpenSpec.upto storeAllSpec)) storeAllUptoCard

/-- THE SECOND FORM's CARD OF 'tearofflaw22.StoreFull'. -/
def storeFullUptoCard : Claim7 := { stood := { row := storeFullUptoRow, standIns := [], harness := (true, "9cc179f6ff22e09b2f92100c74acf33958b1f6a56b8e60a2a3420ad856776abc"), looks := true }, kinds := [], alts := [], laidByText := true, laidKinds := [.data, .data, .data, .data, .data, .data, .data, .data], laidTests := true, laidLooks := .later }
def StoreFullUptoCardSaid : Prop := Claim7.holds Tryz.pinned (.plain (OpenSpec.upto storeFullSpec)) storeFullUptoCard

/-- THE SECOND FORM's CARD OF 'tearofflaw22.StoreHeads'. -/
def storeHeadsUptoCard : Claim7 := { stood := { row := storeHeadsUptoRow, standIns := [], harness := (true, "9cc179f6ff22e09b2f92100c74acf33958b1f6a56b8e60a2a3420ad856776abc"), looks := true }, kinds := [], alts := [], laidByText := true, laidKinds := [.data, .data, .data, .data, .data, .data, .data, .data], laidTests := true, laidLooks := .later }
def StoreHeadsUptoCardSaid : Prop := Claim7.holds Tryz.pinned (.plain (OpenSpec.upto storeHeadsSpec)) storeHeadsUptoCard

/-- THE SECOND FORM's CARD OF 'tearofflaw22.StoreRetired'. -/
def storeRetiredUptoCard : Claim7 := { stood := { row := storeRetiredUptoRow, standIns := [], harness := (true, "9cc179f6ff22e09b2f92100c74acf33958b1f6a56b8e60a2a3420ad856776abc"), looks := true }, kinds := [], alts := [], laidByText := true, laidKinds := [.data, .data, .data, .data, .data, .data, .data, .data], laidTests := true, laidLooks := .later }
def StoreRetiredUptoCardSaid : Prop := Claim7.holds Tryz.pinned (.plain (OpenSpec.upto storeRetiredSpec)) storeRetiredUptoCard
end Rows
end Go.Proofs.YtplkoemjffplcaaGreatDoor
