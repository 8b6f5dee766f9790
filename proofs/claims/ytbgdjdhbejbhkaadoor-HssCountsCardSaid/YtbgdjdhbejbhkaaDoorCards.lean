/-
  DERIVED. GIVEN WITH THE SEED: THE CARDS: each row of YtbgdjdhbejbhkaaDoorRows.lean that lists a variable, with what it lists TIED to the program's text (the seventh form; the later family's looks); each row that meets fmt, with fmt's text TOLD by the authors' own Lean function (tested against real Go, not proved from fmt's source: count such statements apart). THE CARD IS WHAT COUNTS. Prove the row's statement (the work); the ties are given (YtbgdjdhbejbhkaaDoorTie.lean); close each card by the builder's one call (the guide's Derived/Test/ToyasCard.lean, 'card_holds'). Laid BY PROGRAM, IN A SANDBOX (cutbox-door.mjs). By AI agents, Wed Nov 11 2026. No macro, syntax, notation, axiom, sorry.
-/
import Derived.Test.YtbgdjdhbejbhkaaDoorRows
import GoSem.ClaimSeven
namespace Go.Proofs.YtbgdjdhbejbhkaaDoor
namespace Rows

/-- THE TIED CARD OF 'tearofflaw13.HssCounts'. -/
def hssCountsCard : Claim7 := { stood := { row := hssCountsRow, standIns := [], harness := (true, "717c664ef342b1249ddb18e1bd683a7c6d54cdb8486c118ca5a32a411661039e"), looks := true }, kinds := [], alts := [], laidByText := true, laidKinds := [.data, .data, .data, .data], laidTests := true, laidLooks := .later }
def HssCountsCardSaid : Prop := Claim7.holds Tryd.pinned (.plain (OpenSpec.ofChange hssCountsSpec)) hssCountsCard

/-- THE TIED CARD OF 'tearofflaw20.SlotsAreas'. -/
def slotsAreasCard : Claim7 := { stood := { row := slotsAreasRow, standIns := [], harness := (true, "717c664ef342b1249ddb18e1bd683a7c6d54cdb8486c118ca5a32a411661039e"), looks := true }, kinds := [], alts := [], laidByText := true, laidKinds := [.data, .data], laidTests := true, laidLooks := .later }
def SlotsAreasCardSaid : Prop := Claim7.holds Tryd.pinned (.plain (OpenSpec.ofChange slotsAreasSpec)) slotsAreasCard

/-- THE TIED CARD OF 'tearofflaw20.SlotsTurns'. -/
def slotsTurnsCard : Claim7 := { stood := { row := slotsTurnsRow, standIns := [], harness := (true, "717c664ef342b1249ddb18e1bd683a7c6d54cdb8486c118ca5a32a411661039e"), looks := true }, kinds := [], alts := [], laidByText := true, laidKinds := [.data, .data], laidTests := true, laidLooks := .later }
def SlotsTurnsCardSaid : Prop := Claim7.holds Tryd.pinned (.plain (OpenSpec.ofChange slotsTurnsSpec)) slotsTurnsCard

/-- THE TIED CARD OF 'tearofflaw20.SlotsBlank'. -/
def slotsBlankCard : Claim7 := { stood := { row := slotsBlankRow, standIns := [], harness := (true, "717c664ef342b1249ddb18e1bd683a7c6d54cdb8486c118ca5a32a411661039e"), looks := true }, kinds := [], alts := [], laidByText := true, laidKinds := [.data, .data], laidTests := true, laidLooks := .later }
def SlotsBlankCardSaid : Prop := Claim7.holds Tryd.pinned (.plain (OpenSpec.ofChange slotsBlankSpec)) slotsBlankCard

/-- THE TIED CARD OF 'tearofflaw20.SlotsFull'. -/
def slotsFullCard : Claim7 := { stood := { row := slotsFullRow, standIns := [], harness := (true, "717c664ef342b1249ddb18e1bd683a7c6d54cdb8486c118ca5a32a411661039e"), looks := true }, kinds := [], alts := [], laidByText := true, laidKinds := [.data, .data], laidTests := true, laidLooks := .later }
def SlotsFullCardSaid : Prop := Claim7.holds Tryd.pinned (.plain (OpenSpec.ofChange slotsFullSpec)) slotsFullCard

/-- THE TIED CARD OF 'tearofflaw20.SlotsPlay'. -/
def slotsPlayCard : Claim7 := { stood := { row := slotsPlayRow, standIns := [], harness := (true, "717c664ef342b1249ddb18e1bd683a7c6d54cdb8486c118ca5a32a411661039e"), looks := true }, kinds := [], alts := [], laidByText := true, laidKinds := [.data, .data], laidTests := true, laidLooks := .later }
def SlotsPlayCardSaid : Prop := Claim7.holds Tryd.pinned (.plain (OpenSpec.ofChange slotsPlaySpec)) slotsPlayCard

/-- THE TIED CARD OF 'tearofflaw21.ReserveBytes'. -/
def reserveBytesCard : Claim7 := { stood := { row := reserveBytesRow, standIns := [], harness := (true, "717c664ef342b1249ddb18e1bd683a7c6d54cdb8486c118ca5a32a411661039e"), looks := true }, kinds := [], alts := [], laidByText := true, laidKinds := [.data, .data], laidTests := true, laidLooks := .later }
def ReserveBytesCardSaid : Prop := Claim7.holds Tryd.pinned (.plain (OpenSpec.ofChange reserveBytesSpec)) reserveBytesCard

/-- THE TIED CARD OF 'tearofflaw21.ReserveHeads'. -/
def reserveHeadsCard : Claim7 := { stood := { row := reserveHeadsRow, standIns := [], harness := (true, "717c664ef342b1249ddb18e1bd683a7c6d54cdb8486c118ca5a32a411661039e"), looks := true }, kinds := [], alts := [], laidByText := true, laidKinds := [.data, .data], laidTests := true, laidLooks := .later }
def ReserveHeadsCardSaid : Prop := Claim7.holds Tryd.pinned (.plain (OpenSpec.ofChange reserveHeadsSpec)) reserveHeadsCard

/-- THE TIED CARD OF 'tearofflaw21.ReserveRows'. -/
def reserveRowsCard : Claim7 := { stood := { row := reserveRowsRow, standIns := [], harness := (true, "717c664ef342b1249ddb18e1bd683a7c6d54cdb8486c118ca5a32a411661039e"), looks := true }, kinds := [], alts := [], laidByText := true, laidKinds := [.data, .data], laidTests := true, laidLooks := .later }
def ReserveRowsCardSaid : Prop := Claim7.holds Tryd.pinned (.plain (OpenSpec.ofChange reserveRowsSpec)) reserveRowsCard

/-- THE TIED CARD OF 'tearofflaw21.ReserveAll'. -/
def reserveAllCard : Claim7 := { stood := { row := reserveAllRow, standIns := [], harness := (true, "717c664ef342b1249ddb18e1bd683a7c6d54cdb8486c118ca5a32a411661039e"), looks := true }, kinds := [], alts := [], laidByText := true, laidKinds := [.data, .data], laidTests := true, laidLooks := .later }
def ReserveAllCardSaid : Prop := Claim7.holds Tryd.pinned (.plain (OpenSpec.ofChange reserveAllSpec)) reserveAllCard

/-- THE TIED CARD OF 'tearofflaw21.ReserveLoss'. -/
def reserveLossCard : Claim7 := { stood := { row := reserveLossRow, standIns := [], harness := (true, "717c664ef342b1249ddb18e1bd683a7c6d54cdb8486c118ca5a32a411661039e"), looks := true }, kinds := [], alts := [], laidByText := true, laidKinds := [.data, .data], laidTests := true, laidLooks := .later }
def ReserveLossCardSaid : Prop := Claim7.holds Tryd.pinned (.plain (OpenSpec.ofChange reserveLossSpec)) reserveLossCard

/-- THE TIED CARD OF 'tearofflaw21.ReservePlays'. -/
def reservePlaysCard : Claim7 := { stood := { row := reservePlaysRow, standIns := [], harness := (true, "717c664ef342b1249ddb18e1bd683a7c6d54cdb8486c118ca5a32a411661039e"), looks := true }, kinds := [], alts := [], laidByText := true, laidKinds := [.data, .data], laidTests := true, laidLooks := .later }
def ReservePlaysCardSaid : Prop := Claim7.holds Tryd.pinned (.plain (OpenSpec.ofChange reservePlaysSpec)) reservePlaysCard

/-- THE SECOND FORM's CARD OF 'tearofflaw13.HssCounts'. -/
def hssCountsUptoCard : Claim7 := { stood := { row := hssCountsUptoRow, standIns := [], harness := (true, "717c664ef342b1249ddb18e1bd683a7c6d54cdb8486c118ca5a32a411661039e"), looks := true }, kinds := [], alts := [], laidByText := true, laidKinds := [.data, .data, .data, .data], laidTests := true, laidLooks := .later }
def HssCountsUptoCardSaid : Prop := Claim7.holds Tryd.pinned (.plain (OpenSpec.upto hssCountsSpec)) hssCountsUptoCard

/-- THE SECOND FORM's CARD OF 'tearofflaw20.SlotsAreas'. -/
def slotsAreasUptoCard : Claim7 := { stood := { row := slotsAreasUptoRow, standIns := [], harness := (true, "717c664ef342b1249ddb18e1bd683a7c6d54cdb8486c118ca5a32a411661039e"), looks := true }, kinds := [], alts := [], laidByText := true, laidKinds := [.data, .data], laidTests := true, laidLooks := .later }
def SlotsAreasUptoCardSaid : Prop := Claim7.holds Tryd.pinned (.plain (OpenSpec.upto slotsAreasSpec)) slotsAreasUptoCard

/-- THE SECOND FORM's CARD OF 'tearofflaw20.SlotsTurns'. -/
def slotsTurnsUptoCard : Claim7 := { stood := { row := slotsTurnsUptoRow, standIns := [], harness := (true, "717c664ef342b1249ddb18e1bd683a7c6d54cdb8486c118ca5a32a411661039e"), looks := true }, kinds := [], alts := [], laidByText := true, laidKinds := [.data, .data], laidTests := true, laidLooks := .later }
def SlotsTurnsUptoCardSaid : Prop := Claim7.holds Tryd.pinned (.plain (OpenSpec.upto slotsTurnsSpec)) slotsTurnsUptoCard

/-- THE SECOND FORM's CARD OF 'tearofflaw20.SlotsBlank'. -/
def slotsBlankUptoCard : Claim7 := { stood := { row := slotsBlankUptoRow, standIns := [], harness := (true, "717c664ef342b1249ddb18e1bd683a7c6d54cdb8486c118ca5a32a411661039e"), looks := true }, kinds := [], alts := [], laidByText := true, laidKinds := [.data, .data], laidTests := true, laidLooks := .later }
def SlotsBlankUptoCardSaid : Prop := Claim7.holds Tryd.pinned (.plain (OpenSpec.upto slotsBlankSpec)) slotsBlankUptoCard

/-- THE SECOND FORM's CARD OF 'tearofflaw20.SlotsFull'. -/
def slotsFullUptoCard : Claim7 := { stood := { row := slotsFullUptoRow, standIns := [], harness := (true, "717c664ef342b1249ddb18e1bd683a7c6d54cdb8486c118ca5a32a411661039e"), looks := true }, kinds := [], alts := [], laidByText := true, laidKinds := [.data, .data], laidTests := true, laidLooks := .later }
def SlotsFullUptoCardSaid : Prop := Claim7.holds Tryd.pinned (.plain (OpenSpec.upto slotsFullSpec)) slotsFullUptoCard

/-- THE SECOND FORM's CARD OF 'tearofflaw20.SlotsPlay'. -/
def slotsPlayUptoCard : Claim7 := { stood := { row := slotsPlayUptoRow, standIns := [], harness := (true, "717c664ef342b1249ddb18e1bd683a7c6d54cdb8486c118ca5a32a411661039e"), looks := true }, kinds := [], alts := [], laidByText := true, laidKinds := [.data, .data], laidTests := true, laidLooks := .later }
def SlotsPlayUptoCardSaid : Prop := Claim7.holds Tryd.pinned (.plain (OpenSpec.upto slotsPlaySpec)) slotsPlayUptoCard

/-- THE SECOND FORM's CARD OF 'tearofflaw21.ReserveBytes'. -/
def reserveBytesUptoCard : Claim7 := { stood := { row := reserveBytesUptoRow, standIns := [], harness := (true, "717c664ef342b1249ddb18e1bd683a7c6d54cdb8486c118ca5a32a411661039e"), looks := true }, kinds := [], alts := [], laidByText := true, laidKinds := [.data, .data], laidTests := true, laidLooks := .later }
def ReserveBytesUptoCardSaid : Prop := Claim7.holds Tryd.pinned (.plain (OpenSpec.upto reserveBytesSpec)) reserveBytesUptoCard

/-- THE SECOND FORM's CARD OF 'tearofflaw21.ReserveHeads'. -/
def reserveHeadsUptoCard : Claim7 := { stood := { row := reserveHeadsUptoRow, standIns := [], harness := (true, "717c664ef342b1249ddb18e1bd683a7c6d54cdb8486c118ca5a32a411661039e"), looks := true }, kinds := [], alts := [], laidByText := true, laidKinds := [.data, .data], laidTests := true, laidLooks := .later }
def ReserveHeadsUptoCardSaid : Prop := Claim7.holds Tryd.pinned (.plain (OpenSpec.upto reserveHeadsSpec)) reserveHeadsUptoCard

/-- THE SECOND FORM's CARD OF 'tearofflaw21.ReserveRows'. -/
def reserveRowsUptoCard : Claim7 := { stood := { row := reserveRowsUptoRow, standIns := [], harness := (true, "717c664ef342b1249ddb18e1bd683a7c6d54cdb8486c118ca5a32a411661039e"), looks := true }, kinds := [], alts := [], laidByText := true, laidKinds := [.data, .data], laidTests := true, laidLooks := .later }
def ReserveRowsUptoCardSaid : Prop := Claim7.holds Tryd.pinned (.plain (OpenSpec.upto reserveRowsSpec)) reserveRowsUptoCard

/-- THE SECOND FORM's CARD OF 'tearofflaw21.ReserveAll'. -/
def reserveAllUptoCard : Claim7 := { stood := { row := reserveAllUptoRow, standIns := [], harness := (true, "717c664ef342b1249ddb18e1bd683a7c6d54cdb8486c118ca5a32a411661039e"), looks := true }, kinds := [], alts := [], laidByText := true, laidKinds := [.data, .data], laidTests := true, laidLooks := .later }
def ReserveAllUptoCardSaid : Prop := Claim7.holds Tryd.pinned (.plain (OpenSpec.upto reserveAllSpec)) reserveAllUptoCard

/-- THE SECOND FORM's CARD OF 'tearofflaw21.ReserveLoss'. -/
def reserveLossUptoCard : Claim7 := { stood := { row := reserveLossUptoRow, standIns := [], harness := (true, "717c664ef342b1249ddb18e1bd683a7c6d54cdb8486c118ca5a32a411661039e"), looks := true }, kinds := [], alts := [], laidByText := true, laidKinds := [.data, .data], laidTests := true, laidLooks := .later }
def ReserveLossUptoCardSaid : Prop := Claim7.holds Tryd.pinned (.plain (OpenSpec.upto reserveLossSpec)) reserveLossUptoCard

/-- THE SECOND FORM's CARD OF 'tearofflaw21.ReservePlays'. -/
def reservePlaysUptoCard : Claim7 := { stood := { row := reservePlaysUptoRow, standIns := [], harness := (true, "717c664ef342b1249ddb18e1bd683a7c6d54cdb8486c118ca5a32a411661039e"), looks := true }, kinds := [], alts := [], laidByText := true, laidKinds := [.data, .data], laidTests := true, laidLooks := .later }
def ReservePlaysUptoCardSaid : Prop := Claim7.holds Tryd.pinned (.plain (OpenSpec.upto reservePlaysSpec)) reservePlaysUptoCard
end Rows
end Go.Proofs.YtbgdjdhbejbhkaaDoor
