/-
  DERIVED. GIVEN WITH THE SEED: THE CARDS: each row of YtiimjodbaogjbaaGreatDoorRows.lean that lists a variable, with what it lists TIED to the program's text (the seventh form; the later family's looks); each row that meets fmt, with fmt's text TOLD by the authors' own Lean function (tested against real Go, not proved from fmt's source: count such statements apart). THE CARD IS WHAT COUNTS. Prove the row's statement (the work); the ties are given (YtiimjodbaogjbaaGreatDoorTie.lean); close each card by the builder's one call (the guide's Derived/Test/ToyasCard.lean, 'card_holds'). Laid BY PROGRAM, IN A SANDBOX (cutbox-door.mjs). By AI agents, Wed Nov 11 2026. No macro, syntax, notation, axiom, sorry.
-/
import Derived.Test.YtiimjodbaogjbaaGreatDoorRows
import GoSem.ClaimSeven
namespace Go.Proofs.YtiimjodbaogjbaaGreatDoor
namespace Rows

/-- THE TIED CARD OF 'tearofflaw12.LmsPairs'. -/
def lmsPairsCard : Claim7 := { stood := { row := lmsPairsRow, standIns := [], harness := (true, "ba733b5abd8571c99b1047aef17ff3bb418fcffbae091ebf85b39978d94dbd0d"), looks := true }, kinds := [], alts := [], laidByText := true, laidKinds := [.data, .data, .data, .data, .data, .data, .data, .data], laidTests := true, laidLooks := .later }
def LmsPairsCardSaid : Prop := Claim7.holds Tryz.pinned (.plain (OpenSpec.ofChange lmsPairsSpec)) lmsPairsCard

/-- THE TIED CARD OF 'tearofflaw12.LmsTakes'. -/
def lmsTakesCard : Claim7 := { stood := { row := lmsTakesRow, standIns := [], harness := (true, "ba733b5abd8571c99b1047aef17ff3bb418fcffbae091ebf85b39978d94dbd0d"), looks := true }, kinds := [], alts := [], laidByText := true, laidKinds := [.data, .data, .data, .data, .data, .data, .data, .data], laidTests := true, laidLooks := .later }
def LmsTakesCardSaid : Prop := Claim7.holds Tryz.pinned (.plain (OpenSpec.ofChange lmsTakesSpec)) lmsTakesCard

/-- THE TIED CARD OF 'tearofflaw13.HssPlaces'. -/
def hssPlacesCard : Claim7 := { stood := { row := hssPlacesRow, standIns := [], harness := (true, "ba733b5abd8571c99b1047aef17ff3bb418fcffbae091ebf85b39978d94dbd0d"), looks := true }, kinds := [], alts := [], laidByText := true, laidKinds := [.data, .data, .data, .data, .data, .data, .data, .data], laidTests := true, laidLooks := .later }
def HssPlacesCardSaid : Prop := Claim7.holds Tryz.pinned (.plain (OpenSpec.ofChange hssPlacesSpec)) hssPlacesCard

/-- THE TIED CARD OF 'tearofflaw12.LmsSigns'. -/
def lmsSignsCard : Claim7 := { stood := { row := lmsSignsRow, standIns := [], harness := (true, "ba733b5abd8571c99b1047aef17ff3bb418fcffbae091ebf85b39978d94dbd0d"), looks := true }, kinds := [], alts := [], laidByText := true, laidKinds := [.data, .data, .data, .data, .data, .data, .data, .data], laidTests := true, laidLooks := .later }
def LmsSignsCardSaid : Prop := Claim7.holds Tryz.pinned (.plain (OpenSpec.ofChange lmsSignsSpec)) lmsSignsCard

/-- THE TIED CARD OF 'tearofflaw12.LmsFits'. -/
def lmsFitsCard : Claim7 := { stood := { row := lmsFitsRow, standIns := [], harness := (true, "ba733b5abd8571c99b1047aef17ff3bb418fcffbae091ebf85b39978d94dbd0d"), looks := true }, kinds := [], alts := [], laidByText := true, laidKinds := [.data, .data, .data, .data, .data, .data, .data, .data], laidTests := true, laidLooks := .later }
def LmsFitsCardSaid : Prop := Claim7.holds Tryz.pinned (.plain (OpenSpec.ofChange lmsFitsSpec)) lmsFitsCard

/-- THE TIED CARD OF 'tearofflaw12.LmsKeeps'. -/
def lmsKeepsCard : Claim7 := { stood := { row := lmsKeepsRow, standIns := [], harness := (true, "ba733b5abd8571c99b1047aef17ff3bb418fcffbae091ebf85b39978d94dbd0d"), looks := true }, kinds := [], alts := [], laidByText := true, laidKinds := [.data, .data, .data, .data, .data, .data, .data, .data], laidTests := true, laidLooks := .later }
def LmsKeepsCardSaid : Prop := Claim7.holds Tryz.pinned (.plain (OpenSpec.ofChange lmsKeepsSpec)) lmsKeepsCard

/-- THE TIED CARD OF 'tearofflaw12.LmsLeaves'. -/
def lmsLeavesCard : Claim7 := { stood := { row := lmsLeavesRow, standIns := [], harness := (true, "ba733b5abd8571c99b1047aef17ff3bb418fcffbae091ebf85b39978d94dbd0d"), looks := true }, kinds := [], alts := [], laidByText := true, laidKinds := [.data, .data, .data, .data, .data, .data, .data, .data], laidTests := true, laidLooks := .later }
def LmsLeavesCardSaid : Prop := Claim7.holds Tryz.pinned (.plain (OpenSpec.ofChange lmsLeavesSpec)) lmsLeavesCard

/-- THE TIED CARD OF 'tearofflaw13.HssFits'. -/
def hssFitsCard : Claim7 := { stood := { row := hssFitsRow, standIns := [], harness := (true, "ba733b5abd8571c99b1047aef17ff3bb418fcffbae091ebf85b39978d94dbd0d"), looks := true }, kinds := [], alts := [], laidByText := true, laidKinds := [.data, .data, .data, .data, .data, .data, .data, .data], laidTests := true, laidLooks := .later }
def HssFitsCardSaid : Prop := Claim7.holds Tryz.pinned (.plain (OpenSpec.ofChange hssFitsSpec)) hssFitsCard

/-- THE TIED CARD OF 'tearofflaw13.HssSigns'. -/
def hssSignsCard : Claim7 := { stood := { row := hssSignsRow, standIns := [], harness := (true, "ba733b5abd8571c99b1047aef17ff3bb418fcffbae091ebf85b39978d94dbd0d"), looks := true }, kinds := [], alts := [], laidByText := true, laidKinds := [.data, .data, .data, .data, .data, .data, .data, .data], laidTests := true, laidLooks := .later }
def HssSignsCardSaid : Prop := Claim7.holds Tryz.pinned (.plain (OpenSpec.ofChange hssSignsSpec)) hssSignsCard

/-- THE TIED CARD OF 'tearofflaw13.HssOne'. -/
def hssOneCard : Claim7 := { stood := { row := hssOneRow, standIns := [], harness := (true, "ba733b5abd8571c99b1047aef17ff3bb418fcffbae091ebf85b39978d94dbd0d"), looks := true }, kinds := [], alts := [], laidByText := true, laidKinds := [.data, .data, .data, .data, .data, .data, .data, .data], laidTests := true, laidLooks := .later }
def HssOneCardSaid : Prop := Claim7.holds Tryz.pinned (.plain (OpenSpec.ofChange hssOneSpec)) hssOneCard

/-- THE TIED CARD OF 'tearofflaw13.HssKeeps'. -/
def hssKeepsCard : Claim7 := { stood := { row := hssKeepsRow, standIns := [], harness := (true, "ba733b5abd8571c99b1047aef17ff3bb418fcffbae091ebf85b39978d94dbd0d"), looks := true }, kinds := [], alts := [], laidByText := true, laidKinds := [.data, .data, .data, .data, .data, .data, .data, .data], laidTests := true, laidLooks := .later }
def HssKeepsCardSaid : Prop := Claim7.holds Tryz.pinned (.plain (OpenSpec.ofChange hssKeepsSpec)) hssKeepsCard

/-- THE TIED CARD OF 'tearofflaw13.HssLevels'. -/
def hssLevelsCard : Claim7 := { stood := { row := hssLevelsRow, standIns := [], harness := (true, "ba733b5abd8571c99b1047aef17ff3bb418fcffbae091ebf85b39978d94dbd0d"), looks := true }, kinds := [], alts := [], laidByText := true, laidKinds := [.data, .data, .data, .data, .data, .data, .data, .data], laidTests := true, laidLooks := .later }
def HssLevelsCardSaid : Prop := Claim7.holds Tryz.pinned (.plain (OpenSpec.ofChange hssLevelsSpec)) hssLevelsCard

/-- THE SECOND FORM's CARD OF 'tearofflaw12.LmsPairs'. -/
def lmsPairsUptoCard : Claim7 := { stood := { row := lmsPairsUptoRow, standIns := [], harness := (true, "ba733b5abd8571c99b1047aef17ff3bb418fcffbae091ebf85b39978d94dbd0d"), looks := true }, kinds := [], alts := [], laidByText := true, laidKinds := [.data, .data, .data, .data, .data, .data, .data, .data], laidTests := true, laidLooks := .later }
def LmsPairsUptoCardSaid : Prop := Claim7.holds Tryz.pinned (.plain (OpenSpec.upto lmsPairsSpec)) lmsPairsUptoCard

/-- THE SECOND FORM's CARD OF 'tearofflaw12.LmsTakes'. -/
def lmsTakesUptoCard : Claim7 := { stood := { row := lmsTakesUptoRow, standIns := [], harness := (true, "ba733b5abd8571c99b1047aef17ff3bb418fcffbae091ebf85b39978d94dbd0d"), looks := true }, kinds := [], alts := [], laidByText := true, laidKinds := [.data, .data, .data, .data, .data, .data, .data, .data], laidTests := true, laidLooks := .later }
def LmsTakesUptoCardSaid : Prop := Claim7.holds Tryz.pinned (.plain (OpenSpec.upto lmsTakesSpec)) lmsTakesUptoCard

/-- THE SECOND FORM's CARD OF 'tearofflaw13.HssPlaces'. -/
def hssPlacesUptoCard : Claim7 := { stood := { row := hssPlacesUptoRow, standIns := [], harness := (true, "ba733b5abd8571c99b1047aef17ff3bb418fcffbae091ebf85b39978d94dbd0d"), looks := true }, kinds := [], alts := [], laidByText := true, laidKinds := [.data, .data, .data, .data, .data, .data, .data, .data], laidTests := true, laidLooks := .later }
def HssPlacesUptoCardSaid : Prop := Claim7.holds Tryz.pinned (.plain (OpenSpec.upto hssPlacesSpec)) hssPlacesUptoCard

/-- THE SECOND FORM's CARD OF 'tearofflaw12.LmsSigns'. -/
def lmsSignsUptoCard : Claim7 := { stood := { row := lmsSignsUptoRow, standIns := [], harness := (true, "ba733b5abd8571c99b1047aef17ff3bb418fcffbae091ebf85b39978d94dbd0d"), looks := true }, kinds := [], alts := [], laidByText := true, laidKinds := [.data, .data, .data, .data, .data, .data, .data, .data], laidTests := true, laidLooks := .later }
def LmsSignsUptoCardSaid : Prop := Claim7.holds Tryz.pinned (.plain (OpenSpec.upto lmsSignsSpec)) lmsSignsUptoCard

/-- THE SECOND FORM's CARD OF 'tearofflaw12.LmsFits'. -/
def lmsFitsUptoCard : Claim7 := { stood := { row := lmsFitsUptoRow, standIns := [], harness := (true, "ba733b5abd8571c99b1047aef17ff3bb418fcffbae091ebf85b39978d94dbd0d"), looks := true }, kinds := [], alts := [], laidByText := true, laidKinds := [.data, .data, .data, .data, .data, .data, .data, .data], laidTests := true, laidLooks := .later }
def LmsFitsUptoCardSaid : Prop := Claim7.holds Tryz.pinned (.plain (OpenSpec.upto lmsFitsSpec)) lmsFitsUptoCard

/-- THE SECOND FORM's CARD OF 'tearofflaw12.LmsKeeps'. -/
def lmsKeepsUptoCard : Claim7 := { stood := { row := lmsKeepsUptoRow, standIns := [], harness := (true, "ba733b5abd8571c99b1047aef17ff3bb418fcffbae091ebf85b39978d94dbd0d"), looks := true }, kinds := [], alts := [], laidByText := true, laidKinds := [.data, .data, .data, .data, .data, .data, .data, .data], laidTests := true, laidLooks := .later }
def LmsKeepsUptoCardSaid : Prop := Claim7.holds Tryz.pinned (.plain (OpenSpec.upto lmsKeepsSpec)) lmsKeepsUptoCard

/-- THE SECOND FORM's CARD OF 'tearofflaw12.LmsLeaves'. -/
def lmsLeavesUptoCard : Claim7 := { stood := { row := lmsLeavesUptoRow, standIns := [], harness := (true, "ba733b5abd8571c99b1047aef17ff3bb418fcffbae091ebf85b39978d94dbd0d"), looks := true }, kinds := [], alts := [], laidByText := true, laidKinds := [.data, .data, .data, .data, .data, .data, .data, .data], laidTests := true, laidLooks := .later }
def LmsLeavesUptoCardSaid : Prop := Claim7.holds Tryz.pinned (.plain (OpenSpec.upto lmsLeavesSpec)) lmsLeavesUptoCard

/-- THE SECOND FORM's CARD OF 'tearofflaw13.HssFits'. -/
def hssFitsUptoCard : Claim7 := { stood := { row := hssFitsUptoRow, standIns := [], harness := (true, "ba733b5abd8571c99b1047aef17ff3bb418fcffbae091ebf85b39978d94dbd0d"), looks := true }, kinds := [], alts := [], laidByText := true, laidKinds := [.data, .data, .data, .data, .data, .data, .data, .data], laidTests := true, laidLooks := .later }
def HssFitsUptoCardSaid : Prop := Claim7.holds Tryz.pinned (.plain (OpenSpec.upto hssFitsSpec)) hssFitsUptoCard

/-- THE SECOND FORM's CARD OF 'tearofflaw13.HssSigns'. -/
def hssSignsUptoCard : Claim7 := { stood := { row := hssSignsUptoRow, standIns := [], harness := (true, "ba733b5abd8571c99b1047aef17ff3bb418fcffbae091ebf85b39978d94dbd0d"), looks := true }, kinds := [], alts := [], laidByText := true, laidKinds := [.data, .data, .data, .data, .data, .data, .data, .data], laidTests := true, laidLooks := .later }
def HssSignsUptoCardSaid : Prop := Claim7.holds Tryz.pinned (.plain (OpenSpec.upto hssSignsSpec)) hssSignsUptoCard

/-- THE SECOND FORM's CARD OF 'tearofflaw13.HssOne'. -/
def hssOneUptoCard : Claim7 := { stood := { row := hssOneUptoRow, standIns := [], harness := (true, "ba733b5abd8571c99b1047aef17ff3bb418fcffbae091ebf85b39978d94dbd0d"), looks := true }, kinds := [], alts := [], laidByText := true, laidKinds := [.data, .data, .data, .data, .data, .data, .data, .data], laidTests := true, laidLooks := .later }
def HssOneUptoCardSaid : Prop := Claim7.holds Tryz.pinned (.plain (OpenSpec.upto hssOneSpec)) hssOneUptoCard

/-- THE SECOND FORM's CARD OF 'tearofflaw13.HssKeeps'. -/
def hssKeepsUptoCard : Claim7 := { stood := { row := hssKeepsUptoRow, standIns := [], harness := (true, "ba733b5abd8571c99b1047aef17ff3bb418fcffbae091ebf85b39978d94dbd0d"), looks := true }, kinds := [], alts := [], laidByText := true, laidKinds := [.data, .data, .data, .data, .data, .data, .data, .data], laidTests := true, laidLooks := .later }
def HssKeepsUptoCardSaid : Prop := Claim7.holds Tryz.pinned (.plain (OpenSpec.upto hssKeepsSpec)) hssKeepsUptoCard

/-- THE SECOND FORM's CARD OF 'tearofflaw13.HssLevels'. -/
def hssLevelsUptoCard : Claim7 := { stood := { row := hssLevelsUptoRow, standIns := [], harness := (true, "ba733b5abd8571c99b1047aef17ff3bb418fcffbae091ebf85b39978d94dbd0d"), looks := true }, kinds := [], alts := [], laidByText := true, laidKinds := [.data, .data, .data, .data, .data, .data, .data, .data], laidTests := true, laidLooks := .later }
def HssLevelsUptoCardSaid : Prop := Claim7.holds Tryz.pinned (.plain (OpenSpec.upto hssLevelsSpec)) hssLevelsUptoCard
end Rows
end Go.Proofs.YtiimjodbaogjbaaGreatDoor
