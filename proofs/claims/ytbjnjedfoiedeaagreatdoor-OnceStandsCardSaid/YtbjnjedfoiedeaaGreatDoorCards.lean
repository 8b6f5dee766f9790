/-
  DERIVED. GIVEN WITH THE SEED: THE CARDS: each row of YtbjnjedfoiedeaaGreatDoorRows.lean that lists a variable, with what it lists TIED to the program's text (the seventh form; the later family's looks); each row that meets fmt, with fmt's text TOLD by the authors' own Lean function (tested against real Go, not proved from fmt's source: count such statements apart). THE CARD IS WHAT COUNTS. Prove the row's statement (the work); the ties are given (YtbjnjedfoiedeaaGreatDoorTie.lean); close each card by the builder's one call (the guide's Derived/Test/ToyasCard.lean, 'card_holds'). Laid BY PROGRAM, IN A SANDBOX (cutbox-door.mjs). By AI agents, Wed Nov 11 2026. No macro, syntax, notation, axiom, sorry.
-/
import Derived.Test.YtbjnjedfoiedeaaGreatDoorRows
import GoSem.ClaimSeven
namespace Go.Proofs.YtbjnjedfoiedeaaGreatDoor
namespace Rows

/-- THE TIED CARD OF 'tearofflaw10.OnceStands'. -/
def onceStandsCard : Claim7 := { stood := { row := onceStandsRow, standIns := [], harness := (true, "9111f48c71dd4668b42cf7083d92a6f69aae476ac9a2fc089b6771e20f031570"), looks := true }, kinds := [], alts := [], laidByText := true, laidKinds := [.data, .data, .data, .data, .data, .data], laidTests := true, laidLooks := .later }
def OnceStandsCardSaid : Prop := Claim7.holds Tryz.pinned (.plain (OpenSpec.ofChange onceStandsSpec)) onceStandsCard

/-- THE TIED CARD OF 'tearofflaw10.OnceSigns'. -/
def onceSignsCard : Claim7 := { stood := { row := onceSignsRow, standIns := [], harness := (true, "9111f48c71dd4668b42cf7083d92a6f69aae476ac9a2fc089b6771e20f031570"), looks := true }, kinds := [], alts := [], laidByText := true, laidKinds := [.data, .data, .data, .data, .data, .data], laidTests := true, laidLooks := .later }
def OnceSignsCardSaid : Prop := Claim7.holds Tryz.pinned (.plain (OpenSpec.ofChange onceSignsSpec)) onceSignsCard

/-- THE SECOND FORM's CARD OF 'tearofflaw10.OnceStands'. -/
def onceStandsUptoCard : Claim7 := { stood := { row := onceStandsUptoRow, standIns := [], harness := (true, "9111f48c71dd4668b42cf7083d92a6f69aae476ac9a2fc089b6771e20f031570"), looks := true }, kinds := [], alts := [], laidByText := true, laidKinds := [.data, .data, .data, .data, .data, .data], laidTests := true, laidLooks := .later }
def OnceStandsUptoCardSaid : Prop := Claim7.holds Tryz.pinned (.plain (OpenSpec.upto onceStandsSpec)) onceStandsUptoCard

/-- THE SECOND FORM's CARD OF 'tearofflaw10.OnceSigns'. -/
def onceSignsUptoCard : Claim7 := { stood := { row := onceSignsUptoRow, standIns := [], harness := (true, "9111f48c71dd4668b42cf7083d92a6f69aae476ac9a2fc089b6771e20f031570"), looks := true }, kinds := [], alts := [], laidByText := true, laidKinds := [.data, .data, .data, .data, .data, .data], laidTests := true, laidLooks := .later }
def OnceSignsUptoCardSaid : Prop := Claim7.holds Tryz.pinned (.plain (OpenSpec.upto onceSignsSpec)) onceSignsUptoCard
end Rows
end Go.Proofs.YtbjnjedfoiedeaaGreatDoor
