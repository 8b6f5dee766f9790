/-
  DERIVED. GIVEN WITH THE SEED: THE CARDS: each row of YtbjnjedfoiedeaaDoorRows.lean that lists a variable, with what it lists TIED to the program's text (the seventh form; the later family's looks); each row that meets fmt, with fmt's text TOLD by the authors' own Lean function (tested against real Go, not proved from fmt's source: count such statements apart). THE CARD IS WHAT COUNTS. Prove the row's statement (the work); the ties are given (YtbjnjedfoiedeaaDoorTie.lean); close each card by the builder's one call (the guide's Derived/Test/ToyasCard.lean, 'card_holds'). Laid BY PROGRAM, IN A SANDBOX (cutbox-door.mjs). By AI agents, Wed Nov 11 2026. No macro, syntax, notation, axiom, sorry.
-/
import Derived.Test.YtbjnjedfoiedeaaDoorRows
import GoSem.ClaimSeven
namespace Go.Proofs.YtbjnjedfoiedeaaDoor
namespace Rows

/-- THE TIED CARD OF 'tearofflaw24.WalkTells'. -/
def walkTellsCard : Claim7 := { stood := { row := walkTellsRow, standIns := [], harness := (true, "e4dcafea6cf1ff2fbc6700241b480db59dd2630d8a2762f0952202dfaafc3c29"), looks := true }, kinds := [], alts := [], laidByText := true, laidKinds := [.data, .data, .data, .data, .data, .data, .data, .data], laidTests := true, laidLooks := .later }
def WalkTellsCardSaid : Prop := Claim7.holds Tryd.pinned (.plain (OpenSpec.ofChange walkTellsSpec)) walkTellsCard

/-- THE TIED CARD OF 'tearofflaw24.WalkChanges'. -/
def walkChangesCard : Claim7 := { stood := { row := walkChangesRow, standIns := [], harness := (true, "e4dcafea6cf1ff2fbc6700241b480db59dd2630d8a2762f0952202dfaafc3c29"), looks := true }, kinds := [], alts := [], laidByText := true, laidKinds := [.data, .data, .data, .data, .data, .data, .data, .data], laidTests := true, laidLooks := .later }
def WalkChangesCardSaid : Prop := Claim7.holds Tryd.pinned (.plain (OpenSpec.ofChange walkChangesSpec)) walkChangesCard

/-- THE TIED CARD OF 'tearofflaw24.WalkMay'. -/
def walkMayCard : Claim7 := { stood := { row := walkMayRow, standIns := [], harness := (true, "e4dcafea6cf1ff2fbc6700241b480db59dd2630d8a2762f0952202dfaafc3c29"), looks := true }, kinds := [], alts := [], laidByText := true, laidKinds := [.data, .data, .data, .data, .data, .data, .data, .data], laidTests := true, laidLooks := .later }
def WalkMayCardSaid : Prop := Claim7.holds Tryd.pinned (.plain (OpenSpec.ofChange walkMaySpec)) walkMayCard

/-- THE TIED CARD OF 'tearofflaw24.WalkAgain'. -/
def walkAgainCard : Claim7 := { stood := { row := walkAgainRow, standIns := [], harness := (true, "e4dcafea6cf1ff2fbc6700241b480db59dd2630d8a2762f0952202dfaafc3c29"), looks := true }, kinds := [], alts := [], laidByText := true, laidKinds := [.data, .data, .data, .data, .data, .data, .data, .data], laidTests := true, laidLooks := .later }
def WalkAgainCardSaid : Prop := Claim7.holds Tryd.pinned (.plain (OpenSpec.ofChange walkAgainSpec)) walkAgainCard

/-- THE TIED CARD OF 'tearofflaw24.WalkAll'. -/
def walkAllCard : Claim7 := { stood := { row := walkAllRow, standIns := [], harness := (true, "e4dcafea6cf1ff2fbc6700241b480db59dd2630d8a2762f0952202dfaafc3c29"), looks := true }, kinds := [], alts := [], laidByText := true, laidKinds := [.data, .data, .data, .data, .data, .data, .data, .data], laidTests := true, laidLooks := .later }
def WalkAllCardSaid : Prop := Claim7.holds Tryd.pinned (.plain (OpenSpec.ofChange walkAllSpec)) walkAllCard

/-- THE TIED CARD OF 'tearofflaw10.OnceKeeps'. -/
def onceKeepsCard : Claim7 := { stood := { row := onceKeepsRow, standIns := [], harness := (true, "e4dcafea6cf1ff2fbc6700241b480db59dd2630d8a2762f0952202dfaafc3c29"), looks := true }, kinds := [], alts := [], laidByText := true, laidKinds := [.data, .data, .data, .data, .data, .data], laidTests := true, laidLooks := .later }
def OnceKeepsCardSaid : Prop := Claim7.holds Tryd.pinned (.plain (OpenSpec.ofChange onceKeepsSpec)) onceKeepsCard

/-- THE TIED CARD OF 'tearofflaw10.OnceCodes'. -/
def onceCodesCard : Claim7 := { stood := { row := onceCodesRow, standIns := [], harness := (true, "e4dcafea6cf1ff2fbc6700241b480db59dd2630d8a2762f0952202dfaafc3c29"), looks := true }, kinds := [], alts := [], laidByText := true, laidKinds := [.data, .data, .data, .data, .data, .data], laidTests := true, laidLooks := .later }
def OnceCodesCardSaid : Prop := Claim7.holds Tryd.pinned (.plain (OpenSpec.ofChange onceCodesSpec)) onceCodesCard

/-- THE TIED CARD OF 'tearofflaw10.OnceRows'. -/
def onceRowsCard : Claim7 := { stood := { row := onceRowsRow, standIns := [], harness := (true, "e4dcafea6cf1ff2fbc6700241b480db59dd2630d8a2762f0952202dfaafc3c29"), looks := true }, kinds := [], alts := [], laidByText := true, laidKinds := [.data, .data, .data, .data, .data, .data], laidTests := true, laidLooks := .later }
def OnceRowsCardSaid : Prop := Claim7.holds Tryd.pinned (.plain (OpenSpec.ofChange onceRowsSpec)) onceRowsCard

/-- THE SECOND FORM's CARD OF 'tearofflaw24.WalkTells'. -/
def walkTellsUptoCard : Claim7 := { stood := { row := walkTellsUptoRow, standIns := [], harness := (true, "e4dcafea6cf1ff2fbc6700241b480db59dd2630d8a2762f0952202dfaafc3c29"), looks := true }, kinds := [], alts := [], laidByText := true, laidKinds := [.data, .data, .data, .data, .data, .data, .data, .data], laidTests := true, laidLooks := .later }
def WalkTellsUptoCardSaid : Prop := Claim7.holds Tryd.pinned (.plain (OpenSpec.upto walkTellsSpec)) walkTellsUptoCard

/-- THE SECOND FORM's CARD OF 'tearofflaw24.WalkChanges'. -/
def walkChangesUptoCard : Claim7 := { stood := { row := walkChangesUptoRow, standIns := [], harness := (true, "e4dcafea6cf1ff2fbc6700241b480db59dd2630d8a2762f0952202dfaafc3c29"), looks := true }, kinds := [], alts := [], laidByText := true, laidKinds := [.data, .data, .data, .data, .data, .data, .data, .data], laidTests := true, laidLooks := .later }
def WalkChangesUptoCardSaid : Prop := Claim7.holds Tryd.pinned (.plain (OpenSpec.upto walkChangesSpec)) walkChangesUptoCard

/-- THE SECOND FORM's CARD OF 'tearofflaw24.WalkMay'. -/
def walkMayUptoCard : Claim7 := { stood := { row := walkMayUptoRow, standIns := [], harness := (true, "e4dcafea6cf1ff2fbc6700241b480db59dd2630d8a2762f0952202dfaafc3c29"), looks := true }, kinds := [], alts := [], laidByText := true, laidKinds := [.data, .data, .data, .data, .data, .data, .data, .data], laidTests := true, laidLooks := .later }
def WalkMayUptoCardSaid : Prop := Claim7.holds Tryd.pinned (.plain (OpenSpec.upto walkMaySpec)) walkMayUptoCard

/-- THE SECOND FORM's CARD OF 'tearofflaw24.WalkAgain'. -/
def walkAgainUptoCard : Claim7 := { stood := { row := walkAgainUptoRow, standIns := [], harness := (true, "e4dcafea6cf1ff2fbc6700241b480db59dd2630d8a2762f0952202dfaafc3c29"), looks := true }, kinds := [], alts := [], laidByText := true, laidKinds := [.data, .data, .data, .data, .data, .data, .data, .data], laidTests := true, laidLooks := .later }
def WalkAgainUptoCardSaid : Prop := Claim7.holds Tryd.pinned (.plain (OpenSpec.upto walkAgainSpec)) walkAgainUptoCard

/-- THE SECOND FORM's CARD OF 'tearofflaw24.WalkAll'. -/
def walkAllUptoCard : Claim7 := { stood := { row := walkAllUptoRow, standIns := [], harness := (true, "e4dcafea6cf1ff2fbc6700241b480db59dd2630d8a2762f0952202dfaafc3c29"), looks := true }, kinds := [], alts := [], laidByText := true, laidKinds := [.data, .data, .data, .data, .data, .data, .data, .data], laidTests := true, laidLooks := .later }
def WalkAllUptoCardSaid : Prop := Claim7.holds Tryd.pinned (.plain (OpenSpec.upto walkAllSpec)) walkAllUptoCard

/-- THE SECOND FORM's CARD OF 'tearofflaw10.OnceKeeps'. -/
def onceKeepsUptoCard : Claim7 := { stood := { row := onceKeepsUptoRow, standIns := [], harness := (true, "e4dcafea6cf1ff2fbc6700241b480db59dd2630d8a2762f0952202dfaafc3c29"), looks := true }, kinds := [], alts := [], laidByText := true, laidKinds := [.data, .data, .data, .data, .data, .data], laidTests := true, laidLooks := .later }
def OnceKeepsUptoCardSaid : Prop := Claim7.holds Tryd.pinned (.plain (OpenSpec.upto onceKeepsSpec)) onceKeepsUptoCard

/-- THE SECOND FORM's CARD OF 'tearofflaw10.OnceCodes'. -/
def onceCodesUptoCard : Claim7 := { stood := { row := onceCodesUptoRow, standIns := [], harness := (true, "e4dcafea6cf1ff2fbc6700241b480db59dd2630d8a2762f0952202dfaafc3c29"), looks := true }, kinds := [], alts := [], laidByText := true, laidKinds := [.data, .data, .data, .data, .data, .data], laidTests := true, laidLooks := .later }
def OnceCodesUptoCardSaid : Prop := Claim7.holds Tryd.pinned (.plain (OpenSpec.upto onceCodesSpec)) onceCodesUptoCard

/-- THE SECOND FORM's CARD OF 'tearofflaw10.OnceRows'. -/
def onceRowsUptoCard : Claim7 := { stood := { row := onceRowsUptoRow, standIns := [], harness := (true, "e4dcafea6cf1ff2fbc6700241b480db59dd2630d8a2762f0952202dfaafc3c29"), looks := true }, kinds := [], alts := [], laidByText := true, laidKinds := [.data, .data, .data, .data, .data, .data], laidTests := true, laidLooks := .later }
def OnceRowsUptoCardSaid : Prop := Claim7.holds Tryd.pinned (.plain (OpenSpec.upto onceRowsSpec)) onceRowsUptoCard
end Rows
end Go.Proofs.YtbjnjedfoiedeaaDoor
