/-
  DERIVED. GIVEN WITH THE SEED: THE CARDS: each row of YtgpjbjbdfkiklaaDoorRows.lean that lists a variable, with what it lists TIED to the program's text (the seventh form; the later family's looks); each row that meets fmt, with fmt's text TOLD by the authors' own Lean function (tested against real Go, not proved from fmt's source: count such statements apart). THE CARD IS WHAT COUNTS. Prove the row's statement (the work); the ties are given (YtgpjbjbdfkiklaaDoorTie.lean); close each card by the builder's one call (the guide's Derived/Test/ToyasCard.lean, 'card_holds'). Laid BY PROGRAM, IN A SANDBOX (cutbox-door.mjs). By AI agents, Wed Nov 11 2026. No macro, syntax, notation, axiom, sorry.
-/
import Derived.Test.YtgpjbjbdfkiklaaDoorRows
import GoSem.ClaimSeven
namespace Go.Proofs.YtgpjbjbdfkiklaaDoor
namespace Rows

/-- THE TIED CARD OF 'tearofflaw09.ChainSums'. -/
def chainSumsCard : Claim7 := { stood := { row := chainSumsRow, standIns := [], harness := (true, "7f633162cbd323e549509ad0ba5008ef1c075d6ddd1c0ff0532b0fcf7d00cf03"), looks := true }, kinds := [], alts := [], laidByText := true, laidKinds := [.data, .data, .data, .data, .data, .data], laidTests := true, laidLooks := .later }
def ChainSumsCardSaid : Prop := Claim7.holds Tryd.pinned (.plain (OpenSpec.ofChange chainSumsSpec)) chainSumsCard

/-- THE TIED CARD OF 'tearofflaw09.ChainSteps'. -/
def chainStepsCard : Claim7 := { stood := { row := chainStepsRow, standIns := [], harness := (true, "7f633162cbd323e549509ad0ba5008ef1c075d6ddd1c0ff0532b0fcf7d00cf03"), looks := true }, kinds := [], alts := [], laidByText := true, laidKinds := [.data, .data, .data, .data, .data, .data], laidTests := true, laidLooks := .later }
def ChainStepsCardSaid : Prop := Claim7.holds Tryd.pinned (.plain (OpenSpec.ofChange chainStepsSpec)) chainStepsCard

/-- THE TIED CARD OF 'tearofflaw09.ChainOn'. -/
def chainOnCard : Claim7 := { stood := { row := chainOnRow, standIns := [], harness := (true, "7f633162cbd323e549509ad0ba5008ef1c075d6ddd1c0ff0532b0fcf7d00cf03"), looks := true }, kinds := [], alts := [], laidByText := true, laidKinds := [.data, .data, .data, .data, .data, .data], laidTests := true, laidLooks := .later }
def ChainOnCardSaid : Prop := Claim7.holds Tryd.pinned (.plain (OpenSpec.ofChange chainOnSpec)) chainOnCard

/-- THE TIED CARD OF 'tearofflaw09.ChainKinds'. -/
def chainKindsCard : Claim7 := { stood := { row := chainKindsRow, standIns := [], harness := (true, "7f633162cbd323e549509ad0ba5008ef1c075d6ddd1c0ff0532b0fcf7d00cf03"), looks := true }, kinds := [], alts := [], laidByText := true, laidKinds := [.data, .data, .data, .data, .data, .data], laidTests := true, laidLooks := .later }
def ChainKindsCardSaid : Prop := Claim7.holds Tryd.pinned (.plain (OpenSpec.ofChange chainKindsSpec)) chainKindsCard

/-- THE TIED CARD OF 'tearofflaw09.ChainOnes'. -/
def chainOnesCard : Claim7 := { stood := { row := chainOnesRow, standIns := [], harness := (true, "7f633162cbd323e549509ad0ba5008ef1c075d6ddd1c0ff0532b0fcf7d00cf03"), looks := true }, kinds := [], alts := [], laidByText := true, laidKinds := [.data, .data, .data, .data, .data, .data], laidTests := true, laidLooks := .later }
def ChainOnesCardSaid : Prop := Claim7.holds Tryd.pinned (.plain (OpenSpec.ofChange chainOnesSpec)) chainOnesCard

/-- THE TIED CARD OF 'tearofflaw11.MerkleMakes'. -/
def merkleMakesCard : Claim7 := { stood := { row := merkleMakesRow, standIns := [], harness := (true, "7f633162cbd323e549509ad0ba5008ef1c075d6ddd1c0ff0532b0fcf7d00cf03"), looks := true }, kinds := [], alts := [], laidByText := true, laidKinds := [.data, .data, .data, .data, .data, .data, .data], laidTests := true, laidLooks := .later }
def MerkleMakesCardSaid : Prop := Claim7.holds Tryd.pinned (.plain (OpenSpec.ofChange merkleMakesSpec)) merkleMakesCard

/-- THE TIED CARD OF 'tearofflaw11.MerkleClimbs'. -/
def merkleClimbsCard : Claim7 := { stood := { row := merkleClimbsRow, standIns := [], harness := (true, "7f633162cbd323e549509ad0ba5008ef1c075d6ddd1c0ff0532b0fcf7d00cf03"), looks := true }, kinds := [], alts := [], laidByText := true, laidKinds := [.data, .data, .data, .data, .data, .data, .data], laidTests := true, laidLooks := .later }
def MerkleClimbsCardSaid : Prop := Claim7.holds Tryd.pinned (.plain (OpenSpec.ofChange merkleClimbsSpec)) merkleClimbsCard

/-- THE TIED CARD OF 'tearofflaw11.MerkleLeads'. -/
def merkleLeadsCard : Claim7 := { stood := { row := merkleLeadsRow, standIns := [], harness := (true, "7f633162cbd323e549509ad0ba5008ef1c075d6ddd1c0ff0532b0fcf7d00cf03"), looks := true }, kinds := [], alts := [], laidByText := true, laidKinds := [.data, .data, .data, .data, .data, .data, .data], laidTests := true, laidLooks := .later }
def MerkleLeadsCardSaid : Prop := Claim7.holds Tryd.pinned (.plain (OpenSpec.ofChange merkleLeadsSpec)) merkleLeadsCard

/-- THE TIED CARD OF 'tearofflaw11.MerkleHalves'. -/
def merkleHalvesCard : Claim7 := { stood := { row := merkleHalvesRow, standIns := [], harness := (true, "7f633162cbd323e549509ad0ba5008ef1c075d6ddd1c0ff0532b0fcf7d00cf03"), looks := true }, kinds := [], alts := [], laidByText := true, laidKinds := [.data, .data, .data, .data, .data, .data, .data], laidTests := true, laidLooks := .later }
def MerkleHalvesCardSaid : Prop := Claim7.holds Tryd.pinned (.plain (OpenSpec.ofChange merkleHalvesSpec)) merkleHalvesCard

/-- THE SECOND FORM's CARD OF 'tearofflaw09.ChainSums'. -/
def chainSumsUptoCard : Claim7 := { stood := { row := chainSumsUptoRow, standIns := [], harness := (true, "7f633162cbd323e549509ad0ba5008ef1c075d6ddd1c0ff0532b0fcf7d00cf03"), looks := true }, kinds := [], alts := [], laidByText := true, laidKinds := [.data, .data, .data, .data, .data, .data], laidTests := true, laidLooks := .later }
def ChainSumsUptoCardSaid : Prop := Claim7.holds Tryd.pinned (.plain (OpenSpec.upto chainSumsSpec)) chainSumsUptoCard

/-- THE SECOND FORM's CARD OF 'tearofflaw09.ChainSteps'. -/
def chainStepsUptoCard : Claim7 := { stood := { row := chainStepsUptoRow, standIns := [], harness := (true, "7f633162cbd323e549509ad0ba5008ef1c075d6ddd1c0ff0532b0fcf7d00cf03"), looks := true }, kinds := [], alts := [], laidByText := true, laidKinds := [.data, .data, .data, .data, .data, .data], laidTests := true, laidLooks := .later }
def ChainStepsUptoCardSaid : Prop := Claim7.holds Tryd.pinned (.plain (OpenSpec.upto chainStepsSpec)) chainStepsUptoCard

/-- THE SECOND FORM's CARD OF 'tearofflaw09.ChainOn'. -/
def chainOnUptoCard : Claim7 := { stood := { row := chainOnUptoRow, standIns := [], harness := (true, "7f633162cbd323e549509ad0ba5008ef1c075d6ddd1c0ff0532b0fcf7d00cf03"), looks := true }, kinds := [], alts := [], laidByText := true, laidKinds := [.data, .data, .data, .data, .data, .data], laidTests := true, laidLooks := .later }
def ChainOnUptoCardSaid : Prop := Claim7.holds Tryd.pinned (.plain (OpenSpec.upto chainOnSpec)) chainOnUptoCard

/-- THE SECOND FORM's CARD OF 'tearofflaw09.ChainKinds'. -/
def chainKindsUptoCard : Claim7 := { stood := { row := chainKindsUptoRow, standIns := [], harness := (true, "7f633162cbd323e549509ad0ba5008ef1c075d6ddd1c0ff0532b0fcf7d00cf03"), looks := true }, kinds := [], alts := [], laidByText := true, laidKinds := [.data, .data, .data, .data, .data, .data], laidTests := true, laidLooks := .later }
def ChainKindsUptoCardSaid : Prop := Claim7.holds Tryd.pinned (.plain (OpenSpec.upto chainKindsSpec)) chainKindsUptoCard

/-- THE SECOND FORM's CARD OF 'tearofflaw09.ChainOnes'. -/
def chainOnesUptoCard : Claim7 := { stood := { row := chainOnesUptoRow, standIns := [], harness := (true, "7f633162cbd323e549509ad0ba5008ef1c075d6ddd1c0ff0532b0fcf7d00cf03"), looks := true }, kinds := [], alts := [], laidByText := true, laidKinds := [.data, .data, .data, .data, .data, .data], laidTests := true, laidLooks := .later }
def ChainOnesUptoCardSaid : Prop := Claim7.holds Tryd.pinned (.plain (OpenSpec.upto chainOnesSpec)) chainOnesUptoCard

/-- THE SECOND FORM's CARD OF 'tearofflaw11.MerkleMakes'. -/
def merkleMakesUptoCard : Claim7 := { stood := { row := merkleMakesUptoRow, standIns := [], harness := (true, "7f633162cbd323e549509ad0ba5008ef1c075d6ddd1c0ff0532b0fcf7d00cf03"), looks := true }, kinds := [], alts := [], laidByText := true, laidKinds := [.data, .data, .data, .data, .data, .data, .data], laidTests := true, laidLooks := .later }
def MerkleMakesUptoCardSaid : Prop := Claim7.holds Tryd.pinned (.plain (OpenSpec.upto merkleMakesSpec)) merkleMakesUptoCard

/-- THE SECOND FORM's CARD OF 'tearofflaw11.MerkleClimbs'. -/
def merkleClimbsUptoCard : Claim7 := { stood := { row := merkleClimbsUptoRow, standIns := [], harness := (true, "7f633162cbd323e549509ad0ba5008ef1c075d6ddd1c0ff0532b0fcf7d00cf03"), looks := true }, kinds := [], alts := [], laidByText := true, laidKinds := [.data, .data, .data, .data, .data, .data, .data], laidTests := true, laidLooks := .later }
def MerkleClimbsUptoCardSaid : Prop := Claim7.holds Tryd.pinned (.plain (OpenSpec.upto merkleClimbsSpec)) merkleClimbsUptoCard

/-- THE SECOND FORM's CARD OF 'tearofflaw11.MerkleLeads'. -/
def merkleLeadsUptoCard : Claim7 := { stood := { row := merkleLeadsUptoRow, standIns := [], harness := (true, "7f633162cbd323e549509ad0ba5008ef1c075d6ddd1c0ff0532b0fcf7d00cf03"), looks := true }, kinds := [], alts := [], laidByText := true, laidKinds := [.data, .data, .data, .data, .data, .data, .data], laidTests := true, laidLooks := .later }
def MerkleLeadsUptoCardSaid : Prop := Claim7.holds Tryd.pinned (.plain (OpenSpec.upto merkleLeadsSpec)) merkleLeadsUptoCard

/-- THE SECOND FORM's CARD OF 'tearofflaw11.MerkleHalves'. -/
def merkleHalvesUptoCard : Claim7 := { stood := { row := merkleHalvesUptoRow, standIns := [], harness := (true, "7f633162cbd323e549509ad0ba5008ef1c075d6ddd1c0ff0532b0fcf7d00cf03"), looks := true }, kinds := [], alts := [], laidByText := true, laidKinds := [.data, .data, .data, .data, .data, .data, .data], laidTests := true, laidLooks := .later }
def MerkleHalvesUptoCardSaid : Prop := Claim7.holds Tryd.pinned (.plain (OpenSpec.upto merkleHalvesSpec)) merkleHalvesUptoCard
end Rows
end Go.Proofs.YtgpjbjbdfkiklaaDoor
