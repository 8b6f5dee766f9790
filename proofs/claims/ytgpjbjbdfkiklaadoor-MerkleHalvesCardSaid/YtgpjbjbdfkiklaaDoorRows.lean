/-
  NARROWER THAN 'FOR EVERY INPUT', by the rows' own cells (each row's printed sentence says how): ChainSums: laid · ChainSteps: laid · ChainOn: laid · ChainKinds: laid · ChainOnes: laid · MerkleMakes: laid · MerkleClimbs: laid · MerkleLeads: laid · MerkleHalves: laid.
  DERIVED. THE GIVEN ROWS OF THIS SEAT. 9 by the template 'for every input the law returns true; each argument reads behind the call as it read before'; 0 by the template 'total and deterministic' (their statements: YtgpjbjbdfkiklaaDoorTotals.lean).
  GIVEN WITH THE SEED: the statements are not yours to turn. If you find one false, say at which input.
  Laid BY PROGRAM, IN A SANDBOX (cutbox-rows.mjs): the forced cells as the released guide's own fill.sh prints them over the translation 950bc3d904187499… (all of the seat's roots in one cut). By AI agents, Wed Nov 11 2026. No macro, syntax, notation, axiom, sorry.
-/
import Derived.Test.YtgpjbjbdfkiklaaDoorChecked
import GoSem.Claim
import GoSem.ClaimJoined
import GoSem.ClaimMapViews
import Derived.JoinedTies
import Derived.KernelRfl
namespace Go.Proofs.YtgpjbjbdfkiklaaDoor
/- THE CELL 'sum', in the pinned program and in every row, IS THE sha256 OF THE DUMP (.gsa) THAT YtgpjbjbdfkiklaaDoorProg.lean LOADS. Nothing in Lean hashes anything: it is a label: what it is worth is what the hold of that sum in a sandbox is worth. -/
noncomputable def Tryd.pinned : Pinned := { name := "ytgpjbjbdfkiklaadoor", sum := "950bc3d9041874993e2b7968f7448eb298eb3f23636be77f117f896f4eefd3fc", checked := Tryd.checked }
namespace Rows
def none {H : Type} : Left H := { results := [], args := [] }

/- WHAT THE LISTED PACKAGE-LEVEL VARIABLES READ AS WHEN THE CALL BEGINS. Each datum BY PROGRAM (the guide's laid-datum.mjs) off the statement by which the dump's own 'gosem.cut.vars' lays the variable. In a bare row this is a premise. The card (YtgpjbjbdfkiklaaDoorCards.lean) ties it to the program's text. -/
def laid_tearoff_keccak_rc {H : Type} : DataW H := .agg [.lit (.int .u64 1), .lit (.int .u64 32898), .lit (.int .u64 9223372036854808714), .lit (.int .u64 9223372039002292224), .lit (.int .u64 32907), .lit (.int .u64 2147483649), .lit (.int .u64 9223372039002292353), .lit (.int .u64 9223372036854808585), .lit (.int .u64 138), .lit (.int .u64 136), .lit (.int .u64 2147516425), .lit (.int .u64 2147483658), .lit (.int .u64 2147516555), .lit (.int .u64 9223372036854775947), .lit (.int .u64 9223372036854808713), .lit (.int .u64 9223372036854808579), .lit (.int .u64 9223372036854808578), .lit (.int .u64 9223372036854775936), .lit (.int .u64 32778), .lit (.int .u64 9223372039002259466), .lit (.int .u64 9223372039002292353), .lit (.int .u64 9223372036854808704), .lit (.int .u64 2147483649), .lit (.int .u64 9223372039002292232)]
def laid_tearoff_keccak_turns {H : Type} : DataW H := .agg [.lit (.int .i64 0), .lit (.int .i64 1), .lit (.int .i64 62), .lit (.int .i64 28), .lit (.int .i64 27), .lit (.int .i64 36), .lit (.int .i64 44), .lit (.int .i64 6), .lit (.int .i64 55), .lit (.int .i64 20), .lit (.int .i64 3), .lit (.int .i64 10), .lit (.int .i64 43), .lit (.int .i64 25), .lit (.int .i64 39), .lit (.int .i64 41), .lit (.int .i64 45), .lit (.int .i64 15), .lit (.int .i64 21), .lit (.int .i64 8), .lit (.int .i64 18), .lit (.int .i64 2), .lit (.int .i64 61), .lit (.int .i64 56), .lit (.int .i64 14)]
def laid_tearoff_sets_sums {H : Type} : DataW H := .agg [.agg [.lit (.int .i64 0), .lit (.int .i64 32)], .agg [.lit (.int .i64 0), .lit (.int .i64 24)], .agg [.lit (.int .i64 1), .lit (.int .i64 32)], .agg [.lit (.int .i64 1), .lit (.int .i64 24)]]
def laid_tearoff_sets_widths {H : Type} : DataW H := .agg [.lit (.int .i64 1), .lit (.int .i64 2), .lit (.int .i64 4), .lit (.int .i64 8)]
def laid_tearoff_sha2_k {H : Type} : DataW H := .agg [.lit (.int .u32 1116352408), .lit (.int .u32 1899447441), .lit (.int .u32 3049323471), .lit (.int .u32 3921009573), .lit (.int .u32 961987163), .lit (.int .u32 1508970993), .lit (.int .u32 2453635748), .lit (.int .u32 2870763221), .lit (.int .u32 3624381080), .lit (.int .u32 310598401), .lit (.int .u32 607225278), .lit (.int .u32 1426881987), .lit (.int .u32 1925078388), .lit (.int .u32 2162078206), .lit (.int .u32 2614888103), .lit (.int .u32 3248222580), .lit (.int .u32 3835390401), .lit (.int .u32 4022224774), .lit (.int .u32 264347078), .lit (.int .u32 604807628), .lit (.int .u32 770255983), .lit (.int .u32 1249150122), .lit (.int .u32 1555081692), .lit (.int .u32 1996064986), .lit (.int .u32 2554220882), .lit (.int .u32 2821834349), .lit (.int .u32 2952996808), .lit (.int .u32 3210313671), .lit (.int .u32 3336571891), .lit (.int .u32 3584528711), .lit (.int .u32 113926993), .lit (.int .u32 338241895), .lit (.int .u32 666307205), .lit (.int .u32 773529912), .lit (.int .u32 1294757372), .lit (.int .u32 1396182291), .lit (.int .u32 1695183700), .lit (.int .u32 1986661051), .lit (.int .u32 2177026350), .lit (.int .u32 2456956037), .lit (.int .u32 2730485921), .lit (.int .u32 2820302411), .lit (.int .u32 3259730800), .lit (.int .u32 3345764771), .lit (.int .u32 3516065817), .lit (.int .u32 3600352804), .lit (.int .u32 4094571909), .lit (.int .u32 275423344), .lit (.int .u32 430227734), .lit (.int .u32 506948616), .lit (.int .u32 659060556), .lit (.int .u32 883997877), .lit (.int .u32 958139571), .lit (.int .u32 1322822218), .lit (.int .u32 1537002063), .lit (.int .u32 1747873779), .lit (.int .u32 1955562222), .lit (.int .u32 2024104815), .lit (.int .u32 2227730452), .lit (.int .u32 2361852424), .lit (.int .u32 2428436474), .lit (.int .u32 2756734187), .lit (.int .u32 3204031479), .lit (.int .u32 3329325298)]
def laid_tearoff_sha2_first {H : Type} : DataW H := .agg [.lit (.int .u32 1779033703), .lit (.int .u32 3144134277), .lit (.int .u32 1013904242), .lit (.int .u32 2773480762), .lit (.int .u32 1359893119), .lit (.int .u32 2600822924), .lit (.int .u32 528734635), .lit (.int .u32 1541459225)]
def laid_tearoff_sets_heights {H : Type} : DataW H := .agg [.lit (.int .i64 5), .lit (.int .i64 10), .lit (.int .i64 15), .lit (.int .i64 20), .lit (.int .i64 25)]
def laid_tearoff_sets_own {H : Type} : DataW H := .agg [.lit (.int .i64 1), .lit (.int .i64 2), .lit (.int .i64 3), .lit (.int .i64 4)]

/-- 'tearofflaw09.ChainSums': WHATEVER THE INPUT: true; the input reads as it did. -/
def chainSumsSpec : ChangeSpec := { name := "chainSums", fn := fun _ => fun
  | [d1, d2, d3] => { results := [.lit (.bool true)], args := [d1, d2, d3] }
  | _ => none }
def chainSumsRow : OpenClaim := { program := "ytgpjbjbdfkiklaadoor", sum := "950bc3d9041874993e2b7968f7448eb298eb3f23636be77f117f896f4eefd3fc", func := "tearoff/tearofflaw09.ChainSums", spec := "chainSums", inPlace := ["internal/bytealg.MakeNoZero"], unfollowed := true, recurses := true, named := ["tearoff/sha2.first", "tearoff/sha2.k", "tearoff/keccak.turns", "tearoff/keccak.rc", "tearoff/sets.widths", "tearoff/sets.sums"], apart := false, laid := [("tearoff/keccak.rc", laid_tearoff_keccak_rc), ("tearoff/keccak.turns", laid_tearoff_keccak_turns), ("tearoff/sets.sums", laid_tearoff_sets_sums), ("tearoff/sets.widths", laid_tearoff_sets_widths), ("tearoff/sha2.k", laid_tearoff_sha2_k), ("tearoff/sha2.first", laid_tearoff_sha2_first)] }
def ChainSumsSaid : Prop := chainSumsRow.holds Tryd.pinned (OpenSpec.ofChange chainSumsSpec)

/-- ITS FALSE NEIGHBOUR: 'it returns false'. Refute it at one input. -/
def chainSumsWrong : ChangeSpec := { name := "chainSums", fn := fun _ => fun
  | [d1, d2, d3] => { results := [.lit (.bool false)], args := [d1, d2, d3] }
  | _ => none }
def ChainSumsWrongFalsely : Prop := chainSumsRow.holds Tryd.pinned (OpenSpec.ofChange chainSumsWrong)

/-- 'tearofflaw09.ChainSteps': WHATEVER THE INPUT: true; the input reads as it did. -/
def chainStepsSpec : ChangeSpec := { name := "chainSteps", fn := fun _ => fun
  | [d1, d2, d3] => { results := [.lit (.bool true)], args := [d1, d2, d3] }
  | _ => none }
def chainStepsRow : OpenClaim := { program := "ytgpjbjbdfkiklaadoor", sum := "950bc3d9041874993e2b7968f7448eb298eb3f23636be77f117f896f4eefd3fc", func := "tearoff/tearofflaw09.ChainSteps", spec := "chainSteps", inPlace := ["internal/bytealg.MakeNoZero"], unfollowed := true, recurses := true, named := ["tearoff/sha2.first", "tearoff/sha2.k", "tearoff/keccak.turns", "tearoff/keccak.rc", "tearoff/sets.widths", "tearoff/sets.sums"], apart := false, laid := [("tearoff/keccak.rc", laid_tearoff_keccak_rc), ("tearoff/keccak.turns", laid_tearoff_keccak_turns), ("tearoff/sets.sums", laid_tearoff_sets_sums), ("tearoff/sets.widths", laid_tearoff_sets_widths), ("tearoff/sha2.k", laid_tearoff_sha2_k), ("tearoff/sha2.first", laid_tearoff_sha2_first)] }
def ChainStepsSaid : Prop := chainStepsRow.holds Tryd.pinned (OpenSpec.ofChange chainStepsSpec)

/-- ITS FALSE NEIGHBOUR: 'it returns false'. Refute it at one input. -/
def chainStepsWrong : ChangeSpec := { name := "chainSteps", fn := fun _ => fun
  | [d1, d2, d3] => { results := [.lit (.bool false)], args := [d1, d2, d3] }
  | _ => none }
def ChainStepsWrongFalsely : Prop := chainStepsRow.holds Tryd.pinned (OpenSpec.ofChange chainStepsWrong)

/-- 'tearofflaw09.ChainOn': WHATEVER THE INPUT: true; the input reads as it did. -/
def chainOnSpec : ChangeSpec := { name := "chainOn", fn := fun _ => fun
  | [d1, d2, d3] => { results := [.lit (.bool true)], args := [d1, d2, d3] }
  | _ => none }
def chainOnRow : OpenClaim := { program := "ytgpjbjbdfkiklaadoor", sum := "950bc3d9041874993e2b7968f7448eb298eb3f23636be77f117f896f4eefd3fc", func := "tearoff/tearofflaw09.ChainOn", spec := "chainOn", inPlace := ["internal/bytealg.MakeNoZero"], unfollowed := true, recurses := true, named := ["tearoff/sha2.first", "tearoff/sha2.k", "tearoff/keccak.turns", "tearoff/keccak.rc", "tearoff/sets.widths", "tearoff/sets.sums"], apart := false, laid := [("tearoff/keccak.rc", laid_tearoff_keccak_rc), ("tearoff/keccak.turns", laid_tearoff_keccak_turns), ("tearoff/sets.sums", laid_tearoff_sets_sums), ("tearoff/sets.widths", laid_tearoff_sets_widths), ("tearoff/sha2.k", laid_tearoff_sha2_k), ("tearoff/sha2.first", laid_tearoff_sha2_first)] }
def ChainOnSaid : Prop := chainOnRow.holds Tryd.pinned (OpenSpec.ofChange chainOnSpec)

/-- ITS FALSE NEIGHBOUR: 'it returns false'. Refute it at one input. -/
def chainOnWrong : ChangeSpec := { name := "chainOn", fn := fun _ => fun
  | [d1, d2, d3] => { results := [.lit (.bool false)], args := [d1, d2, d3] }
  | _ => none }
def ChainOnWrongFalsely : Prop := chainOnRow.holds Tryd.pinned (OpenSpec.ofChange chainOnWrong)

/-- 'tearofflaw09.ChainKinds': WHATEVER THE INPUT: true; the input reads as it did. -/
def chainKindsSpec : ChangeSpec := { name := "chainKinds", fn := fun _ => fun
  | [d1, d2] => { results := [.lit (.bool true)], args := [d1, d2] }
  | _ => none }
def chainKindsRow : OpenClaim := { program := "ytgpjbjbdfkiklaadoor", sum := "950bc3d9041874993e2b7968f7448eb298eb3f23636be77f117f896f4eefd3fc", func := "tearoff/tearofflaw09.ChainKinds", spec := "chainKinds", inPlace := ["internal/bytealg.MakeNoZero"], unfollowed := true, recurses := true, named := ["tearoff/sha2.first", "tearoff/sha2.k", "tearoff/keccak.turns", "tearoff/keccak.rc", "tearoff/sets.widths", "tearoff/sets.sums"], apart := false, laid := [("tearoff/keccak.rc", laid_tearoff_keccak_rc), ("tearoff/keccak.turns", laid_tearoff_keccak_turns), ("tearoff/sets.sums", laid_tearoff_sets_sums), ("tearoff/sets.widths", laid_tearoff_sets_widths), ("tearoff/sha2.k", laid_tearoff_sha2_k), ("tearoff/sha2.first", laid_tearoff_sha2_first)] }
def ChainKindsSaid : Prop := chainKindsRow.holds Tryd.pinned (OpenSpec.ofChange chainKindsSpec)

/-- ITS FALSE NEIGHBOUR: 'it returns false'. Refute it at one input. -/
def chainKindsWrong : ChangeSpec := { name := "chainKinds", fn := fun _ => fun
  | [d1, d2] => { results := [.lit (.bool false)], args := [d1, d2] }
  | _ => none }
def ChainKindsWrongFalsely : Prop := chainKindsRow.holds Tryd.pinned (OpenSpec.ofChange chainKindsWrong)

/-- 'tearofflaw09.ChainOnes': WHATEVER THE INPUT: true; the input reads as it did. -/
def chainOnesSpec : ChangeSpec := { name := "chainOnes", fn := fun _ => fun
  | [d1, d2, d3] => { results := [.lit (.bool true)], args := [d1, d2, d3] }
  | _ => none }
def chainOnesRow : OpenClaim := { program := "ytgpjbjbdfkiklaadoor", sum := "950bc3d9041874993e2b7968f7448eb298eb3f23636be77f117f896f4eefd3fc", func := "tearoff/tearofflaw09.ChainOnes", spec := "chainOnes", inPlace := ["internal/bytealg.MakeNoZero"], unfollowed := true, recurses := true, named := ["tearoff/sha2.first", "tearoff/sha2.k", "tearoff/keccak.turns", "tearoff/keccak.rc", "tearoff/sets.widths", "tearoff/sets.sums"], apart := false, laid := [("tearoff/keccak.rc", laid_tearoff_keccak_rc), ("tearoff/keccak.turns", laid_tearoff_keccak_turns), ("tearoff/sets.sums", laid_tearoff_sets_sums), ("tearoff/sets.widths", laid_tearoff_sets_widths), ("tearoff/sha2.k", laid_tearoff_sha2_k), ("tearoff/sha2.first", laid_tearoff_sha2_first)] }
def ChainOnesSaid : Prop := chainOnesRow.holds Tryd.pinned (OpenSpec.ofChange chainOnesSpec)

/-- ITS FALSE NEIGHBOUR: 'it returns false'. Refute it at one input. -/
def chainOnesWrong : ChangeSpec := { name := "chainOnes", fn := fun _ => fun
  | [d1, d2, d3] => { results := [.lit (.bool false)], args := [d1, d2, d3] }
  | _ => none }
def ChainOnesWrongFalsely : Prop := chainOnesRow.holds Tryd.pinned (OpenSpec.ofChange chainOnesWrong)

/-- 'tearofflaw11.MerkleMakes': WHATEVER THE INPUT: true; the input reads as it did. -/
def merkleMakesSpec : ChangeSpec := { name := "merkleMakes", fn := fun _ => fun
  | [d1, d2, d3] => { results := [.lit (.bool true)], args := [d1, d2, d3] }
  | _ => none }
def merkleMakesRow : OpenClaim := { program := "ytgpjbjbdfkiklaadoor", sum := "950bc3d9041874993e2b7968f7448eb298eb3f23636be77f117f896f4eefd3fc", func := "tearoff/tearofflaw11.MerkleMakes", spec := "merkleMakes", inPlace := ["internal/bytealg.MakeNoZero"], unfollowed := true, recurses := true, named := ["tearoff/sets.own", "tearoff/sets.heights", "tearoff/sets.sums", "tearoff/sha2.first", "tearoff/sha2.k", "tearoff/keccak.turns", "tearoff/keccak.rc"], apart := false, laid := [("tearoff/keccak.rc", laid_tearoff_keccak_rc), ("tearoff/keccak.turns", laid_tearoff_keccak_turns), ("tearoff/sets.sums", laid_tearoff_sets_sums), ("tearoff/sets.heights", laid_tearoff_sets_heights), ("tearoff/sets.own", laid_tearoff_sets_own), ("tearoff/sha2.k", laid_tearoff_sha2_k), ("tearoff/sha2.first", laid_tearoff_sha2_first)] }
def MerkleMakesSaid : Prop := merkleMakesRow.holds Tryd.pinned (OpenSpec.ofChange merkleMakesSpec)

/-- ITS FALSE NEIGHBOUR: 'it returns false'. Refute it at one input. -/
def merkleMakesWrong : ChangeSpec := { name := "merkleMakes", fn := fun _ => fun
  | [d1, d2, d3] => { results := [.lit (.bool false)], args := [d1, d2, d3] }
  | _ => none }
def MerkleMakesWrongFalsely : Prop := merkleMakesRow.holds Tryd.pinned (OpenSpec.ofChange merkleMakesWrong)

/-- 'tearofflaw11.MerkleClimbs': WHATEVER THE INPUT: true; the input reads as it did. -/
def merkleClimbsSpec : ChangeSpec := { name := "merkleClimbs", fn := fun _ => fun
  | [d1, d2, d3] => { results := [.lit (.bool true)], args := [d1, d2, d3] }
  | _ => none }
def merkleClimbsRow : OpenClaim := { program := "ytgpjbjbdfkiklaadoor", sum := "950bc3d9041874993e2b7968f7448eb298eb3f23636be77f117f896f4eefd3fc", func := "tearoff/tearofflaw11.MerkleClimbs", spec := "merkleClimbs", inPlace := ["internal/bytealg.MakeNoZero"], unfollowed := true, recurses := true, named := ["tearoff/sets.own", "tearoff/sets.heights", "tearoff/sets.sums", "tearoff/sha2.first", "tearoff/sha2.k", "tearoff/keccak.turns", "tearoff/keccak.rc"], apart := false, laid := [("tearoff/keccak.rc", laid_tearoff_keccak_rc), ("tearoff/keccak.turns", laid_tearoff_keccak_turns), ("tearoff/sets.sums", laid_tearoff_sets_sums), ("tearoff/sets.heights", laid_tearoff_sets_heights), ("tearoff/sets.own", laid_tearoff_sets_own), ("tearoff/sha2.k", laid_tearoff_sha2_k), ("tearoff/sha2.first", laid_tearoff_sha2_first)] }
def MerkleClimbsSaid : Prop := merkleClimbsRow.holds Tryd.pinned (OpenSpec.ofChange merkleClimbsSpec)

/-- ITS FALSE NEIGHBOUR: 'it returns false'. Refute it at one input. -/
def merkleClimbsWrong : ChangeSpec := { name := "merkleClimbs", fn := fun _ => fun
  | [d1, d2, d3] => { results := [.lit (.bool false)], args := [d1, d2, d3] }
  | _ => none }
def MerkleClimbsWrongFalsely : Prop := merkleClimbsRow.holds Tryd.pinned (OpenSpec.ofChange merkleClimbsWrong)

/-- 'tearofflaw11.MerkleLeads': WHATEVER THE INPUT: true; the input reads as it did. -/
def merkleLeadsSpec : ChangeSpec := { name := "merkleLeads", fn := fun _ => fun
  | [d1, d2, d3] => { results := [.lit (.bool true)], args := [d1, d2, d3] }
  | _ => none }
def merkleLeadsRow : OpenClaim := { program := "ytgpjbjbdfkiklaadoor", sum := "950bc3d9041874993e2b7968f7448eb298eb3f23636be77f117f896f4eefd3fc", func := "tearoff/tearofflaw11.MerkleLeads", spec := "merkleLeads", inPlace := ["internal/bytealg.MakeNoZero"], unfollowed := true, recurses := true, named := ["tearoff/sets.own", "tearoff/sets.heights", "tearoff/sets.sums", "tearoff/sha2.first", "tearoff/sha2.k", "tearoff/keccak.turns", "tearoff/keccak.rc"], apart := false, laid := [("tearoff/keccak.rc", laid_tearoff_keccak_rc), ("tearoff/keccak.turns", laid_tearoff_keccak_turns), ("tearoff/sets.sums", laid_tearoff_sets_sums), ("tearoff/sets.heights", laid_tearoff_sets_heights), ("tearoff/sets.own", laid_tearoff_sets_own), ("tearoff/sha2.k", laid_tearoff_sha2_k), ("tearoff/sha2.first", laid_tearoff_sha2_first)] }
def MerkleLeadsSaid : Prop := merkleLeadsRow.holds Tryd.pinned (OpenSpec.ofChange merkleLeadsSpec)

/-- ITS FALSE NEIGHBOUR: 'it returns false'. Refute it at one input. -/
def merkleLeadsWrong : ChangeSpec := { name := "merkleLeads", fn := fun _ => fun
  | [d1, d2, d3] => { results := [.lit (.bool false)], args := [d1, d2, d3] }
  | _ => none }
def MerkleLeadsWrongFalsely : Prop := merkleLeadsRow.holds Tryd.pinned (OpenSpec.ofChange merkleLeadsWrong)

/-- 'tearofflaw11.MerkleHalves': WHATEVER THE INPUT: true; the input reads as it did. -/
def merkleHalvesSpec : ChangeSpec := { name := "merkleHalves", fn := fun _ => fun
  | [d1, d2, d3] => { results := [.lit (.bool true)], args := [d1, d2, d3] }
  | _ => none }
def merkleHalvesRow : OpenClaim := { program := "ytgpjbjbdfkiklaadoor", sum := "950bc3d9041874993e2b7968f7448eb298eb3f23636be77f117f896f4eefd3fc", func := "tearoff/tearofflaw11.MerkleHalves", spec := "merkleHalves", inPlace := ["internal/bytealg.MakeNoZero"], unfollowed := true, recurses := true, named := ["tearoff/sets.own", "tearoff/sets.heights", "tearoff/sets.sums", "tearoff/sha2.first", "tearoff/sha2.k", "tearoff/keccak.turns", "tearoff/keccak.rc"], apart := false, laid := [("tearoff/keccak.rc", laid_tearoff_keccak_rc), ("tearoff/keccak.turns", laid_tearoff_keccak_turns), ("tearoff/sets.sums", laid_tearoff_sets_sums), ("tearoff/sets.heights", laid_tearoff_sets_heights), ("tearoff/sets.own", laid_tearoff_sets_own), ("tearoff/sha2.k", laid_tearoff_sha2_k), ("tearoff/sha2.first", laid_tearoff_sha2_first)] }
def MerkleHalvesSaid : Prop := merkleHalvesRow.holds Tryd.pinned (OpenSpec.ofChange merkleHalvesSpec)

/-- ITS FALSE NEIGHBOUR: 'it returns false'. Refute it at one input. -/
def merkleHalvesWrong : ChangeSpec := { name := "merkleHalves", fn := fun _ => fun
  | [d1, d2, d3] => { results := [.lit (.bool false)], args := [d1, d2, d3] }
  | _ => none }
def MerkleHalvesWrongFalsely : Prop := merkleHalvesRow.holds Tryd.pinned (OpenSpec.ofChange merkleHalvesWrong)

/- THE SECOND FORM. 'bulk': how many values and letters a reading holds, each counted each time it is reached (what is shared counts as often as it is met; a slice's spare places count too). A statement '..UptoSaid' is the law's where the arguments, and the package variables that the reading takes, are together of bulk at most 1048576: NARROWER than '..Said'. Prove '..Said' where nothing that the law and all that it calls make is longer than what came in: it says more and counts as full. Else prove '..UptoSaid'. A law counts once. -/
mutual
def uptoBulk {H : Type} : DataW H → Nat
  | .lit (.string bytes) => bytes.length + 1
  | .lit _ => 1
  | .nil => 1
  | .ptr d => uptoBulk d + 1
  | .slice elems spare => uptoBulkAll elems + uptoBulkAll spare + 1
  | .agg parts => uptoBulkAll parts + 1
  | .iface _ d => uptoBulk d + 1
  | .map entries => uptoBulkEntries entries + 1
  | .held _ => 1
def uptoBulkAll {H : Type} : List (DataW H) → Nat
  | [] => 0
  | d :: r => uptoBulk d + uptoBulkAll r
def uptoBulkEntries {H : Type} : List (Lit × DataW H) → Nat
  | [] => 0
  | x :: r => uptoBulkEntry x + uptoBulkEntries r
def uptoBulkEntry {H : Type} : Lit × DataW H → Nat
  | (.string bytes, d) => bytes.length + uptoBulk d + 1
  | (_, d) => uptoBulk d + 1
 end
def uptoSmall : (H : Type) → List (DataW H) → Bool := fun _ ds => decide (uptoBulkAll ds ≤ 1048576)
def OpenSpec.upto (s : _root_.Go.ChangeSpec) : _root_.Go.OpenSpec := { _root_.Go.OpenSpec.ofChange s with cond := some uptoSmall }

/-- 'tearofflaw09.ChainSums', WHERE WHAT IT READS IS OF BULK AT MOST 1048576: true; the input reads as it did. -/
def chainSumsUptoRow : OpenClaim := { program := "ytgpjbjbdfkiklaadoor", sum := "950bc3d9041874993e2b7968f7448eb298eb3f23636be77f117f896f4eefd3fc", func := "tearoff/tearofflaw09.ChainSums", spec := "chainSums", inPlace := ["internal/bytealg.MakeNoZero"], unfollowed := true, recurses := true, named := ["tearoff/sha2.first", "tearoff/sha2.k", "tearoff/keccak.turns", "tearoff/keccak.rc", "tearoff/sets.widths", "tearoff/sets.sums"], apart := false, laid := [("tearoff/keccak.rc", laid_tearoff_keccak_rc), ("tearoff/keccak.turns", laid_tearoff_keccak_turns), ("tearoff/sets.sums", laid_tearoff_sets_sums), ("tearoff/sets.widths", laid_tearoff_sets_widths), ("tearoff/sha2.k", laid_tearoff_sha2_k), ("tearoff/sha2.first", laid_tearoff_sha2_first)], narrowed := true }
def ChainSumsUptoSaid : Prop := chainSumsUptoRow.holds Tryd.pinned (OpenSpec.upto chainSumsSpec)

/-- 'tearofflaw09.ChainSteps', WHERE WHAT IT READS IS OF BULK AT MOST 1048576: true; the input reads as it did. -/
def chainStepsUptoRow : OpenClaim := { program := "ytgpjbjbdfkiklaadoor", sum := "950bc3d9041874993e2b7968f7448eb298eb3f23636be77f117f896f4eefd3fc", func := "tearoff/tearofflaw09.ChainSteps", spec := "chainSteps", inPlace := ["internal/bytealg.MakeNoZero"], unfollowed := true, recurses := true, named := ["tearoff/sha2.first", "tearoff/sha2.k", "tearoff/keccak.turns", "tearoff/keccak.rc", "tearoff/sets.widths", "tearoff/sets.sums"], apart := false, laid := [("tearoff/keccak.rc", laid_tearoff_keccak_rc), ("tearoff/keccak.turns", laid_tearoff_keccak_turns), ("tearoff/sets.sums", laid_tearoff_sets_sums), ("tearoff/sets.widths", laid_tearoff_sets_widths), ("tearoff/sha2.k", laid_tearoff_sha2_k), ("tearoff/sha2.first", laid_tearoff_sha2_first)], narrowed := true }
def ChainStepsUptoSaid : Prop := chainStepsUptoRow.holds Tryd.pinned (OpenSpec.upto chainStepsSpec)

/-- 'tearofflaw09.ChainOn', WHERE WHAT IT READS IS OF BULK AT MOST 1048576: true; the input reads as it did. -/
def chainOnUptoRow : OpenClaim := { program := "ytgpjbjbdfkiklaadoor", sum := "950bc3d9041874993e2b7968f7448eb298eb3f23636be77f117f896f4eefd3fc", func := "tearoff/tearofflaw09.ChainOn", spec := "chainOn", inPlace := ["internal/bytealg.MakeNoZero"], unfollowed := true, recurses := true, named := ["tearoff/sha2.first", "tearoff/sha2.k", "tearoff/keccak.turns", "tearoff/keccak.rc", "tearoff/sets.widths", "tearoff/sets.sums"], apart := false, laid := [("tearoff/keccak.rc", laid_tearoff_keccak_rc), ("tearoff/keccak.turns", laid_tearoff_keccak_turns), ("tearoff/sets.sums", laid_tearoff_sets_sums), ("tearoff/sets.widths", laid_tearoff_sets_widths), ("tearoff/sha2.k", laid_tearoff_sha2_k), ("tearoff/sha2.first", laid_tearoff_sha2_first)], narrowed := true }
def ChainOnUptoSaid : Prop := chainOnUptoRow.holds Tryd.pinned (OpenSpec.upto chainOnSpec)

/-- 'tearofflaw09.ChainKinds', WHERE WHAT IT READS IS OF BULK AT MOST 1048576: true; the input reads as it did. -/
def chainKindsUptoRow : OpenClaim := { program := "ytgpjbjbdfkiklaadoor", sum := "950bc3d9041874993e2b7968f7448eb298eb3f23636be77f117f896f4eefd3fc", func := "tearoff/tearofflaw09.ChainKinds", spec := "chainKinds", inPlace := ["internal/bytealg.MakeNoZero"], unfollowed := true, recurses := true, named := ["tearoff/sha2.first", "tearoff/sha2.k", "tearoff/keccak.turns", "tearoff/keccak.rc", "tearoff/sets.widths", "tearoff/sets.sums"], apart := false, laid := [("tearoff/keccak.rc", laid_tearoff_keccak_rc), ("tearoff/keccak.turns", laid_tearoff_keccak_turns), ("tearoff/sets.sums", laid_tearoff_sets_sums), ("tearoff/sets.widths", laid_tearoff_sets_widths), ("tearoff/sha2.k", laid_tearoff_sha2_k), ("tearoff/sha2.first", laid_tearoff_sha2_first)], narrowed := true }
def ChainKindsUptoSaid : Prop := chainKindsUptoRow.holds Tryd.pinned (OpenSpec.upto chainKindsSpec)

/-- 'tearofflaw09.ChainOnes', WHERE WHAT IT READS IS OF BULK AT MOST 1048576: true; the input reads as it did. -/
def chainOnesUptoRow : OpenClaim := { program := "ytgpjbjbdfkiklaadoor", sum := "950bc3d9041874993e2b7968f7448eb298eb3f23636be77f117f896f4eefd3fc", func := "tearoff/tearofflaw09.ChainOnes", spec := "chainOnes", inPlace := ["internal/bytealg.MakeNoZero"], unfollowed := true, recurses := true, named := ["tearoff/sha2.first", "tearoff/sha2.k", "tearoff/keccak.turns", "tearoff/keccak.rc", "tearoff/sets.widths", "tearoff/sets.sums"], apart := false, laid := [("tearoff/keccak.rc", laid_tearoff_keccak_rc), ("tearoff/keccak.turns", laid_tearoff_keccak_turns), ("tearoff/sets.sums", laid_tearoff_sets_sums), ("tearoff/sets.widths", laid_tearoff_sets_widths), ("tearoff/sha2.k", laid_tearoff_sha2_k), ("tearoff/sha2.first", laid_tearoff_sha2_first)], narrowed := true }
def ChainOnesUptoSaid : Prop := chainOnesUptoRow.holds Tryd.pinned (OpenSpec.upto chainOnesSpec)

/-- 'tearofflaw11.MerkleMakes', WHERE WHAT IT READS IS OF BULK AT MOST 1048576: true; the input reads as it did. -/
def merkleMakesUptoRow : OpenClaim := { program := "ytgpjbjbdfkiklaadoor", sum := "950bc3d9041874993e2b7968f7448eb298eb3f23636be77f117f896f4eefd3fc", func := "tearoff/tearofflaw11.MerkleMakes", spec := "merkleMakes", inPlace := ["internal/bytealg.MakeNoZero"], unfollowed := true, recurses := true, named := ["tearoff/sets.own", "tearoff/sets.heights", "tearoff/sets.sums", "tearoff/sha2.first", "tearoff/sha2.k", "tearoff/keccak.turns", "tearoff/keccak.rc"], apart := false, laid := [("tearoff/keccak.rc", laid_tearoff_keccak_rc), ("tearoff/keccak.turns", laid_tearoff_keccak_turns), ("tearoff/sets.sums", laid_tearoff_sets_sums), ("tearoff/sets.heights", laid_tearoff_sets_heights), ("tearoff/sets.own", laid_tearoff_sets_own), ("tearoff/sha2.k", laid_tearoff_sha2_k), ("tearoff/sha2.first", laid_tearoff_sha2_first)], narrowed := true }
def MerkleMakesUptoSaid : Prop := merkleMakesUptoRow.holds Tryd.pinned (OpenSpec.upto merkleMakesSpec)

/-- 'tearofflaw11.MerkleClimbs', WHERE WHAT IT READS IS OF BULK AT MOST 1048576: true; the input reads as it did. -/
def merkleClimbsUptoRow : OpenClaim := { program := "ytgpjbjbdfkiklaadoor", sum := "950bc3d9041874993e2b7968f7448eb298eb3f23636be77f117f896f4eefd3fc", func := "tearoff/tearofflaw11.MerkleClimbs", spec := "merkleClimbs", inPlace := ["internal/bytealg.MakeNoZero"], unfollowed := true, recurses := true, named := ["tearoff/sets.own", "tearoff/sets.heights", "tearoff/sets.sums", "tearoff/sha2.first", "tearoff/sha2.k", "tearoff/keccak.turns", "tearoff/keccak.rc"], apart := false, laid := [("tearoff/keccak.rc", laid_tearoff_keccak_rc), ("tearoff/keccak.turns", laid_tearoff_keccak_turns), ("tearoff/sets.sums", laid_tearoff_sets_sums), ("tearoff/sets.heights", laid_tearoff_sets_heights), ("tearoff/sets.own", laid_tearoff_sets_own), ("tearoff/sha2.k", laid_tearoff_sha2_k), ("tearoff/sha2.first", laid_tearoff_sha2_first)], narrowed := true }
def MerkleClimbsUptoSaid : Prop := merkleClimbsUptoRow.holds Tryd.pinned (OpenSpec.upto merkleClimbsSpec)

/-- 'tearofflaw11.MerkleLeads', WHERE WHAT IT READS IS OF BULK AT MOST 1048576: true; the input reads as it did. -/
def merkleLeadsUptoRow : OpenClaim := { program := "ytgpjbjbdfkiklaadoor", sum := "950bc3d9041874993e2b7968f7448eb298eb3f23636be77f117f896f4eefd3fc", func := "tearoff/tearofflaw11.MerkleLeads", spec := "merkleLeads", inPlace := ["internal/bytealg.MakeNoZero"], unfollowed := true, recurses := true, named := ["tearoff/sets.own", "tearoff/sets.heights", "tearoff/sets.sums", "tearoff/sha2.first", "tearoff/sha2.k", "tearoff/keccak.turns", "tearoff/keccak.rc"], apart := false, laid := [("tearoff/keccak.rc", laid_tearoff_keccak_rc), ("tearoff/keccak.turns", laid_tearoff_keccak_turns), ("tearoff/sets.sums", laid_tearoff_sets_sums), ("tearoff/sets.heights", laid_tearoff_sets_heights), ("tearoff/sets.own", laid_tearoff_sets_own), ("tearoff/sha2.k", laid_tearoff_sha2_k), ("tearoff/sha2.first", laid_tearoff_sha2_first)], narrowed := true }
def MerkleLeadsUptoSaid : Prop := merkleLeadsUptoRow.holds Tryd.pinned (OpenSpec.upto merkleLeadsSpec)

/-- 'tearofflaw11.MerkleHalves', WHERE WHAT IT READS IS OF BULK AT MOST 1048576: true; the input reads as it did. -/
def merkleHalvesUptoRow : OpenClaim := { program := "ytgpjbjbdfkiklaadoor", sum := "950bc3d9041874993e2b7968f7448eb298eb3f23636be77f117f896f4eefd3fc", func := "tearoff/tearofflaw11.MerkleHalves", spec := "merkleHalves", inPlace := ["internal/bytealg.MakeNoZero"], unfollowed := true, recurses := true, named := ["tearoff/sets.own", "tearoff/sets.heights", "tearoff/sets.sums", "tearoff/sha2.first", "tearoff/sha2.k", "tearoff/keccak.turns", "tearoff/keccak.rc"], apart := false, laid := [("tearoff/keccak.rc", laid_tearoff_keccak_rc), ("tearoff/keccak.turns", laid_tearoff_keccak_turns), ("tearoff/sets.sums", laid_tearoff_sets_sums), ("tearoff/sets.heights", laid_tearoff_sets_heights), ("tearoff/sets.own", laid_tearoff_sets_own), ("tearoff/sha2.k", laid_tearoff_sha2_k), ("tearoff/sha2.first", laid_tearoff_sha2_first)], narrowed := true }
def MerkleHalvesUptoSaid : Prop := merkleHalvesUptoRow.holds Tryd.pinned (OpenSpec.upto merkleHalvesSpec)

end Rows
end Go.Proofs.YtgpjbjbdfkiklaaDoor
