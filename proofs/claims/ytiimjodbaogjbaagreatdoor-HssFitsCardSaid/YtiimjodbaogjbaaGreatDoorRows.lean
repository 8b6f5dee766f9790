/-
  NARROWER THAN 'FOR EVERY INPUT', by the rows' own cells (each row's printed sentence says how): LmsPairs: laid · LmsTakes: laid · HssPlaces: laid · LmsSigns: laid · LmsFits: laid · LmsKeeps: laid · LmsLeaves: laid · HssFits: laid · HssSigns: laid · HssOne: laid · HssKeeps: laid · HssLevels: laid.
  DERIVED. THE GIVEN ROWS OF THIS SEAT. 12 by the template 'for every input the law returns true; each argument reads behind the call as it read before'; 0 by the template 'total and deterministic' (their statements: YtiimjodbaogjbaaGreatDoorTotals.lean).
  GIVEN WITH THE SEED: the statements are not yours to turn. If you find one false, say at which input.
  Laid BY PROGRAM, IN A SANDBOX (cutbox-rows.mjs): the forced cells as the released guide's own fill.sh prints them over the translation 1ef2f1f1e5662fbf… (all of the seat's roots in one cut). By AI agents, Wed Nov 11 2026. No macro, syntax, notation, axiom, sorry.
-/
import Derived.Test.YtiimjodbaogjbaaGreatDoorChecked
import GoSem.Claim
import GoSem.ClaimJoined
import GoSem.ClaimMapViews
import Derived.JoinedTies
import Derived.KernelRfl
namespace Go.Proofs.YtiimjodbaogjbaaGreatDoor
/- THE CELL 'sum', in the pinned program and in every row, IS THE sha256 OF THE DUMP (.gsa) THAT YtiimjodbaogjbaaGreatDoorProg.lean LOADS. Nothing in Lean hashes anything: it is a label: what it is worth is what the hold of that sum in a sandbox is worth. -/
noncomputable def Tryz.pinned : Pinned := { name := "ytiimjodbaogjbaagreatdoor", sum := "1ef2f1f1e5662fbf43af767b8b9e9dca90b55fbcc290ad3e592db2471272a407", checked := Tryz.checked }
namespace Rows
def none {H : Type} : Left H := { results := [], args := [] }

/- WHAT THE LISTED PACKAGE-LEVEL VARIABLES READ AS WHEN THE CALL BEGINS. Each datum BY PROGRAM (the guide's laid-datum.mjs) off the statement by which the dump's own 'gosem.cut.vars' lays the variable. In a bare row this is a premise. The card (YtiimjodbaogjbaaGreatDoorCards.lean) ties it to the program's text. -/
def laid_tearoff_keccak_rc {H : Type} : DataW H := .agg [.lit (.int .u64 1), .lit (.int .u64 32898), .lit (.int .u64 9223372036854808714), .lit (.int .u64 9223372039002292224), .lit (.int .u64 32907), .lit (.int .u64 2147483649), .lit (.int .u64 9223372039002292353), .lit (.int .u64 9223372036854808585), .lit (.int .u64 138), .lit (.int .u64 136), .lit (.int .u64 2147516425), .lit (.int .u64 2147483658), .lit (.int .u64 2147516555), .lit (.int .u64 9223372036854775947), .lit (.int .u64 9223372036854808713), .lit (.int .u64 9223372036854808579), .lit (.int .u64 9223372036854808578), .lit (.int .u64 9223372036854775936), .lit (.int .u64 32778), .lit (.int .u64 9223372039002259466), .lit (.int .u64 9223372039002292353), .lit (.int .u64 9223372036854808704), .lit (.int .u64 2147483649), .lit (.int .u64 9223372039002292232)]
def laid_tearoff_keccak_turns {H : Type} : DataW H := .agg [.lit (.int .i64 0), .lit (.int .i64 1), .lit (.int .i64 62), .lit (.int .i64 28), .lit (.int .i64 27), .lit (.int .i64 36), .lit (.int .i64 44), .lit (.int .i64 6), .lit (.int .i64 55), .lit (.int .i64 20), .lit (.int .i64 3), .lit (.int .i64 10), .lit (.int .i64 43), .lit (.int .i64 25), .lit (.int .i64 39), .lit (.int .i64 41), .lit (.int .i64 45), .lit (.int .i64 15), .lit (.int .i64 21), .lit (.int .i64 8), .lit (.int .i64 18), .lit (.int .i64 2), .lit (.int .i64 61), .lit (.int .i64 56), .lit (.int .i64 14)]
def laid_tearoff_sets_sums {H : Type} : DataW H := .agg [.agg [.lit (.int .i64 0), .lit (.int .i64 32)], .agg [.lit (.int .i64 0), .lit (.int .i64 24)], .agg [.lit (.int .i64 1), .lit (.int .i64 32)], .agg [.lit (.int .i64 1), .lit (.int .i64 24)]]
def laid_tearoff_sets_widths {H : Type} : DataW H := .agg [.lit (.int .i64 1), .lit (.int .i64 2), .lit (.int .i64 4), .lit (.int .i64 8)]
def laid_tearoff_sets_heights {H : Type} : DataW H := .agg [.lit (.int .i64 5), .lit (.int .i64 10), .lit (.int .i64 15), .lit (.int .i64 20), .lit (.int .i64 25)]
def laid_tearoff_sets_own {H : Type} : DataW H := .agg [.lit (.int .i64 1), .lit (.int .i64 2), .lit (.int .i64 3), .lit (.int .i64 4)]
def laid_tearoff_sha2_k {H : Type} : DataW H := .agg [.lit (.int .u32 1116352408), .lit (.int .u32 1899447441), .lit (.int .u32 3049323471), .lit (.int .u32 3921009573), .lit (.int .u32 961987163), .lit (.int .u32 1508970993), .lit (.int .u32 2453635748), .lit (.int .u32 2870763221), .lit (.int .u32 3624381080), .lit (.int .u32 310598401), .lit (.int .u32 607225278), .lit (.int .u32 1426881987), .lit (.int .u32 1925078388), .lit (.int .u32 2162078206), .lit (.int .u32 2614888103), .lit (.int .u32 3248222580), .lit (.int .u32 3835390401), .lit (.int .u32 4022224774), .lit (.int .u32 264347078), .lit (.int .u32 604807628), .lit (.int .u32 770255983), .lit (.int .u32 1249150122), .lit (.int .u32 1555081692), .lit (.int .u32 1996064986), .lit (.int .u32 2554220882), .lit (.int .u32 2821834349), .lit (.int .u32 2952996808), .lit (.int .u32 3210313671), .lit (.int .u32 3336571891), .lit (.int .u32 3584528711), .lit (.int .u32 113926993), .lit (.int .u32 338241895), .lit (.int .u32 666307205), .lit (.int .u32 773529912), .lit (.int .u32 1294757372), .lit (.int .u32 1396182291), .lit (.int .u32 1695183700), .lit (.int .u32 1986661051), .lit (.int .u32 2177026350), .lit (.int .u32 2456956037), .lit (.int .u32 2730485921), .lit (.int .u32 2820302411), .lit (.int .u32 3259730800), .lit (.int .u32 3345764771), .lit (.int .u32 3516065817), .lit (.int .u32 3600352804), .lit (.int .u32 4094571909), .lit (.int .u32 275423344), .lit (.int .u32 430227734), .lit (.int .u32 506948616), .lit (.int .u32 659060556), .lit (.int .u32 883997877), .lit (.int .u32 958139571), .lit (.int .u32 1322822218), .lit (.int .u32 1537002063), .lit (.int .u32 1747873779), .lit (.int .u32 1955562222), .lit (.int .u32 2024104815), .lit (.int .u32 2227730452), .lit (.int .u32 2361852424), .lit (.int .u32 2428436474), .lit (.int .u32 2756734187), .lit (.int .u32 3204031479), .lit (.int .u32 3329325298)]
def laid_tearoff_sha2_first {H : Type} : DataW H := .agg [.lit (.int .u32 1779033703), .lit (.int .u32 3144134277), .lit (.int .u32 1013904242), .lit (.int .u32 2773480762), .lit (.int .u32 1359893119), .lit (.int .u32 2600822924), .lit (.int .u32 528734635), .lit (.int .u32 1541459225)]

/-- 'tearofflaw12.LmsPairs': WHATEVER THE INPUT: true; the input reads as it did. -/
def lmsPairsSpec : ChangeSpec := { name := "lmsPairs", fn := fun _ => fun
  | [d] => { results := [.lit (.bool true)], args := [d] }
  | _ => none }
def lmsPairsRow : OpenClaim := { program := "ytiimjodbaogjbaagreatdoor", sum := "1ef2f1f1e5662fbf43af767b8b9e9dca90b55fbcc290ad3e592db2471272a407", func := "tearoff/tearofflaw12.LmsPairs", spec := "lmsPairs", inPlace := ["internal/bytealg.MakeNoZero"], unfollowed := true, recurses := true, named := ["tearoff/sets.widths", "tearoff/sets.sums", "tearoff/sets.own", "tearoff/sets.heights", "tearoff/sha2.first", "tearoff/sha2.k", "tearoff/keccak.turns", "tearoff/keccak.rc"], apart := false, laid := [("tearoff/keccak.rc", laid_tearoff_keccak_rc), ("tearoff/keccak.turns", laid_tearoff_keccak_turns), ("tearoff/sets.sums", laid_tearoff_sets_sums), ("tearoff/sets.widths", laid_tearoff_sets_widths), ("tearoff/sets.heights", laid_tearoff_sets_heights), ("tearoff/sets.own", laid_tearoff_sets_own), ("tearoff/sha2.k", laid_tearoff_sha2_k), ("tearoff/sha2.first", laid_tearoff_sha2_first)] }
def LmsPairsSaid : Prop := lmsPairsRow.holds Tryz.pinned (OpenSpec.ofChange lmsPairsSpec)

/-- ITS FALSE NEIGHBOUR: 'it returns false'. Refute it at one input. -/
def lmsPairsWrong : ChangeSpec := { name := "lmsPairs", fn := fun _ => fun
  | [d] => { results := [.lit (.bool false)], args := [d] }
  | _ => none }
def LmsPairsWrongFalsely : Prop := lmsPairsRow.holds Tryz.pinned (OpenSpec.ofChange lmsPairsWrong)

/-- 'tearofflaw12.LmsTakes': WHATEVER THE INPUT: true; the input reads as it did. -/
def lmsTakesSpec : ChangeSpec := { name := "lmsTakes", fn := fun _ => fun
  | [d1, d2, d3] => { results := [.lit (.bool true)], args := [d1, d2, d3] }
  | _ => none }
def lmsTakesRow : OpenClaim := { program := "ytiimjodbaogjbaagreatdoor", sum := "1ef2f1f1e5662fbf43af767b8b9e9dca90b55fbcc290ad3e592db2471272a407", func := "tearoff/tearofflaw12.LmsTakes", spec := "lmsTakes", inPlace := ["internal/bytealg.MakeNoZero"], unfollowed := true, recurses := true, named := ["tearoff/sets.widths", "tearoff/sets.sums", "tearoff/sets.own", "tearoff/sets.heights", "tearoff/sha2.first", "tearoff/sha2.k", "tearoff/keccak.turns", "tearoff/keccak.rc"], apart := false, laid := [("tearoff/keccak.rc", laid_tearoff_keccak_rc), ("tearoff/keccak.turns", laid_tearoff_keccak_turns), ("tearoff/sets.sums", laid_tearoff_sets_sums), ("tearoff/sets.widths", laid_tearoff_sets_widths), ("tearoff/sets.heights", laid_tearoff_sets_heights), ("tearoff/sets.own", laid_tearoff_sets_own), ("tearoff/sha2.k", laid_tearoff_sha2_k), ("tearoff/sha2.first", laid_tearoff_sha2_first)] }
def LmsTakesSaid : Prop := lmsTakesRow.holds Tryz.pinned (OpenSpec.ofChange lmsTakesSpec)

/-- ITS FALSE NEIGHBOUR: 'it returns false'. Refute it at one input. -/
def lmsTakesWrong : ChangeSpec := { name := "lmsTakes", fn := fun _ => fun
  | [d1, d2, d3] => { results := [.lit (.bool false)], args := [d1, d2, d3] }
  | _ => none }
def LmsTakesWrongFalsely : Prop := lmsTakesRow.holds Tryz.pinned (OpenSpec.ofChange lmsTakesWrong)

/-- 'tearofflaw13.HssPlaces': WHATEVER THE INPUT: true; the input reads as it did. -/
def hssPlacesSpec : ChangeSpec := { name := "hssPlaces", fn := fun _ => fun
  | [d1, d2, d3] => { results := [.lit (.bool true)], args := [d1, d2, d3] }
  | _ => none }
def hssPlacesRow : OpenClaim := { program := "ytiimjodbaogjbaagreatdoor", sum := "1ef2f1f1e5662fbf43af767b8b9e9dca90b55fbcc290ad3e592db2471272a407", func := "tearoff/tearofflaw13.HssPlaces", spec := "hssPlaces", inPlace := ["internal/bytealg.MakeNoZero"], unfollowed := true, recurses := true, named := ["tearoff/sets.widths", "tearoff/sets.sums", "tearoff/sets.own", "tearoff/sets.heights", "tearoff/sha2.first", "tearoff/sha2.k", "tearoff/keccak.turns", "tearoff/keccak.rc"], apart := false, laid := [("tearoff/keccak.rc", laid_tearoff_keccak_rc), ("tearoff/keccak.turns", laid_tearoff_keccak_turns), ("tearoff/sets.sums", laid_tearoff_sets_sums), ("tearoff/sets.widths", laid_tearoff_sets_widths), ("tearoff/sets.heights", laid_tearoff_sets_heights), ("tearoff/sets.own", laid_tearoff_sets_own), ("tearoff/sha2.k", laid_tearoff_sha2_k), ("tearoff/sha2.first", laid_tearoff_sha2_first)] }
def HssPlacesSaid : Prop := hssPlacesRow.holds Tryz.pinned (OpenSpec.ofChange hssPlacesSpec)

/-- ITS FALSE NEIGHBOUR: 'it returns false'. Refute it at one input. -/
def hssPlacesWrong : ChangeSpec := { name := "hssPlaces", fn := fun _ => fun
  | [d1, d2, d3] => { results := [.lit (.bool false)], args := [d1, d2, d3] }
  | _ => none }
def HssPlacesWrongFalsely : Prop := hssPlacesRow.holds Tryz.pinned (OpenSpec.ofChange hssPlacesWrong)

/-- 'tearofflaw12.LmsSigns': WHATEVER THE INPUT: true; the input reads as it did. -/
def lmsSignsSpec : ChangeSpec := { name := "lmsSigns", fn := fun _ => fun
  | [d1, d2, d3] => { results := [.lit (.bool true)], args := [d1, d2, d3] }
  | _ => none }
def lmsSignsRow : OpenClaim := { program := "ytiimjodbaogjbaagreatdoor", sum := "1ef2f1f1e5662fbf43af767b8b9e9dca90b55fbcc290ad3e592db2471272a407", func := "tearoff/tearofflaw12.LmsSigns", spec := "lmsSigns", inPlace := ["internal/bytealg.MakeNoZero"], unfollowed := true, recurses := true, named := ["tearoff/sets.widths", "tearoff/sets.sums", "tearoff/sets.own", "tearoff/sets.heights", "tearoff/sha2.first", "tearoff/sha2.k", "tearoff/keccak.turns", "tearoff/keccak.rc"], apart := false, laid := [("tearoff/keccak.rc", laid_tearoff_keccak_rc), ("tearoff/keccak.turns", laid_tearoff_keccak_turns), ("tearoff/sets.sums", laid_tearoff_sets_sums), ("tearoff/sets.widths", laid_tearoff_sets_widths), ("tearoff/sets.heights", laid_tearoff_sets_heights), ("tearoff/sets.own", laid_tearoff_sets_own), ("tearoff/sha2.k", laid_tearoff_sha2_k), ("tearoff/sha2.first", laid_tearoff_sha2_first)] }
def LmsSignsSaid : Prop := lmsSignsRow.holds Tryz.pinned (OpenSpec.ofChange lmsSignsSpec)

/-- ITS FALSE NEIGHBOUR: 'it returns false'. Refute it at one input. -/
def lmsSignsWrong : ChangeSpec := { name := "lmsSigns", fn := fun _ => fun
  | [d1, d2, d3] => { results := [.lit (.bool false)], args := [d1, d2, d3] }
  | _ => none }
def LmsSignsWrongFalsely : Prop := lmsSignsRow.holds Tryz.pinned (OpenSpec.ofChange lmsSignsWrong)

/-- 'tearofflaw12.LmsFits': WHATEVER THE INPUT: true; the input reads as it did. -/
def lmsFitsSpec : ChangeSpec := { name := "lmsFits", fn := fun _ => fun
  | [d1, d2, d3] => { results := [.lit (.bool true)], args := [d1, d2, d3] }
  | _ => none }
def lmsFitsRow : OpenClaim := { program := "ytiimjodbaogjbaagreatdoor", sum := "1ef2f1f1e5662fbf43af767b8b9e9dca90b55fbcc290ad3e592db2471272a407", func := "tearoff/tearofflaw12.LmsFits", spec := "lmsFits", inPlace := ["internal/bytealg.MakeNoZero"], unfollowed := true, recurses := true, named := ["tearoff/sets.widths", "tearoff/sets.sums", "tearoff/sets.own", "tearoff/sets.heights", "tearoff/sha2.first", "tearoff/sha2.k", "tearoff/keccak.turns", "tearoff/keccak.rc"], apart := false, laid := [("tearoff/keccak.rc", laid_tearoff_keccak_rc), ("tearoff/keccak.turns", laid_tearoff_keccak_turns), ("tearoff/sets.sums", laid_tearoff_sets_sums), ("tearoff/sets.widths", laid_tearoff_sets_widths), ("tearoff/sets.heights", laid_tearoff_sets_heights), ("tearoff/sets.own", laid_tearoff_sets_own), ("tearoff/sha2.k", laid_tearoff_sha2_k), ("tearoff/sha2.first", laid_tearoff_sha2_first)] }
def LmsFitsSaid : Prop := lmsFitsRow.holds Tryz.pinned (OpenSpec.ofChange lmsFitsSpec)

/-- ITS FALSE NEIGHBOUR: 'it returns false'. Refute it at one input. -/
def lmsFitsWrong : ChangeSpec := { name := "lmsFits", fn := fun _ => fun
  | [d1, d2, d3] => { results := [.lit (.bool false)], args := [d1, d2, d3] }
  | _ => none }
def LmsFitsWrongFalsely : Prop := lmsFitsRow.holds Tryz.pinned (OpenSpec.ofChange lmsFitsWrong)

/-- 'tearofflaw12.LmsKeeps': WHATEVER THE INPUT: true; the input reads as it did. -/
def lmsKeepsSpec : ChangeSpec := { name := "lmsKeeps", fn := fun _ => fun
  | [d1, d2, d3] => { results := [.lit (.bool true)], args := [d1, d2, d3] }
  | _ => none }
def lmsKeepsRow : OpenClaim := { program := "ytiimjodbaogjbaagreatdoor", sum := "1ef2f1f1e5662fbf43af767b8b9e9dca90b55fbcc290ad3e592db2471272a407", func := "tearoff/tearofflaw12.LmsKeeps", spec := "lmsKeeps", inPlace := ["internal/bytealg.MakeNoZero"], unfollowed := true, recurses := true, named := ["tearoff/sets.widths", "tearoff/sets.sums", "tearoff/sets.own", "tearoff/sets.heights", "tearoff/sha2.first", "tearoff/sha2.k", "tearoff/keccak.turns", "tearoff/keccak.rc"], apart := false, laid := [("tearoff/keccak.rc", laid_tearoff_keccak_rc), ("tearoff/keccak.turns", laid_tearoff_keccak_turns), ("tearoff/sets.sums", laid_tearoff_sets_sums), ("tearoff/sets.widths", laid_tearoff_sets_widths), ("tearoff/sets.heights", laid_tearoff_sets_heights), ("tearoff/sets.own", laid_tearoff_sets_own), ("tearoff/sha2.k", laid_tearoff_sha2_k), ("tearoff/sha2.first", laid_tearoff_sha2_first)] }
def LmsKeepsSaid : Prop := lmsKeepsRow.holds Tryz.pinned (OpenSpec.ofChange lmsKeepsSpec)

/-- ITS FALSE NEIGHBOUR: 'it returns false'. Refute it at one input. -/
def lmsKeepsWrong : ChangeSpec := { name := "lmsKeeps", fn := fun _ => fun
  | [d1, d2, d3] => { results := [.lit (.bool false)], args := [d1, d2, d3] }
  | _ => none }
def LmsKeepsWrongFalsely : Prop := lmsKeepsRow.holds Tryz.pinned (OpenSpec.ofChange lmsKeepsWrong)

/-- 'tearofflaw12.LmsLeaves': WHATEVER THE INPUT: true; the input reads as it did. -/
def lmsLeavesSpec : ChangeSpec := { name := "lmsLeaves", fn := fun _ => fun
  | [d1, d2] => { results := [.lit (.bool true)], args := [d1, d2] }
  | _ => none }
def lmsLeavesRow : OpenClaim := { program := "ytiimjodbaogjbaagreatdoor", sum := "1ef2f1f1e5662fbf43af767b8b9e9dca90b55fbcc290ad3e592db2471272a407", func := "tearoff/tearofflaw12.LmsLeaves", spec := "lmsLeaves", inPlace := ["internal/bytealg.MakeNoZero"], unfollowed := true, recurses := true, named := ["tearoff/sets.widths", "tearoff/sets.sums", "tearoff/sets.own", "tearoff/sets.heights", "tearoff/sha2.first", "tearoff/sha2.k", "tearoff/keccak.turns", "tearoff/keccak.rc"], apart := false, laid := [("tearoff/keccak.rc", laid_tearoff_keccak_rc), ("tearoff/keccak.turns", laid_tearoff_keccak_turns), ("tearoff/sets.sums", laid_tearoff_sets_sums), ("tearoff/sets.widths", laid_tearoff_sets_widths), ("tearoff/sets.heights", laid_tearoff_sets_heights), ("tearoff/sets.own", laid_tearoff_sets_own), ("tearoff/sha2.k", laid_tearoff_sha2_k), ("tearoff/sha2.first", laid_tearoff_sha2_first)] }
def LmsLeavesSaid : Prop := lmsLeavesRow.holds Tryz.pinned (OpenSpec.ofChange lmsLeavesSpec)

/-- ITS FALSE NEIGHBOUR: 'it returns false'. Refute it at one input. -/
def lmsLeavesWrong : ChangeSpec := { name := "lmsLeaves", fn := fun _ => fun
  | [d1, d2] => { results := [.lit (.bool false)], args := [d1, d2] }
  | _ => none }
def LmsLeavesWrongFalsely : Prop := lmsLeavesRow.holds Tryz.pinned (OpenSpec.ofChange lmsLeavesWrong)

/-- 'tearofflaw13.HssFits': WHATEVER THE INPUT: true; the input reads as it did. -/
def hssFitsSpec : ChangeSpec := { name := "hssFits", fn := fun _ => fun
  | [d1, d2, d3] => { results := [.lit (.bool true)], args := [d1, d2, d3] }
  | _ => none }
def hssFitsRow : OpenClaim := { program := "ytiimjodbaogjbaagreatdoor", sum := "1ef2f1f1e5662fbf43af767b8b9e9dca90b55fbcc290ad3e592db2471272a407", func := "tearoff/tearofflaw13.HssFits", spec := "hssFits", inPlace := ["internal/bytealg.MakeNoZero"], unfollowed := true, recurses := true, named := ["tearoff/sets.widths", "tearoff/sets.sums", "tearoff/sets.own", "tearoff/sets.heights", "tearoff/sha2.first", "tearoff/sha2.k", "tearoff/keccak.turns", "tearoff/keccak.rc"], apart := false, laid := [("tearoff/keccak.rc", laid_tearoff_keccak_rc), ("tearoff/keccak.turns", laid_tearoff_keccak_turns), ("tearoff/sets.sums", laid_tearoff_sets_sums), ("tearoff/sets.widths", laid_tearoff_sets_widths), ("tearoff/sets.heights", laid_tearoff_sets_heights), ("tearoff/sets.own", laid_tearoff_sets_own), ("tearoff/sha2.k", laid_tearoff_sha2_k), ("tearoff/sha2.first", laid_tearoff_sha2_first)] }
def HssFitsSaid : Prop := hssFitsRow.holds Tryz.pinned (OpenSpec.ofChange hssFitsSpec)

/-- ITS FALSE NEIGHBOUR: 'it returns false'. Refute it at one input. -/
def hssFitsWrong : ChangeSpec := { name := "hssFits", fn := fun _ => fun
  | [d1, d2, d3] => { results := [.lit (.bool false)], args := [d1, d2, d3] }
  | _ => none }
def HssFitsWrongFalsely : Prop := hssFitsRow.holds Tryz.pinned (OpenSpec.ofChange hssFitsWrong)

/-- 'tearofflaw13.HssSigns': WHATEVER THE INPUT: true; the input reads as it did. -/
def hssSignsSpec : ChangeSpec := { name := "hssSigns", fn := fun _ => fun
  | [d1, d2, d3] => { results := [.lit (.bool true)], args := [d1, d2, d3] }
  | _ => none }
def hssSignsRow : OpenClaim := { program := "ytiimjodbaogjbaagreatdoor", sum := "1ef2f1f1e5662fbf43af767b8b9e9dca90b55fbcc290ad3e592db2471272a407", func := "tearoff/tearofflaw13.HssSigns", spec := "hssSigns", inPlace := ["internal/bytealg.MakeNoZero"], unfollowed := true, recurses := true, named := ["tearoff/sets.widths", "tearoff/sets.sums", "tearoff/sets.own", "tearoff/sets.heights", "tearoff/sha2.first", "tearoff/sha2.k", "tearoff/keccak.turns", "tearoff/keccak.rc"], apart := false, laid := [("tearoff/keccak.rc", laid_tearoff_keccak_rc), ("tearoff/keccak.turns", laid_tearoff_keccak_turns), ("tearoff/sets.sums", laid_tearoff_sets_sums), ("tearoff/sets.widths", laid_tearoff_sets_widths), ("tearoff/sets.heights", laid_tearoff_sets_heights), ("tearoff/sets.own", laid_tearoff_sets_own), ("tearoff/sha2.k", laid_tearoff_sha2_k), ("tearoff/sha2.first", laid_tearoff_sha2_first)] }
def HssSignsSaid : Prop := hssSignsRow.holds Tryz.pinned (OpenSpec.ofChange hssSignsSpec)

/-- ITS FALSE NEIGHBOUR: 'it returns false'. Refute it at one input. -/
def hssSignsWrong : ChangeSpec := { name := "hssSigns", fn := fun _ => fun
  | [d1, d2, d3] => { results := [.lit (.bool false)], args := [d1, d2, d3] }
  | _ => none }
def HssSignsWrongFalsely : Prop := hssSignsRow.holds Tryz.pinned (OpenSpec.ofChange hssSignsWrong)

/-- 'tearofflaw13.HssOne': WHATEVER THE INPUT: true; the input reads as it did. -/
def hssOneSpec : ChangeSpec := { name := "hssOne", fn := fun _ => fun
  | [d1, d2, d3] => { results := [.lit (.bool true)], args := [d1, d2, d3] }
  | _ => none }
def hssOneRow : OpenClaim := { program := "ytiimjodbaogjbaagreatdoor", sum := "1ef2f1f1e5662fbf43af767b8b9e9dca90b55fbcc290ad3e592db2471272a407", func := "tearoff/tearofflaw13.HssOne", spec := "hssOne", inPlace := ["internal/bytealg.MakeNoZero"], unfollowed := true, recurses := true, named := ["tearoff/sets.widths", "tearoff/sets.sums", "tearoff/sets.own", "tearoff/sets.heights", "tearoff/sha2.first", "tearoff/sha2.k", "tearoff/keccak.turns", "tearoff/keccak.rc"], apart := false, laid := [("tearoff/keccak.rc", laid_tearoff_keccak_rc), ("tearoff/keccak.turns", laid_tearoff_keccak_turns), ("tearoff/sets.sums", laid_tearoff_sets_sums), ("tearoff/sets.widths", laid_tearoff_sets_widths), ("tearoff/sets.heights", laid_tearoff_sets_heights), ("tearoff/sets.own", laid_tearoff_sets_own), ("tearoff/sha2.k", laid_tearoff_sha2_k), ("tearoff/sha2.first", laid_tearoff_sha2_first)] }
def HssOneSaid : Prop := hssOneRow.holds Tryz.pinned (OpenSpec.ofChange hssOneSpec)

/-- ITS FALSE NEIGHBOUR: 'it returns false'. Refute it at one input. -/
def hssOneWrong : ChangeSpec := { name := "hssOne", fn := fun _ => fun
  | [d1, d2, d3] => { results := [.lit (.bool false)], args := [d1, d2, d3] }
  | _ => none }
def HssOneWrongFalsely : Prop := hssOneRow.holds Tryz.pinned (OpenSpec.ofChange hssOneWrong)

/-- 'tearofflaw13.HssKeeps': WHATEVER THE INPUT: true; the input reads as it did. -/
def hssKeepsSpec : ChangeSpec := { name := "hssKeeps", fn := fun _ => fun
  | [d1, d2, d3] => { results := [.lit (.bool true)], args := [d1, d2, d3] }
  | _ => none }
def hssKeepsRow : OpenClaim := { program := "ytiimjodbaogjbaagreatdoor", sum := "1ef2f1f1e5662fbf43af767b8b9e9dca90b55fbcc290ad3e592db2471272a407", func := "tearoff/tearofflaw13.HssKeeps", spec := "hssKeeps", inPlace := ["internal/bytealg.MakeNoZero"], unfollowed := true, recurses := true, named := ["tearoff/sets.widths", "tearoff/sets.sums", "tearoff/sets.own", "tearoff/sets.heights", "tearoff/sha2.first", "tearoff/sha2.k", "tearoff/keccak.turns", "tearoff/keccak.rc"], apart := false, laid := [("tearoff/keccak.rc", laid_tearoff_keccak_rc), ("tearoff/keccak.turns", laid_tearoff_keccak_turns), ("tearoff/sets.sums", laid_tearoff_sets_sums), ("tearoff/sets.widths", laid_tearoff_sets_widths), ("tearoff/sets.heights", laid_tearoff_sets_heights), ("tearoff/sets.own", laid_tearoff_sets_own), ("tearoff/sha2.k", laid_tearoff_sha2_k), ("tearoff/sha2.first", laid_tearoff_sha2_first)] }
def HssKeepsSaid : Prop := hssKeepsRow.holds Tryz.pinned (OpenSpec.ofChange hssKeepsSpec)

/-- ITS FALSE NEIGHBOUR: 'it returns false'. Refute it at one input. -/
def hssKeepsWrong : ChangeSpec := { name := "hssKeeps", fn := fun _ => fun
  | [d1, d2, d3] => { results := [.lit (.bool false)], args := [d1, d2, d3] }
  | _ => none }
def HssKeepsWrongFalsely : Prop := hssKeepsRow.holds Tryz.pinned (OpenSpec.ofChange hssKeepsWrong)

/-- 'tearofflaw13.HssLevels': WHATEVER THE INPUT: true; the input reads as it did. -/
def hssLevelsSpec : ChangeSpec := { name := "hssLevels", fn := fun _ => fun
  | [d1, d2, d3] => { results := [.lit (.bool true)], args := [d1, d2, d3] }
  | _ => none }
def hssLevelsRow : OpenClaim := { program := "ytiimjodbaogjbaagreatdoor", sum := "1ef2f1f1e5662fbf43af767b8b9e9dca90b55fbcc290ad3e592db2471272a407", func := "tearoff/tearofflaw13.HssLevels", spec := "hssLevels", inPlace := ["internal/bytealg.MakeNoZero"], unfollowed := true, recurses := true, named := ["tearoff/sets.widths", "tearoff/sets.sums", "tearoff/sets.own", "tearoff/sets.heights", "tearoff/sha2.first", "tearoff/sha2.k", "tearoff/keccak.turns", "tearoff/keccak.rc"], apart := false, laid := [("tearoff/keccak.rc", laid_tearoff_keccak_rc), ("tearoff/keccak.turns", laid_tearoff_keccak_turns), ("tearoff/sets.sums", laid_tearoff_sets_sums), ("tearoff/sets.widths", laid_tearoff_sets_widths), ("tearoff/sets.heights", laid_tearoff_sets_heights), ("tearoff/sets.own", laid_tearoff_sets_own), ("tearoff/sha2.k", laid_tearoff_sha2_k), ("tearoff/sha2.first", laid_tearoff_sha2_first)] }
def HssLevelsSaid : Prop := hssLevelsRow.holds Tryz.pinned (OpenSpec.ofChange hssLevelsSpec)

/-- ITS FALSE NEIGHBOUR: 'it returns false'. Refute it at one input. -/
def hssLevelsWrong : ChangeSpec := { name := "hssLevels", fn := fun _ => fun
  | [d1, d2, d3] => { results := [.lit (.bool false)], args := [d1, d2, d3] }
  | _ => none }
def HssLevelsWrongFalsely : Prop := hssLevelsRow.holds Tryz.pinned (OpenSpec.ofChange hssLevelsWrong)

/- THE SECOND FORM. 'bulk': how many values and letters a reading holds, each counted each time it is reached (what is shared counts as often as it is met; a slice's spare places count too). A statement '..UptoSaid' is the law's where the arguments, and the package variables that the reading takes, are together of bulk at most 1048576: NARROWER than '..Said'. Prove '..Said' where nothing that the law and all that it calls make is longer than what came in: it says more and counts as full. Else prove '..UptoSaid'. A law counts once. -/
mutual
def uptoBulk {H : Type} : DataW H → Nat
  | .lit (.string bytes) => bytes.length + 1
  | .lit _ => 1
  | .nil => 1
  | .ptr d => uptoBulk d + 1
  | .slice elems spare => uptoBulkAll elems + uptoBulkAll spare + 1
  | .agg parts => uptoBulkAll parts + 1
  | .iface _ d => uptoBulk d + 1
  | .map entries => uptoBulkEntries entries + 1
  | .held _ => 1
def uptoBulkAll {H : Type} : List (DataW H) → Nat
  | [] => 0
  | d :: r => uptoBulk d + uptoBulkAll r
def uptoBulkEntries {H : Type} : List (Lit × DataW H) → Nat
  | [] => 0
  | x :: r => uptoBulkEntry x + uptoBulkEntries r
def uptoBulkEntry {H : Type} : Lit × DataW H → Nat
  | (.string bytes, d) => bytes.length + uptoBulk d + 1
  | (_, d) => uptoBulk d + 1
 end
def uptoSmall : (H : Type) → List (DataW H) → Bool := fun _ ds => decide (uptoBulkAll ds ≤ 1048576)
def OpenSpec.upto (s : _root_.Go.ChangeSpec) : _root_.Go.OpenSpec := { _root_.Go.OpenSpec.ofChange s with cond := some uptoSmall }

/-- 'tearofflaw12.LmsPairs', WHERE WHAT IT READS IS OF BULK AT MOST 1048576: true; the input reads as it did. -/
def lmsPairsUptoRow : OpenClaim := { program := "ytiimjodbaogjbaagreatdoor", sum := "1ef2f1f1e5662fbf43af767b8b9e9dca90b55fbcc290ad3e592db2471272a407", func := "tearoff/tearofflaw12.LmsPairs", spec := "lmsPairs", inPlace := ["internal/bytealg.MakeNoZero"], unfollowed := true, recurses := true, named := ["tearoff/sets.widths", "tearoff/sets.sums", "tearoff/sets.own", "tearoff/sets.heights", "tearoff/sha2.first", "tearoff/sha2.k", "tearoff/keccak.turns", "tearoff/keccak.rc"], apart := false, laid := [("tearoff/keccak.rc", laid_tearoff_keccak_rc), ("tearoff/keccak.turns", laid_tearoff_keccak_turns), ("tearoff/sets.sums", laid_tearoff_sets_sums), ("tearoff/sets.widths", laid_tearoff_sets_widths), ("tearoff/sets.heights", laid_tearoff_sets_heights), ("tearoff/sets.own", laid_tearoff_sets_own), ("tearoff/sha2.k", laid_tearoff_sha2_k), ("tearoff/sha2.first", laid_tearoff_sha2_first)], narrowed := true }
def LmsPairsUptoSaid : Prop := lmsPairsUptoRow.holds Tryz.pinned (OpenSpec.upto lmsPairsSpec)

/-- 'tearofflaw12.LmsTakes', WHERE WHAT IT READS IS OF BULK AT MOST 1048576: true; the input reads as it did. -/
def lmsTakesUptoRow : OpenClaim := { program := "ytiimjodbaogjbaagreatdoor", sum := "1ef2f1f1e5662fbf43af767b8b9e9dca90b55fbcc290ad3e592db2471272a407", func := "tearoff/tearofflaw12.LmsTakes", spec := "lmsTakes", inPlace := ["internal/bytealg.MakeNoZero"], unfollowed := true, recurses := true, named := ["tearoff/sets.widths", "tearoff/sets.sums", "tearoff/sets.own", "tearoff/sets.heights", "tearoff/sha2.first", "tearoff/sha2.k", "tearoff/keccak.turns", "tearoff/keccak.rc"], apart := false, laid := [("tearoff/keccak.rc", laid_tearoff_keccak_rc), ("tearoff/keccak.turns", laid_tearoff_keccak_turns), ("tearoff/sets.sums", laid_tearoff_sets_sums), ("tearoff/sets.widths", laid_tearoff_sets_widths), ("tearoff/sets.heights", laid_tearoff_sets_heights), ("tearoff/sets.own", laid_tearoff_sets_own), ("tearoff/sha2.k", laid_tearoff_sha2_k), ("tearoff/sha2.first", laid_tearoff_sha2_first)], narrowed := true }
def LmsTakesUptoSaid : Prop := lmsTakesUptoRow.holds Tryz.pinned (OpenSpec.upto lmsTakesSpec)

/-- 'tearofflaw13.HssPlaces', WHERE WHAT IT READS IS OF BULK AT MOST 1048576: true; the input reads as it did. -/
def hssPlacesUptoRow : OpenClaim := { program := "ytiimjodbaogjbaagreatdoor", sum := "1ef2f1f1e5662fbf43af767b8b9e9dca90b55fbcc290ad3e592db2471272a407", func := "tearoff/tearofflaw13.HssPlaces", spec := "hssPlaces", inPlace := ["internal/bytealg.MakeNoZero"], unfollowed := true, recurses := true, named := ["tearoff/sets.widths", "tearoff/sets.sums", "tearoff/sets.own", "tearoff/sets.heights", "tearoff/sha2.first", "tearoff/sha2.k", "tearoff/keccak.turns", "tearoff/keccak.rc"], apart := false, laid := [("tearoff/keccak.rc", laid_tearoff_keccak_rc), ("tearoff/keccak.turns", laid_tearoff_keccak_turns), ("tearoff/sets.sums", laid_tearoff_sets_sums), ("tearoff/sets.widths", laid_tearoff_sets_widths), ("tearoff/sets.heights", laid_tearoff_sets_heights), ("tearoff/sets.own", laid_tearoff_sets_own), ("tearoff/sha2.k", laid_tearoff_sha2_k), ("tearoff/sha2.first", laid_tearoff_sha2_first)], narrowed := true }
def HssPlacesUptoSaid : Prop := hssPlacesUptoRow.holds Tryz.pinned (OpenSpec.upto hssPlacesSpec)

/-- 'tearofflaw12.LmsSigns', WHERE WHAT IT READS IS OF BULK AT MOST 1048576: true; the input reads as it did. -/
def lmsSignsUptoRow : OpenClaim := { program := "ytiimjodbaogjbaagreatdoor", sum := "1ef2f1f1e5662fbf43af767b8b9e9dca90b55fbcc290ad3e592db2471272a407", func := "tearoff/tearofflaw12.LmsSigns", spec := "lmsSigns", inPlace := ["internal/bytealg.MakeNoZero"], unfollowed := true, recurses := true, named := ["tearoff/sets.widths", "tearoff/sets.sums", "tearoff/sets.own", "tearoff/sets.heights", "tearoff/sha2.first", "tearoff/sha2.k", "tearoff/keccak.turns", "tearoff/keccak.rc"], apart := false, laid := [("tearoff/keccak.rc", laid_tearoff_keccak_rc), ("tearoff/keccak.turns", laid_tearoff_keccak_turns), ("tearoff/sets.sums", laid_tearoff_sets_sums), ("tearoff/sets.widths", laid_tearoff_sets_widths), ("tearoff/sets.heights", laid_tearoff_sets_heights), ("tearoff/sets.own", laid_tearoff_sets_own), ("tearoff/sha2.k", laid_tearoff_sha2_k), ("tearoff/sha2.first", laid_tearoff_sha2_first)], narrowed := true }
def LmsSignsUptoSaid : Prop := lmsSignsUptoRow.holds Tryz.pinned (OpenSpec.upto lmsSignsSpec)

/-- 'tearofflaw12.LmsFits', WHERE WHAT IT READS IS OF BULK AT MOST 1048576: true; the input reads as it did. -/
def lmsFitsUptoRow : OpenClaim := { program := "ytiimjodbaogjbaagreatdoor", sum := "1ef2f1f1e5662fbf43af767b8b9e9dca90b55fbcc290ad3e592db2471272a407", func := "tearoff/tearofflaw12.LmsFits", spec := "lmsFits", inPlace := ["internal/bytealg.MakeNoZero"], unfollowed := true, recurses := true, named := ["tearoff/sets.widths", "tearoff/sets.sums", "tearoff/sets.own", "tearoff/sets.heights", "tearoff/sha2.first", "tearoff/sha2.k", "tearoff/keccak.turns", "tearoff/keccak.rc"], apart := false, laid := [("tearoff/keccak.rc", laid_tearoff_keccak_rc), ("tearoff/keccak.turns", laid_tearoff_keccak_turns), ("tearoff/sets.sums", laid_tearoff_sets_sums), ("tearoff/sets.widths", laid_tearoff_sets_widths), ("tearoff/sets.heights", laid_tearoff_sets_heights), ("tearoff/sets.own", laid_tearoff_sets_own), ("tearoff/sha2.k", laid_tearoff_sha2_k), ("tearoff/sha2.first", laid_tearoff_sha2_first)], narrowed := true }
def LmsFitsUptoSaid : Prop := lmsFitsUptoRow.holds Tryz.pinned (OpenSpec.upto lmsFitsSpec)

/-- 'tearofflaw12.LmsKeeps', WHERE WHAT IT READS IS OF BULK AT MOST 1048576: true; the input reads as it did. -/
def lmsKeepsUptoRow : OpenClaim := { program := "ytiimjodbaogjbaagreatdoor", sum := "1ef2f1f1e5662fbf43af767b8b9e9dca90b55fbcc290ad3e592db2471272a407", func := "tearoff/tearofflaw12.LmsKeeps", spec := "lmsKeeps", inPlace := ["internal/bytealg.MakeNoZero"], unfollowed := true, recurses := true, named := ["tearoff/sets.widths", "tearoff/sets.sums", "tearoff/sets.own", "tearoff/sets.heights", "tearoff/sha2.first", "tearoff/sha2.k", "tearoff/keccak.turns", "tearoff/keccak.rc"], apart := false, laid := [("tearoff/keccak.rc", laid_tearoff_keccak_rc), ("tearoff/keccak.turns", laid_tearoff_keccak_turns), ("tearoff/sets.sums", laid_tearoff_sets_sums), ("tearoff/sets.widths", laid_tearoff_sets_widths), ("tearoff/sets.heights", laid_tearoff_sets_heights), ("tearoff/sets.own", laid_tearoff_sets_own), ("tearoff/sha2.k", laid_tearoff_sha2_k), ("tearoff/sha2.first", laid_tearoff_sha2_first)], narrowed := true }
def LmsKeepsUptoSaid : Prop := lmsKeepsUptoRow.holds Tryz.pinned (OpenSpec.upto lmsKeepsSpec)

/-- 'tearofflaw12.LmsLeaves', WHERE WHAT IT READS IS OF BULK AT MOST 1048576: true; the input reads as it did. -/
def lmsLeavesUptoRow : OpenClaim := { program := "ytiimjodbaogjbaagreatdoor", sum := "1ef2f1f1e5662fbf43af767b8b9e9dca90b55fbcc290ad3e592db2471272a407", func := "tearoff/tearofflaw12.LmsLeaves", spec := "lmsLeaves", inPlace := ["internal/bytealg.MakeNoZero"], unfollowed := true, recurses := true, named := ["tearoff/sets.widths", "tearoff/sets.sums", "tearoff/sets.own", "tearoff/sets.heights", "tearoff/sha2.first", "tearoff/sha2.k", "tearoff/keccak.turns", "tearoff/keccak.rc"], apart := false, laid := [("tearoff/keccak.rc", laid_tearoff_keccak_rc), ("tearoff/keccak.turns", laid_tearoff_keccak_turns), ("tearoff/sets.sums", laid_tearoff_sets_sums), ("tearoff/sets.widths", laid_tearoff_sets_widths), ("tearoff/sets.heights", laid_tearoff_sets_heights), ("tearoff/sets.own", laid_tearoff_sets_own), ("tearoff/sha2.k", laid_tearoff_sha2_k), ("tearoff/sha2.first", laid_tearoff_sha2_first)], narrowed := true }
def LmsLeavesUptoSaid : Prop := lmsLeavesUptoRow.holds Tryz.pinned (OpenSpec.upto lmsLeavesSpec)

/-- 'tearofflaw13.HssFits', WHERE WHAT IT READS IS OF BULK AT MOST 1048576: true; the input reads as it did. -/
def hssFitsUptoRow : OpenClaim := { program := "ytiimjodbaogjbaagreatdoor", sum := "1ef2f1f1e5662fbf43af767b8b9e9dca90b55fbcc290ad3e592db2471272a407", func := "tearoff/tearofflaw13.HssFits", spec := "hssFits", inPlace := ["internal/bytealg.MakeNoZero"], unfollowed := true, recurses := true, named := ["tearoff/sets.widths", "tearoff/sets.sums", "tearoff/sets.own", "tearoff/sets.heights", "tearoff/sha2.first", "tearoff/sha2.k", "tearoff/keccak.turns", "tearoff/keccak.rc"], apart := false, laid := [("tearoff/keccak.rc", laid_tearoff_keccak_rc), ("tearoff/keccak.turns", laid_tearoff_keccak_turns), ("tearoff/sets.sums", laid_tearoff_sets_sums), ("tearoff/sets.widths", laid_tearoff_sets_widths), ("tearoff/sets.heights", laid_tearoff_sets_heights), ("tearoff/sets.own", laid_tearoff_sets_own), ("tearoff/sha2.k", laid_tearoff_sha2_k), ("tearoff/sha2.first", laid_tearoff_sha2_first)], narrowed := true }
def HssFitsUptoSaid : Prop := hssFitsUptoRow.holds Tryz.pinned (OpenSpec.upto hssFitsSpec)

/-- 'tearofflaw13.HssSigns', WHERE WHAT IT READS IS OF BULK AT MOST 1048576: true; the input reads as it did. -/
def hssSignsUptoRow : OpenClaim := { program := "ytiimjodbaogjbaagreatdoor", sum := "1ef2f1f1e5662fbf43af767b8b9e9dca90b55fbcc290ad3e592db2471272a407", func := "tearoff/tearofflaw13.HssSigns", spec := "hssSigns", inPlace := ["internal/bytealg.MakeNoZero"], unfollowed := true, recurses := true, named := ["tearoff/sets.widths", "tearoff/sets.sums", "tearoff/sets.own", "tearoff/sets.heights", "tearoff/sha2.first", "tearoff/sha2.k", "tearoff/keccak.turns", "tearoff/keccak.rc"], apart := false, laid := [("tearoff/keccak.rc", laid_tearoff_keccak_rc), ("tearoff/keccak.turns", laid_tearoff_keccak_turns), ("tearoff/sets.sums", laid_tearoff_sets_sums), ("tearoff/sets.widths", laid_tearoff_sets_widths), ("tearoff/sets.heights", laid_tearoff_sets_heights), ("tearoff/sets.own", laid_tearoff_sets_own), ("tearoff/sha2.k", laid_tearoff_sha2_k), ("tearoff/sha2.first", laid_tearoff_sha2_first)], narrowed := true }
def HssSignsUptoSaid : Prop := hssSignsUptoRow.holds Tryz.pinned (OpenSpec.upto hssSignsSpec)

/-- 'tearofflaw13.HssOne', WHERE WHAT IT READS IS OF BULK AT MOST 1048576: true; the input reads as it did. -/
def hssOneUptoRow : OpenClaim := { program := "ytiimjodbaogjbaagreatdoor", sum := "1ef2f1f1e5662fbf43af767b8b9e9dca90b55fbcc290ad3e592db2471272a407", func := "tearoff/tearofflaw13.HssOne", spec := "hssOne", inPlace := ["internal/bytealg.MakeNoZero"], unfollowed := true, recurses := true, named := ["tearoff/sets.widths", "tearoff/sets.sums", "tearoff/sets.own", "tearoff/sets.heights", "tearoff/sha2.first", "tearoff/sha2.k", "tearoff/keccak.turns", "tearoff/keccak.rc"], apart := false, laid := [("tearoff/keccak.rc", laid_tearoff_keccak_rc), ("tearoff/keccak.turns", laid_tearoff_keccak_turns), ("tearoff/sets.sums", laid_tearoff_sets_sums), ("tearoff/sets.widths", laid_tearoff_sets_widths), ("tearoff/sets.heights", laid_tearoff_sets_heights), ("tearoff/sets.own", laid_tearoff_sets_own), ("tearoff/sha2.k", laid_tearoff_sha2_k), ("tearoff/sha2.first", laid_tearoff_sha2_first)], narrowed := true }
def HssOneUptoSaid : Prop := hssOneUptoRow.holds Tryz.pinned (OpenSpec.upto hssOneSpec)

/-- 'tearofflaw13.HssKeeps', WHERE WHAT IT READS IS OF BULK AT MOST 1048576: true; the input reads as it did. -/
def hssKeepsUptoRow : OpenClaim := { program := "ytiimjodbaogjbaagreatdoor", sum := "1ef2f1f1e5662fbf43af767b8b9e9dca90b55fbcc290ad3e592db2471272a407", func := "tearoff/tearofflaw13.HssKeeps", spec := "hssKeeps", inPlace := ["internal/bytealg.MakeNoZero"], unfollowed := true, recurses := true, named := ["tearoff/sets.widths", "tearoff/sets.sums", "tearoff/sets.own", "tearoff/sets.heights", "tearoff/sha2.first", "tearoff/sha2.k", "tearoff/keccak.turns", "tearoff/keccak.rc"], apart := false, laid := [("tearoff/keccak.rc", laid_tearoff_keccak_rc), ("tearoff/keccak.turns", laid_tearoff_keccak_turns), ("tearoff/sets.sums", laid_tearoff_sets_sums), ("tearoff/sets.widths", laid_tearoff_sets_widths), ("tearoff/sets.heights", laid_tearoff_sets_heights), ("tearoff/sets.own", laid_tearoff_sets_own), ("tearoff/sha2.k", laid_tearoff_sha2_k), ("tearoff/sha2.first", laid_tearoff_sha2_first)], narrowed := true }
def HssKeepsUptoSaid : Prop := hssKeepsUptoRow.holds Tryz.pinned (OpenSpec.upto hssKeepsSpec)

/-- 'tearofflaw13.HssLevels', WHERE WHAT IT READS IS OF BULK AT MOST 1048576: true; the input reads as it did. -/
def hssLevelsUptoRow : OpenClaim := { program := "ytiimjodbaogjbaagreatdoor", sum := "1ef2f1f1e5662fbf43af767b8b9e9dca90b55fbcc290ad3e592db2471272a407", func := "tearoff/tearofflaw13.HssLevels", spec := "hssLevels", inPlace := ["internal/bytealg.MakeNoZero"], unfollowed := true, recurses := true, named := ["tearoff/sets.widths", "tearoff/sets.sums", "tearoff/sets.own", "tearoff/sets.heights", "tearoff/sha2.first", "tearoff/sha2.k", "tearoff/keccak.turns", "tearoff/keccak.rc"], apart := false, laid := [("tearoff/keccak.rc", laid_tearoff_keccak_rc), ("tearoff/keccak.turns", laid_tearoff_keccak_turns), ("tearoff/sets.sums", laid_tearoff_sets_sums), ("tearoff/sets.widths", laid_tearoff_sets_widths), ("tearoff/sets.heights", laid_tearoff_sets_heights), ("tearoff/sets.own", laid_tearoff_sets_own), ("tearoff/sha2.k", laid_tearoff_sha2_k), ("tearoff/sha2.first", laid_tearoff_sha2_first)], narrowed := true }
def HssLevelsUptoSaid : Prop := hssLevelsUptoRow.holds Tryz.pinned (OpenSpec.upto hssLevelsSpec)

end Rows
end Go.Proofs.YtiimjodbaogjbaaGreatDoor
