/-
  NARROWER THAN 'FOR EVERY INPUT', by the rows' own cells (each row's printed sentence says how): HssCounts: laid · SlotsAreas: laid · SlotsTurns: laid · SlotsBlank: laid · SlotsFull: laid · SlotsPlay: laid · ReserveBytes: laid · ReserveHeads: laid · ReserveRows: laid · ReserveAll: laid · ReserveLoss: laid · ReservePlays: laid.
  DERIVED. THE GIVEN ROWS OF THIS SEAT. 12 by the template 'for every input the law returns true; each argument reads behind the call as it read before'; 0 by the template 'total and deterministic' (their statements: YtbgdjdhbejbhkaaDoorTotals.lean).
  GIVEN WITH THE SEED: the statements are not yours to turn. If you find one false, say at which input.
  Laid BY PROGRAM, IN A SANDBOX (cutbox-rows.mjs): the forced cells as the released guide's own fill.sh prints them over the translation 88960936eb30d2a7… (all of the seat's roots in one cut). By AI agents, Wed Nov 11 2026. No macro, syntax, notation, axiom, sorry.
-/
import Derived.Test.YtbgdjdhbejbhkaaDoorChecked
import GoSem.Claim
import GoSem.ClaimJoined
import GoSem.ClaimMapViews
import Derived.JoinedTies
import Derived.KernelRfl
namespace Go.Proofs.YtbgdjdhbejbhkaaDoor
/- THE CELL 'sum', in the pinned program and in every row, IS THE sha256 OF THE DUMP (.gsa) THAT YtbgdjdhbejbhkaaDoorProg.lean LOADS. Nothing in Lean hashes anything: it is a label: what it is worth is what the hold of that sum in a sandbox is worth. -/
noncomputable def Tryd.pinned : Pinned := { name := "ytbgdjdhbejbhkaadoor", sum := "88960936eb30d2a72ce996ea85047b6f5b331ae38079c0414e3d9eef4a8b8857", checked := Tryd.checked }
namespace Rows
def none {H : Type} : Left H := { results := [], args := [] }

/- WHAT THE LISTED PACKAGE-LEVEL VARIABLES READ AS WHEN THE CALL BEGINS. Each datum BY PROGRAM (the guide's laid-datum.mjs) off the statement by which the dump's own 'gosem.cut.vars' lays the variable. In a bare row this is a premise. The card (YtbgdjdhbejbhkaaDoorCards.lean) ties it to the program's text. -/
def laid_tearoff_sets_sums {H : Type} : DataW H := .agg [.agg [.lit (.int .i64 0), .lit (.int .i64 32)], .agg [.lit (.int .i64 0), .lit (.int .i64 24)], .agg [.lit (.int .i64 1), .lit (.int .i64 32)], .agg [.lit (.int .i64 1), .lit (.int .i64 24)]]
def laid_tearoff_sets_widths {H : Type} : DataW H := .agg [.lit (.int .i64 1), .lit (.int .i64 2), .lit (.int .i64 4), .lit (.int .i64 8)]
def laid_tearoff_sets_heights {H : Type} : DataW H := .agg [.lit (.int .i64 5), .lit (.int .i64 10), .lit (.int .i64 15), .lit (.int .i64 20), .lit (.int .i64 25)]
def laid_tearoff_sets_own {H : Type} : DataW H := .agg [.lit (.int .i64 1), .lit (.int .i64 2), .lit (.int .i64 3), .lit (.int .i64 4)]
def laid_tearoff_sha2_k {H : Type} : DataW H := .agg [.lit (.int .u32 1116352408), .lit (.int .u32 1899447441), .lit (.int .u32 3049323471), .lit (.int .u32 3921009573), .lit (.int .u32 961987163), .lit (.int .u32 1508970993), .lit (.int .u32 2453635748), .lit (.int .u32 2870763221), .lit (.int .u32 3624381080), .lit (.int .u32 310598401), .lit (.int .u32 607225278), .lit (.int .u32 1426881987), .lit (.int .u32 1925078388), .lit (.int .u32 2162078206), .lit (.int .u32 2614888103), .lit (.int .u32 3248222580), .lit (.int .u32 3835390401), .lit (.int .u32 4022224774), .lit (.int .u32 264347078), .lit (.int .u32 604807628), .lit (.int .u32 770255983), .lit (.int .u32 1249150122), .lit (.int .u32 1555081692), .lit (.int .u32 1996064986), .lit (.int .u32 2554220882), .lit (.int .u32 2821834349), .lit (.int .u32 2952996808), .lit (.int .u32 3210313671), .lit (.int .u32 3336571891), .lit (.int .u32 3584528711), .lit (.int .u32 113926993), .lit (.int .u32 338241895), .lit (.int .u32 666307205), .lit (.int .u32 773529912), .lit (.int .u32 1294757372), .lit (.int .u32 1396182291), .lit (.int .u32 1695183700), .lit (.int .u32 1986661051), .lit (.int .u32 2177026350), .lit (.int .u32 2456956037), .lit (.int .u32 2730485921), .lit (.int .u32 2820302411), .lit (.int .u32 3259730800), .lit (.int .u32 3345764771), .lit (.int .u32 3516065817), .lit (.int .u32 3600352804), .lit (.int .u32 4094571909), .lit (.int .u32 275423344), .lit (.int .u32 430227734), .lit (.int .u32 506948616), .lit (.int .u32 659060556), .lit (.int .u32 883997877), .lit (.int .u32 958139571), .lit (.int .u32 1322822218), .lit (.int .u32 1537002063), .lit (.int .u32 1747873779), .lit (.int .u32 1955562222), .lit (.int .u32 2024104815), .lit (.int .u32 2227730452), .lit (.int .u32 2361852424), .lit (.int .u32 2428436474), .lit (.int .u32 2756734187), .lit (.int .u32 3204031479), .lit (.int .u32 3329325298)]
def laid_tearoff_sha2_first {H : Type} : DataW H := .agg [.lit (.int .u32 1779033703), .lit (.int .u32 3144134277), .lit (.int .u32 1013904242), .lit (.int .u32 2773480762), .lit (.int .u32 1359893119), .lit (.int .u32 2600822924), .lit (.int .u32 528734635), .lit (.int .u32 1541459225)]

/-- 'tearofflaw13.HssCounts': WHATEVER THE INPUT: true; the input reads as it did. -/
def hssCountsSpec : ChangeSpec := { name := "hssCounts", fn := fun _ => fun
  | [d1, d2] => { results := [.lit (.bool true)], args := [d1, d2] }
  | _ => none }
def hssCountsRow : OpenClaim := { program := "ytbgdjdhbejbhkaadoor", sum := "88960936eb30d2a72ce996ea85047b6f5b331ae38079c0414e3d9eef4a8b8857", func := "tearoff/tearofflaw13.HssCounts", spec := "hssCounts", unfollowed := true, recurses := true, named := ["tearoff/sets.widths", "tearoff/sets.sums", "tearoff/sets.own", "tearoff/sets.heights"], apart := false, laid := [("tearoff/sets.sums", laid_tearoff_sets_sums), ("tearoff/sets.widths", laid_tearoff_sets_widths), ("tearoff/sets.heights", laid_tearoff_sets_heights), ("tearoff/sets.own", laid_tearoff_sets_own)] }
def HssCountsSaid : Prop := hssCountsRow.holds Tryd.pinned (OpenSpec.ofChange hssCountsSpec)

/-- ITS FALSE NEIGHBOUR: 'it returns false'. Refute it at one input. -/
def hssCountsWrong : ChangeSpec := { name := "hssCounts", fn := fun _ => fun
  | [d1, d2] => { results := [.lit (.bool false)], args := [d1, d2] }
  | _ => none }
def HssCountsWrongFalsely : Prop := hssCountsRow.holds Tryd.pinned (OpenSpec.ofChange hssCountsWrong)

/-- 'tearofflaw20.SlotsAreas': WHATEVER THE INPUT: true; the input reads as it did. -/
def slotsAreasSpec : ChangeSpec := { name := "slotsAreas", fn := fun _ => fun
  | [d1, d2, d3] => { results := [.lit (.bool true)], args := [d1, d2, d3] }
  | _ => none }
def slotsAreasRow : OpenClaim := { program := "ytbgdjdhbejbhkaadoor", sum := "88960936eb30d2a72ce996ea85047b6f5b331ae38079c0414e3d9eef4a8b8857", func := "tearoff/tearofflaw20.SlotsAreas", spec := "slotsAreas", inPlace := ["internal/bytealg.MakeNoZero"], unfollowed := true, recurses := true, named := ["tearoff/sha2.first", "tearoff/sha2.k"], apart := false, laid := [("tearoff/sha2.k", laid_tearoff_sha2_k), ("tearoff/sha2.first", laid_tearoff_sha2_first)] }
def SlotsAreasSaid : Prop := slotsAreasRow.holds Tryd.pinned (OpenSpec.ofChange slotsAreasSpec)

/-- ITS FALSE NEIGHBOUR: 'it returns false'. Refute it at one input. -/
def slotsAreasWrong : ChangeSpec := { name := "slotsAreas", fn := fun _ => fun
  | [d1, d2, d3] => { results := [.lit (.bool false)], args := [d1, d2, d3] }
  | _ => none }
def SlotsAreasWrongFalsely : Prop := slotsAreasRow.holds Tryd.pinned (OpenSpec.ofChange slotsAreasWrong)

/-- 'tearofflaw20.SlotsTurns': WHATEVER THE INPUT: true; the input reads as it did. -/
def slotsTurnsSpec : ChangeSpec := { name := "slotsTurns", fn := fun _ => fun
  | [d] => { results := [.lit (.bool true)], args := [d] }
  | _ => none }
def slotsTurnsRow : OpenClaim := { program := "ytbgdjdhbejbhkaadoor", sum := "88960936eb30d2a72ce996ea85047b6f5b331ae38079c0414e3d9eef4a8b8857", func := "tearoff/tearofflaw20.SlotsTurns", spec := "slotsTurns", inPlace := ["internal/bytealg.MakeNoZero"], unfollowed := true, recurses := true, named := ["tearoff/sha2.first", "tearoff/sha2.k"], apart := false, laid := [("tearoff/sha2.k", laid_tearoff_sha2_k), ("tearoff/sha2.first", laid_tearoff_sha2_first)] }
def SlotsTurnsSaid : Prop := slotsTurnsRow.holds Tryd.pinned (OpenSpec.ofChange slotsTurnsSpec)

/-- ITS FALSE NEIGHBOUR: 'it returns false'. Refute it at one input. -/
def slotsTurnsWrong : ChangeSpec := { name := "slotsTurns", fn := fun _ => fun
  | [d] => { results := [.lit (.bool false)], args := [d] }
  | _ => none }
def SlotsTurnsWrongFalsely : Prop := slotsTurnsRow.holds Tryd.pinned (OpenSpec.ofChange slotsTurnsWrong)

/-- 'tearofflaw20.SlotsBlank': WHATEVER THE INPUT: true; the input reads as it did. -/
def slotsBlankSpec : ChangeSpec := { name := "slotsBlank", fn := fun _ => fun
  | [d1, d2] => { results := [.lit (.bool true)], args := [d1, d2] }
  | _ => none }
def slotsBlankRow : OpenClaim := { program := "ytbgdjdhbejbhkaadoor", sum := "88960936eb30d2a72ce996ea85047b6f5b331ae38079c0414e3d9eef4a8b8857", func := "tearoff/tearofflaw20.SlotsBlank", spec := "slotsBlank", inPlace := ["internal/bytealg.MakeNoZero"], unfollowed := true, recurses := true, named := ["tearoff/sha2.first", "tearoff/sha2.k"], apart := false, laid := [("tearoff/sha2.k", laid_tearoff_sha2_k), ("tearoff/sha2.first", laid_tearoff_sha2_first)] }
def SlotsBlankSaid : Prop := slotsBlankRow.holds Tryd.pinned (OpenSpec.ofChange slotsBlankSpec)

/-- ITS FALSE NEIGHBOUR: 'it returns false'. Refute it at one input. -/
def slotsBlankWrong : ChangeSpec := { name := "slotsBlank", fn := fun _ => fun
  | [d1, d2] => { results := [.lit (.bool false)], args := [d1, d2] }
  | _ => none }
def SlotsBlankWrongFalsely : Prop := slotsBlankRow.holds Tryd.pinned (OpenSpec.ofChange slotsBlankWrong)

/-- 'tearofflaw20.SlotsFull': WHATEVER THE INPUT: true; the input reads as it did. -/
def slotsFullSpec : ChangeSpec := { name := "slotsFull", fn := fun _ => fun
  | [d1, d2] => { results := [.lit (.bool true)], args := [d1, d2] }
  | _ => none }
def slotsFullRow : OpenClaim := { program := "ytbgdjdhbejbhkaadoor", sum := "88960936eb30d2a72ce996ea85047b6f5b331ae38079c0414e3d9eef4a8b8857", func := "tearoff/tearofflaw20.SlotsFull", spec := "slotsFull", inPlace := ["internal/bytealg.MakeNoZero"], unfollowed := true, recurses := true, named := ["tearoff/sha2.first", "tearoff/sha2.k"], apart := false, laid := [("tearoff/sha2.k", laid_tearoff_sha2_k), ("tearoff/sha2.first", laid_tearoff_sha2_first)] }
def SlotsFullSaid : Prop := slotsFullRow.holds Tryd.pinned (OpenSpec.ofChange slotsFullSpec)

/-- ITS FALSE NEIGHBOUR: 'it returns false'. Refute it at one input. -/
def slotsFullWrong : ChangeSpec := { name := "slotsFull", fn := fun _ => fun
  | [d1, d2] => { results := [.lit (.bool false)], args := [d1, d2] }
  | _ => none }
def SlotsFullWrongFalsely : Prop := slotsFullRow.holds Tryd.pinned (OpenSpec.ofChange slotsFullWrong)

/-- 'tearofflaw20.SlotsPlay': WHATEVER THE INPUT: true; the input reads as it did. -/
def slotsPlaySpec : ChangeSpec := { name := "slotsPlay", fn := fun _ => fun
  | [d1, d2, d3] => { results := [.lit (.bool true)], args := [d1, d2, d3] }
  | _ => none }
def slotsPlayRow : OpenClaim := { program := "ytbgdjdhbejbhkaadoor", sum := "88960936eb30d2a72ce996ea85047b6f5b331ae38079c0414e3d9eef4a8b8857", func := "tearoff/tearofflaw20.SlotsPlay", spec := "slotsPlay", inPlace := ["internal/bytealg.MakeNoZero"], unfollowed := true, recurses := true, named := ["tearoff/sha2.first", "tearoff/sha2.k"], apart := false, laid := [("tearoff/sha2.k", laid_tearoff_sha2_k), ("tearoff/sha2.first", laid_tearoff_sha2_first)] }
def SlotsPlaySaid : Prop := slotsPlayRow.holds Tryd.pinned (OpenSpec.ofChange slotsPlaySpec)

/-- ITS FALSE NEIGHBOUR: 'it returns false'. Refute it at one input. -/
def slotsPlayWrong : ChangeSpec := { name := "slotsPlay", fn := fun _ => fun
  | [d1, d2, d3] => { results := [.lit (.bool false)], args := [d1, d2, d3] }
  | _ => none }
def SlotsPlayWrongFalsely : Prop := slotsPlayRow.holds Tryd.pinned (OpenSpec.ofChange slotsPlayWrong)

/-- 'tearofflaw21.ReserveBytes': WHATEVER THE INPUT: true; the input reads as it did. -/
def reserveBytesSpec : ChangeSpec := { name := "reserveBytes", fn := fun _ => fun
  | [d1, d2, d3] => { results := [.lit (.bool true)], args := [d1, d2, d3] }
  | _ => none }
def reserveBytesRow : OpenClaim := { program := "ytbgdjdhbejbhkaadoor", sum := "88960936eb30d2a72ce996ea85047b6f5b331ae38079c0414e3d9eef4a8b8857", func := "tearoff/tearofflaw21.ReserveBytes", spec := "reserveBytes", inPlace := ["internal/bytealg.MakeNoZero"], unfollowed := true, recurses := true, named := ["tearoff/sha2.first", "tearoff/sha2.k"], apart := false, laid := [("tearoff/sha2.k", laid_tearoff_sha2_k), ("tearoff/sha2.first", laid_tearoff_sha2_first)] }
def ReserveBytesSaid : Prop := reserveBytesRow.holds Tryd.pinned (OpenSpec.ofChange reserveBytesSpec)

/-- ITS FALSE NEIGHBOUR: 'it returns false'. Refute it at one input. -/
def reserveBytesWrong : ChangeSpec := { name := "reserveBytes", fn := fun _ => fun
  | [d1, d2, d3] => { results := [.lit (.bool false)], args := [d1, d2, d3] }
  | _ => none }
def ReserveBytesWrongFalsely : Prop := reserveBytesRow.holds Tryd.pinned (OpenSpec.ofChange reserveBytesWrong)

/-- 'tearofflaw21.ReserveHeads': WHATEVER THE INPUT: true; the input reads as it did. -/
def reserveHeadsSpec : ChangeSpec := { name := "reserveHeads", fn := fun _ => fun
  | [d1, d2] => { results := [.lit (.bool true)], args := [d1, d2] }
  | _ => none }
def reserveHeadsRow : OpenClaim := { program := "ytbgdjdhbejbhkaadoor", sum := "88960936eb30d2a72ce996ea85047b6f5b331ae38079c0414e3d9eef4a8b8857", func := "tearoff/tearofflaw21.ReserveHeads", spec := "reserveHeads", inPlace := ["internal/bytealg.MakeNoZero"], unfollowed := true, recurses := true, named := ["tearoff/sha2.first", "tearoff/sha2.k"], apart := false, laid := [("tearoff/sha2.k", laid_tearoff_sha2_k), ("tearoff/sha2.first", laid_tearoff_sha2_first)] }
def ReserveHeadsSaid : Prop := reserveHeadsRow.holds Tryd.pinned (OpenSpec.ofChange reserveHeadsSpec)

/-- ITS FALSE NEIGHBOUR: 'it returns false'. Refute it at one input. -/
def reserveHeadsWrong : ChangeSpec := { name := "reserveHeads", fn := fun _ => fun
  | [d1, d2] => { results := [.lit (.bool false)], args := [d1, d2] }
  | _ => none }
def ReserveHeadsWrongFalsely : Prop := reserveHeadsRow.holds Tryd.pinned (OpenSpec.ofChange reserveHeadsWrong)

/-- 'tearofflaw21.ReserveRows': WHATEVER THE INPUT: true; the input reads as it did. -/
def reserveRowsSpec : ChangeSpec := { name := "reserveRows", fn := fun _ => fun
  | [d1, d2, d3] => { results := [.lit (.bool true)], args := [d1, d2, d3] }
  | _ => none }
def reserveRowsRow : OpenClaim := { program := "ytbgdjdhbejbhkaadoor", sum := "88960936eb30d2a72ce996ea85047b6f5b331ae38079c0414e3d9eef4a8b8857", func := "tearoff/tearofflaw21.ReserveRows", spec := "reserveRows", inPlace := ["internal/bytealg.MakeNoZero"], unfollowed := true, recurses := true, named := ["tearoff/sha2.first", "tearoff/sha2.k"], apart := false, laid := [("tearoff/sha2.k", laid_tearoff_sha2_k), ("tearoff/sha2.first", laid_tearoff_sha2_first)] }
def ReserveRowsSaid : Prop := reserveRowsRow.holds Tryd.pinned (OpenSpec.ofChange reserveRowsSpec)

/-- ITS FALSE NEIGHBOUR: 'it returns false'. Refute it at one input. -/
def reserveRowsWrong : ChangeSpec := { name := "reserveRows", fn := fun _ => fun
  | [d1, d2, d3] => { results := [.lit (.bool false)], args := [d1, d2, d3] }
  | _ => none }
def ReserveRowsWrongFalsely : Prop := reserveRowsRow.holds Tryd.pinned (OpenSpec.ofChange reserveRowsWrong)

/-- 'tearofflaw21.ReserveAll': WHATEVER THE INPUT: true; the input reads as it did. -/
def reserveAllSpec : ChangeSpec := { name := "reserveAll", fn := fun _ => fun
  | [d1, d2] => { results := [.lit (.bool true)], args := [d1, d2] }
  | _ => none }
def reserveAllRow : OpenClaim := { program := "ytbgdjdhbejbhkaadoor", sum := "88960936eb30d2a72ce996ea85047b6f5b331ae38079c0414e3d9eef4a8b8857", func := "tearoff/tearofflaw21.ReserveAll", spec := "reserveAll", inPlace := ["internal/bytealg.MakeNoZero"], unfollowed := true, recurses := true, named := ["tearoff/sha2.first", "tearoff/sha2.k"], apart := false, laid := [("tearoff/sha2.k", laid_tearoff_sha2_k), ("tearoff/sha2.first", laid_tearoff_sha2_first)] }
def ReserveAllSaid : Prop := reserveAllRow.holds Tryd.pinned (OpenSpec.ofChange reserveAllSpec)

/-- ITS FALSE NEIGHBOUR: 'it returns false'. Refute it at one input. -/
def reserveAllWrong : ChangeSpec := { name := "reserveAll", fn := fun _ => fun
  | [d1, d2] => { results := [.lit (.bool false)], args := [d1, d2] }
  | _ => none }
def ReserveAllWrongFalsely : Prop := reserveAllRow.holds Tryd.pinned (OpenSpec.ofChange reserveAllWrong)

/-- 'tearofflaw21.ReserveLoss': WHATEVER THE INPUT: true; the input reads as it did. -/
def reserveLossSpec : ChangeSpec := { name := "reserveLoss", fn := fun _ => fun
  | [d1, d2] => { results := [.lit (.bool true)], args := [d1, d2] }
  | _ => none }
def reserveLossRow : OpenClaim := { program := "ytbgdjdhbejbhkaadoor", sum := "88960936eb30d2a72ce996ea85047b6f5b331ae38079c0414e3d9eef4a8b8857", func := "tearoff/tearofflaw21.ReserveLoss", spec := "reserveLoss", inPlace := ["internal/bytealg.MakeNoZero"], unfollowed := true, recurses := true, named := ["tearoff/sha2.first", "tearoff/sha2.k"], apart := false, laid := [("tearoff/sha2.k", laid_tearoff_sha2_k), ("tearoff/sha2.first", laid_tearoff_sha2_first)] }
def ReserveLossSaid : Prop := reserveLossRow.holds Tryd.pinned (OpenSpec.ofChange reserveLossSpec)

/-- ITS FALSE NEIGHBOUR: 'it returns false'. Refute it at one input. -/
def reserveLossWrong : ChangeSpec := { name := "reserveLoss", fn := fun _ => fun
  | [d1, d2] => { results := [.lit (.bool false)], args := [d1, d2] }
  | _ => none }
def ReserveLossWrongFalsely : Prop := reserveLossRow.holds Tryd.pinned (OpenSpec.ofChange reserveLossWrong)

/-- 'tearofflaw21.ReservePlays': WHATEVER THE INPUT: true; the input reads as it did. -/
def reservePlaysSpec : ChangeSpec := { name := "reservePlays", fn := fun _ => fun
  | [d1, d2] => { results := [.lit (.bool true)], args := [d1, d2] }
  | _ => none }
def reservePlaysRow : OpenClaim := { program := "ytbgdjdhbejbhkaadoor", sum := "88960936eb30d2a72ce996ea85047b6f5b331ae38079c0414e3d9eef4a8b8857", func := "tearoff/tearofflaw21.ReservePlays", spec := "reservePlays", inPlace := ["internal/bytealg.MakeNoZero"], unfollowed := true, recurses := true, named := ["tearoff/sha2.first", "tearoff/sha2.k"], apart := false, laid := [("tearoff/sha2.k", laid_tearoff_sha2_k), ("tearoff/sha2.first", laid_tearoff_sha2_first)] }
def ReservePlaysSaid : Prop := reservePlaysRow.holds Tryd.pinned (OpenSpec.ofChange reservePlaysSpec)

/-- ITS FALSE NEIGHBOUR: 'it returns false'. Refute it at one input. -/
def reservePlaysWrong : ChangeSpec := { name := "reservePlays", fn := fun _ => fun
  | [d1, d2] => { results := [.lit (.bool false)], args := [d1, d2] }
  | _ => none }
def ReservePlaysWrongFalsely : Prop := reservePlaysRow.holds Tryd.pinned (OpenSpec.ofChange reservePlaysWrong)

/- THE SECOND FORM. 'bulk': how many values and letters a reading holds, each counted each time it is reached (what is shared counts as often as it is met; a slice's spare places count too). A statement '..UptoSaid' is the law's where the arguments, and the package variables that the reading takes, are together of bulk at most 1048576: NARROWER than '..Said'. Prove '..Said' where nothing that the law and all that it calls make is longer than what came in: it says more and counts as full. Else prove '..UptoSaid'. A law counts once. -/
mutual
def uptoBulk {H : Type} : DataW H → Nat
  | .lit (.string bytes) => bytes.length + 1
  | .lit _ => 1
  | .nil => 1
  | .ptr d => uptoBulk d + 1
  | .slice elems spare => uptoBulkAll elems + uptoBulkAll spare + 1
  | .agg parts => uptoBulkAll parts + 1
  | .iface _ d => uptoBulk d + 1
  | .map entries => uptoBulkEntries entries + 1
  | .held _ => 1
def uptoBulkAll {H : Type} : List (DataW H) → Nat
  | [] => 0
  | d :: r => uptoBulk d + uptoBulkAll r
def uptoBulkEntries {H : Type} : List (Lit × DataW H) → Nat
  | [] => 0
  | x :: r => uptoBulkEntry x + uptoBulkEntries r
def uptoBulkEntry {H : Type} : Lit × DataW H → Nat
  | (.string bytes, d) => bytes.length + uptoBulk d + 1
  | (_, d) => uptoBulk d + 1
 end
def uptoSmall : (H : Type) → List (DataW H) → Bool := fun _ ds => decide (uptoBulkAll ds ≤ 1048576)
def OpenSpec.upto (s : _root_.Go.ChangeSpec) : _root_.Go.OpenSpec := { _root_.Go.OpenSpec.ofChange s with cond := some uptoSmall }

/-- 'tearofflaw13.HssCounts', WHERE WHAT IT READS IS OF BULK AT MOST 1048576: true; the input reads as it did. -/
def hssCountsUptoRow : OpenClaim := { program := "ytbgdjdhbejbhkaadoor", sum := "88960936eb30d2a72ce996ea85047b6f5b331ae38079c0414e3d9eef4a8b8857", func := "tearoff/tearofflaw13.HssCounts", spec := "hssCounts", unfollowed := true, recurses := true, named := ["tearoff/sets.widths", "tearoff/sets.sums", "tearoff/sets.own", "tearoff/sets.heights"], apart := false, laid := [("tearoff/sets.sums", laid_tearoff_sets_sums), ("tearoff/sets.widths", laid_tearoff_sets_widths), ("tearoff/sets.heights", laid_tearoff_sets_heights), ("tearoff/sets.own", laid_tearoff_sets_own)], narrowed := true }
def HssCountsUptoSaid : Prop := hssCountsUptoRow.holds Tryd.pinned (OpenSpec.upto hssCountsSpec)

/-- 'tearofflaw20.SlotsAreas', WHERE WHAT IT READS IS OF BULK AT MOST 1048576: true; the input reads as it did. -/
def slotsAreasUptoRow : OpenClaim := { program := "ytbgdjdhbejbhkaadoor", sum := "88960936eb30d2a72ce996ea85047b6f5b331ae38079c0414e3d9eef4a8b8857", func := "tearoff/tearofflaw20.SlotsAreas", spec := "slotsAreas", inPlace := ["internal/bytealg.MakeNoZero"], unfollowed := true, recurses := true, named := ["tearoff/sha2.first", "tearoff/sha2.k"], apart := false, laid := [("tearoff/sha2.k", laid_tearoff_sha2_k), ("tearoff/sha2.first", laid_tearoff_sha2_first)], narrowed := true }
def SlotsAreasUptoSaid : Prop := slotsAreasUptoRow.holds Tryd.pinned (OpenSpec.upto slotsAreasSpec)

/-- 'tearofflaw20.SlotsTurns', WHERE WHAT IT READS IS OF BULK AT MOST 1048576: true; the input reads as it did. -/
def slotsTurnsUptoRow : OpenClaim := { program := "ytbgdjdhbejbhkaadoor", sum := "88960936eb30d2a72ce996ea85047b6f5b331ae38079c0414e3d9eef4a8b8857", func := "tearoff/tearofflaw20.SlotsTurns", spec := "slotsTurns", inPlace := ["internal/bytealg.MakeNoZero"], unfollowed := true, recurses := true, named := ["tearoff/sha2.first", "tearoff/sha2.k"], apart := false, laid := [("tearoff/sha2.k", laid_tearoff_sha2_k), ("tearoff/sha2.first", laid_tearoff_sha2_first)], narrowed := true }
def SlotsTurnsUptoSaid : Prop := slotsTurnsUptoRow.holds Tryd.pinned (OpenSpec.upto slotsTurnsSpec)

/-- 'tearofflaw20.SlotsBlank', WHERE WHAT IT READS IS OF BULK AT MOST 1048576: true; the input reads as it did. -/
def slotsBlankUptoRow : OpenClaim := { program := "ytbgdjdhbejbhkaadoor", sum := "88960936eb30d2a72ce996ea85047b6f5b331ae38079c0414e3d9eef4a8b8857", func := "tearoff/tearofflaw20.SlotsBlank", spec := "slotsBlank", inPlace := ["internal/bytealg.MakeNoZero"], unfollowed := true, recurses := true, named := ["tearoff/sha2.first", "tearoff/sha2.k"], apart := false, laid := [("tearoff/sha2.k", laid_tearoff_sha2_k), ("tearoff/sha2.first", laid_tearoff_sha2_first)], narrowed := true }
def SlotsBlankUptoSaid : Prop := slotsBlankUptoRow.holds Tryd.pinned (OpenSpec.upto slotsBlankSpec)

/-- 'tearofflaw20.SlotsFull', WHERE WHAT IT READS IS OF BULK AT MOST 1048576: true; the input reads as it did. -/
def slotsFullUptoRow : OpenClaim := { program := "ytbgdjdhbejbhkaadoor", sum := "88960936eb30d2a72ce996ea85047b6f5b331ae38079c0414e3d9eef4a8b8857", func := "tearoff/tearofflaw20.SlotsFull", spec := "slotsFull", inPlace := ["internal/bytealg.MakeNoZero"], unfollowed := true, recurses := true, named := ["tearoff/sha2.first", "tearoff/sha2.k"], apart := false, laid := [("tearoff/sha2.k", laid_tearoff_sha2_k), ("tearoff/sha2.first", laid_tearoff_sha2_first)], narrowed := true }
def SlotsFullUptoSaid : Prop := slotsFullUptoRow.holds Tryd.pinned (OpenSpec.upto slotsFullSpec)

/-- 'tearofflaw20.SlotsPlay', WHERE WHAT IT READS IS OF BULK AT MOST 1048576: true; the input reads as it did. -/
def slotsPlayUptoRow : OpenClaim := { program := "ytbgdjdhbejbhkaadoor", sum := "88960936eb30d2a72ce996ea85047b6f5b331ae38079c0414e3d9eef4a8b8857", func := "tearoff/tearofflaw20.SlotsPlay", spec := "slotsPlay", inPlace := ["internal/bytealg.MakeNoZero"], unfollowed := true, recurses := true, named := ["tearoff/sha2.first", "tearoff/sha2.k"], apart := false, laid := [("tearoff/sha2.k", laid_tearoff_sha2_k), ("tearoff/sha2.first", laid_tearoff_sha2_first)], narrowed := true }
def SlotsPlayUptoSaid : Prop := slotsPlayUptoRow.holds Tryd.pinned (OpenSpec.upto slotsPlaySpec)

/-- 'tearofflaw21.ReserveBytes', WHERE WHAT IT READS IS OF BULK AT MOST 1048576: true; the input reads as it did. -/
def reserveBytesUptoRow : OpenClaim := { program := "ytbgdjdhbejbhkaadoor", sum := "88960936eb30d2a72ce996ea85047b6f5b331ae38079c0414e3d9eef4a8b8857", func := "tearoff/tearofflaw21.ReserveBytes", spec := "reserveBytes", inPlace := ["internal/bytealg.MakeNoZero"], unfollowed := true, recurses := true, named := ["tearoff/sha2.first", "tearoff/sha2.k"], apart := false, laid := [("tearoff/sha2.k", laid_tearoff_sha2_k), ("tearoff/sha2.first", laid_tearoff_sha2_first)], narrowed := true }
def ReserveBytesUptoSaid : Prop := reserveBytesUptoRow.holds Tryd.pinned (OpenSpec.upto reserveBytesSpec)

/-- 'tearofflaw21.ReserveHeads', WHERE WHAT IT READS IS OF BULK AT MOST 1048576: true; the input reads as it did. -/
def reserveHeadsUptoRow : OpenClaim := { program := "ytbgdjdhbejbhkaadoor", sum := "88960936eb30d2a72ce996ea85047b6f5b331ae38079c0414e3d9eef4a8b8857", func := "tearoff/tearofflaw21.ReserveHeads", spec := "reserveHeads", inPlace := ["internal/bytealg.MakeNoZero"], unfollowed := true, recurses := true, named := ["tearoff/sha2.first", "tearoff/sha2.k"], apart := false, laid := [("tearoff/sha2.k", laid_tearoff_sha2_k), ("tearoff/sha2.first", laid_tearoff_sha2_first)], narrowed := true }
def ReserveHeadsUptoSaid : Prop := reserveHeadsUptoRow.holds Tryd.pinned (OpenSpec.upto reserveHeadsSpec)

/-- 'tearofflaw21.ReserveRows', WHERE WHAT IT READS IS OF BULK AT MOST 1048576: true; the input reads as it did. -/
def reserveRowsUptoRow : OpenClaim := { program := "ytbgdjdhbejbhkaadoor", sum := "88960936eb30d2a72ce996ea85047b6f5b331ae38079c0414e3d9eef4a8b8857", func := "tearoff/tearofflaw21.ReserveRows", spec := "reserveRows", inPlace := ["internal/bytealg.MakeNoZero"], unfollowed := true, recurses := true, named := ["tearoff/sha2.first", "tearoff/sha2.k"], apart := false, laid := [("tearoff/sha2.k", laid_tearoff_sha2_k), ("tearoff/sha2.first", laid_tearoff_sha2_first)], narrowed := true }
def ReserveRowsUptoSaid : Prop := reserveRowsUptoRow.holds Tryd.pinned (OpenSpec.upto reserveRowsSpec)

/-- 'tearofflaw21.ReserveAll', WHERE WHAT IT READS IS OF BULK AT MOST 1048576: true; the input reads as it did. -/
def reserveAllUptoRow : OpenClaim := { program := "ytbgdjdhbejbhkaadoor", sum := "88960936eb30d2a72ce996ea85047b6f5b331ae38079c0414e3d9eef4a8b8857", func := "tearoff/tearofflaw21.ReserveAll", spec := "reserveAll", inPlace := ["internal/bytealg.MakeNoZero"], unfollowed := true, recurses := true, named := ["tearoff/sha2.first", "tearoff/sha2.k"], apart := false, laid := [("tearoff/sha2.k", laid_tearoff_sha2_k), ("tearoff/sha2.first", laid_tearoff_sha2_first)], narrowed := true }
def ReserveAllUptoSaid : Prop := reserveAllUptoRow.holds Tryd.pinned (OpenSpec.upto reserveAllSpec)

/-- 'tearofflaw21.ReserveLoss', WHERE WHAT IT READS IS OF BULK AT MOST 1048576: true; the input reads as it did. -/
def reserveLossUptoRow : OpenClaim := { program := "ytbgdjdhbejbhkaadoor", sum := "88960936eb30d2a72ce996ea85047b6f5b331ae38079c0414e3d9eef4a8b8857", func := "tearoff/tearofflaw21.ReserveLoss", spec := "reserveLoss", inPlace := ["internal/bytealg.MakeNoZero"], unfollowed := true, recurses := true, named := ["tearoff/sha2.first", "tearoff/sha2.k"], apart := false, laid := [("tearoff/sha2.k", laid_tearoff_sha2_k), ("tearoff/sha2.first", laid_tearoff_sha2_first)], narrowed := true }
def ReserveLossUptoSaid : Prop := reserveLossUptoRow.holds Tryd.pinned (OpenSpec.upto reserveLossSpec)

/-- 'tearofflaw21.ReservePlays', WHERE WHAT IT READS IS OF BULK AT MOST 1048576: true; the input reads as it did. -/
def reservePlaysUptoRow : OpenClaim := { program := "ytbgdjdhbejbhkaadoor", sum := "88960936eb30d2a72ce996ea85047b6f5b331ae38079c0414e3d9eef4a8b8857", func := "tearoff/tearofflaw21.ReservePlays", spec := "reservePlays", inPlace := ["internal/bytealg.MakeNoZero"], unfollowed := true, recurses := true, named := ["tearoff/sha2.first", "tearoff/sha2.k"], apart := false, laid := [("tearoff/sha2.k", laid_tearoff_sha2_k), ("tearoff/sha2.first", laid_tearoff_sha2_first)], narrowed := true }
def ReservePlaysUptoSaid : Prop := reservePlaysUptoRow.holds Tryd.pinned (OpenSpec.upto reservePlaysSpec)

end Rows
end Go.Proofs.YtbgdjdhbejbhkaaDoor
