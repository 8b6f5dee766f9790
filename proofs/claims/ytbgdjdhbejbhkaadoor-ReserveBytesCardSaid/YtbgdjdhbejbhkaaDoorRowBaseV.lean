/-
Contracts of functions, each proved by a walk through its code.
-/
import Derived.Test.YtbgdjdhbejbhkaaDoorEngV
import Derived.Test.YtbgdjdhbejbhkaaDoorRowBase
import Derived.Test.YtbgdjdhbejbhkaaDoorSha
import Derived.Test.YtbgdjdhbejbhkaaDoorChecked
import Derived.Test.YtbgdjdhbejbhkaaDoorRows
set_option linter.unusedVariables false
namespace Go.Proofs.YtbgdjdhbejbhkaaDoor
open Go Go.Eng Go.ChangeShapes Go.WideShapes Go.ChangeAt Go.RowKit
section
variable {W : World}
/-- From the listed variables: the constants of SHA-256. -/
theorem shaG_of {laid : List (String × DataW Unit)} (h : laidMet Tryd.prog laid W) (h1 : ("tearoff/sha2.k", Rows.laid_tearoff_sha2_k) ∈ laid) (h2 : ("tearoff/sha2.first", Rows.laid_tearoff_sha2_first) ∈ laid) : ShaG (memOf W) := by
  refine ⟨?_, ?_⟩
  · obtain ⟨T, fr, hc⟩ := laid_ints h (kT.map fun x => (x.toNat : Int)) h1 (show Tryd.prog.globalNamed "tearoff/sha2.k" = some 6 by kernel_rfl) (show (Tryd.prog.globals[6]?).map (·.type) = some 243 by kernel_rfl) ti243 ti31 rfl
    refine ⟨_, T, fr, hc, fun j hj => ?_⟩
    rw [List.getElem?_toArray, List.map_map]
    exact get_u32' kT j hj
  · obtain ⟨T, fr, hc⟩ := laid_ints h (H8.init.list.map fun x => (x.toNat : Int)) h2 (show Tryd.prog.globalNamed "tearoff/sha2.first" = some 3 by kernel_rfl) (show (Tryd.prog.globals[3]?).map (·.type) = some 220 by kernel_rfl) ti220 ti31 rfl
    exact ⟨T, fr, hc⟩
end
end Go.Proofs.YtbgdjdhbejbhkaaDoor
