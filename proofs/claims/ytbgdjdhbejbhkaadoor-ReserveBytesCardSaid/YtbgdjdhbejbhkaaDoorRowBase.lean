/-
Contracts of functions, each proved by a walk through its code.
-/
import Derived.Test.YtbgdjdhbejbhkaaDoorEngR
import Derived.Test.YtbgdjdhbejbhkaaDoorTypes1
set_option linter.unusedVariables false
namespace Go.Proofs.YtbgdjdhbejbhkaaDoor
open Go Go.Eng Go.ChangeShapes Go.WideShapes Go.ChangeAt Go.RowKit
theorem own : ownKnob Tryd.prog.godebug = none := by kernel_rfl
theorem laidOut : laidOutB Tryd.prog = true := by kernel_rfl
set_option maxRecDepth 100000 in
theorem shutBool {H : Type} {enc : TypeId × Value → H} {W : World} {base : Nat} {sp : Nat → Bool} {held : Bool} (b : Bool) : DataW.Trod enc Tryd.prog W base sp held 4 (.bool b) (.lit (.bool b)) [] := ⟨1, by simp [DataW.trod, Value.cells, Tryd.underlying4]⟩
set_option maxRecDepth 100000 in
theorem byte_arg {H : Type} {enc : TypeId × Value → H} {W : World} {v : Value} {r : Reach} {b : Nat} (k : Value.okWide Tryd.prog W r b 5 v) (h : Rd enc Tryd.prog W 5 v.cells.toList) : ∃ c : UInt8, v = .int .u8 c.toNat := by
  obtain ⟨n, e, w⟩ := h.int
  obtain rfl := one_of rfl k e
  obtain ⟨c, rfl⟩ := u8_of w
  exact ⟨c, rfl⟩
set_option maxRecDepth 100000 in
theorem int_arg {H : Type} {enc : TypeId × Value → H} {W : World} {v : Value} {r : Reach} {b : Nat} (k : Value.okWide Tryd.prog W r b 3 v) (h : Rd enc Tryd.prog W 3 v.cells.toList) : ∃ n : Int, v = .int .i64 n ∧ -9223372036854775808 ≤ n ∧ n ≤ 9223372036854775807 := by
  obtain ⟨n, e, w⟩ := h.int
  obtain rfl := one_of rfl k e
  simp [Lit.wf, IntKind.min, IntKind.max, IntKind.signed, IntKind.bits] at w
  exact ⟨n, rfl, by omega, by omega⟩
end Go.Proofs.YtbgdjdhbejbhkaaDoor
