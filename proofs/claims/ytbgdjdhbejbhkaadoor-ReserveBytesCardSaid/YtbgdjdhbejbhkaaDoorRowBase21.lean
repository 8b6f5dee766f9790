/-
Contracts of functions, each proved by a walk through its code.
-/
import Derived.Test.YtbgdjdhbejbhkaaDoorLawAM
import Derived.Test.YtbgdjdhbejbhkaaDoorRowBaseV
set_option linter.unusedVariables false
set_option maxRecDepth 100000
namespace Go.Proofs.YtbgdjdhbejbhkaaDoor
open Go Go.Eng Go.ChangeShapes Go.WideShapes Go.ChangeAt Go.RowKit
section
variable {H : Type} {enc : TypeId × Value → H} {W : World}
theorem u64_of {n : Int} (h : (Lit.int .u64 n).wf = true) : ∃ c : UInt64, n = (c.toNat : Int) := by
  have hb : 0 ≤ n ∧ n ≤ 18446744073709551615 := by simp [Lit.wf, IntKind.min, IntKind.max, IntKind.signed, IntKind.bits] at h; omega
  exact ⟨UInt64.ofNat n.toNat, by rw [UInt64.toNat_ofNat', Nat.mod_eq_of_lt (by omega)]; omega⟩
theorem counted_arg {v : Value} {r : Reach} {b : Nat} (k : Value.okWide Tryd.prog W r b 81 v) (h : Rd enc Tryd.prog W 81 v.cells.toList) : ∃ x : Cn, v = .agg (List.toArray (ccells x)) := by
  have ha := agg_of (d := .struct _) rfl k
  obtain ⟨hl, hf⟩ := h.struct
  have f0 := hf _ (List.mem_cons_self)
  have f1 := hf _ (List.mem_cons_of_mem _ List.mem_cons_self)
  have f2 := hf _ (List.mem_cons_of_mem _ (List.mem_cons_of_mem _ List.mem_cons_self))
  have f3 := hf _ (List.mem_cons_of_mem _ (List.mem_cons_of_mem _ (List.mem_cons_of_mem _ List.mem_cons_self)))
  have f4 := hf _ (List.mem_cons_of_mem _ (List.mem_cons_of_mem _ (List.mem_cons_of_mem _ (List.mem_cons_of_mem _ List.mem_cons_self))))
  rw [TI.cellsOf (ti23 : TI Tryd.prog 23 _ _ _ _)] at f0 f1 f2 f3
  rw [TI.cellsOf (ti4 : TI Tryd.prog 4 _ _ _ _)] at f4
  obtain ⟨n0, e0, w0⟩ := Rd.int (k := .u64) f0
  obtain ⟨n1, e1, w1⟩ := Rd.int (k := .u64) f1
  obtain ⟨n2, e2, w2⟩ := Rd.int (k := .u64) f2
  obtain ⟨n3, e3, w3⟩ := Rd.int (k := .u64) f3
  obtain ⟨n4, e4⟩ := Rd.bool f4
  obtain ⟨c0, rfl⟩ := u64_of w0
  obtain ⟨c1, rfl⟩ := u64_of w1
  obtain ⟨c2, rfl⟩ := u64_of w2
  obtain ⟨c3, rfl⟩ := u64_of w3
  refine ⟨⟨c0, c1, c2, c3, n4⟩, ?_⟩
  rw [ha]
  generalize v.cells.toList = cs at hl e0 e1 e2 e3 e4
  match cs, hl with
  | [x0, x1, x2, x3, x4], _ =>
    simp at e0 e1 e2 e3 e4
    rw [e0, e1, e2, e3, e4]
theorem heads_arg {v : Value} {r : Reach} {b : Nat} (k : Value.okWide Tryd.prog W r b 96 v) (h : Rd enc Tryd.prog W 96 v.cells.toList) : ∃ A n c B m d g k, v = .agg #[.slice A n c, .slice B m d] ∧ Bytes (memOf W) A n c g ∧ Bytes (memOf W) B m d k := by
  have ha := agg_of (d := .array 2 45) rfl k
  obtain ⟨hl, hf⟩ := Rd.array (te := ti45) h
  obtain ⟨A, n, c, g, e0, h0⟩ := Rd.bytes (te := ti5) (hf 0 (by omega))
  obtain ⟨B, m, d, k, e1, h1⟩ := Rd.bytes (te := ti5) (hf 1 (by omega))
  refine ⟨A, n, c, B, m, d, g, k, ?_, h0, h1⟩
  rw [ha]
  generalize v.cells.toList = cs at hl e0 e1
  match cs, hl with
  | [x0, x1], _ =>
    simp at e0 e1
    rw [e0, e1]
theorem bytes_arg {v : Value} {r : Reach} {b : Nat} (k : Value.okWide Tryd.prog W r b 45 v) (h : Rd enc Tryd.prog W 45 v.cells.toList) : ∃ A n c g, v = .slice A n c ∧ Bytes (memOf W) A n c g := by
  obtain ⟨A, n, c, g, e0, h0⟩ := Rd.bytes (te := ti5) h
  exact ⟨A, n, c, g, one_of (ti := ti45) rfl k e0, h0⟩
theorem shaG_of2 {laid : List (String × DataW Unit)} {more : List (String × DataW Unit)} (e : laid = ("tearoff/sha2.k", Rows.laid_tearoff_sha2_k) :: ("tearoff/sha2.first", Rows.laid_tearoff_sha2_first) :: more) (h : laidMet Tryd.prog laid W) : ShaG (memOf W) :=
  shaG_of h (by rw [e]; exact List.mem_cons_self) (by rw [e]; exact List.mem_cons_of_mem _ List.mem_cons_self)
end
end Go.Proofs.YtbgdjdhbejbhkaaDoor
