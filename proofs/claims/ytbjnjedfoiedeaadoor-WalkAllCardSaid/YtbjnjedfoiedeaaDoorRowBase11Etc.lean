/-
Contracts of functions, each proved by a walk through its code.
-/
import Derived.Test.YtbjnjedfoiedeaaDoorEngREtc
import Derived.Test.YtbjnjedfoiedeaaDoorRef8bEtc
import Derived.Test.YtbjnjedfoiedeaaDoorLaw24aEtc
import Derived.Test.YtbjnjedfoiedeaaDoorLaw24cEtc
set_option linter.unusedVariables false
set_option maxRecDepth 100000
namespace Go.Proofs.YtbjnjedfoiedeaaDoor
open Go Go.Eng Go.ChangeShapes Go.WideShapes Go.ChangeAt Go.RowKit
section
variable {H : Type} {enc : TypeId × Value → H} {W : World}
theorem sums_of {laid : List (String × DataW Unit)} (h : laidMet Tryd.prog laid W) (h1 : ("tearoff/sets.sums", Rows.laid_tearoff_sets_sums) ∈ laid) : ∃ T fr, memOf W 4 = some (.cells (List.toArray [.int .i64 0, .int .i64 32, .int .i64 0, .int .i64 24, .int .i64 1, .int .i64 32, .int .i64 1, .int .i64 24]) T fr) := by
  obtain ⟨ps, hv, _⟩ := h
  obtain ⟨g', t', cs, fuel, p, e1, e2, e3, e4⟩ := laidVars_mem hv h1
  obtain rfl := Option.some.inj ((show Tryd.prog.globalNamed "tearoff/sets.sums" = some 4 by kernel_rfl).symm.trans e1)
  obtain rfl := Option.some.inj ((show (Tryd.prog.globals[4]?).map (·.type) = some 146 by kernel_rfl).symm.trans e2)
  obtain ⟨T, fr, hh⟩ := var_heap e1 e3
  obtain ⟨xs, m', hx', hx, hl, hn, hel⟩ := DataW.trod_array (ti146 : TI Tryd.prog 146 _ _ _ _).und e4
  rw [TI.cellsOf (ti146 : TI Tryd.prog 146 _ _ _ _)] at hl
  rw [TI.cellsOf (ti127 : TI Tryd.prog 127 _ _ _ _)] at hel
  unfold Rows.laid_tearoff_sets_sums at hx
  refine ⟨T, fr, ?_⟩
  rw [hh]
  obtain ⟨cl, rfl⟩ : ∃ cl : List Value, cs = cl.toArray := ⟨cs.toList, by simp⟩
  match xs, hn with
  | [x0, x1, x2, x3], _ =>
    simp only [Prod.mk.injEq, DataW.agg.injEq, List.map_cons, List.map_nil, List.cons.injEq, and_true] at hx
    have k0 := hel 0 (by omega)
    have k1 := hel 1 (by omega)
    have k2 := hel 2 (by omega)
    have k3 := hel 3 (by omega)
    match cl, hl with
    | [c0, c1, c2, c3, c4, c5, c6, c7], _ =>
      simp at k0 k1 k2 k3
      obtain ⟨q0, q0'⟩ := x0
      obtain ⟨q1, q1'⟩ := x1
      obtain ⟨q2, q2'⟩ := x2
      obtain ⟨q3, q3'⟩ := x3
      obtain ⟨⟨rfl, rfl, rfl, rfl⟩, _⟩ := hx
      have r0 := trod_pair (te := ti3) ⟨rfl, rfl⟩ ⟨rfl, rfl⟩ k0
      have r1 := trod_pair (te := ti3) ⟨rfl, rfl⟩ ⟨rfl, rfl⟩ k1
      have r2 := trod_pair (te := ti3) ⟨rfl, rfl⟩ ⟨rfl, rfl⟩ k2
      have r3 := trod_pair (te := ti3) ⟨rfl, rfl⟩ ⟨rfl, rfl⟩ k3
      simp only [List.cons.injEq, and_true] at r0 r1 r2 r3
      rw [r0.1, r0.2, r1.1, r1.2, r2.1, r2.2, r3.1, r3.2]
theorem setT_of {laid : List (String × DataW Unit)} (h : laidMet Tryd.prog laid W) (h1 : ("tearoff/sets.sums", Rows.laid_tearoff_sets_sums) ∈ laid) (h2 : ("tearoff/sets.heights", Rows.laid_tearoff_sets_heights) ∈ laid) (h3 : ("tearoff/sets.own", Rows.laid_tearoff_sets_own) ∈ laid) : SetT (memOf W) := by
  refine ⟨sums_of h h1, ?_, ?_⟩
  · obtain ⟨T, fr, hc⟩ := laid_ints h [5, 10, 15, 20, 25] h2 (show Tryd.prog.globalNamed "tearoff/sets.heights" = some 3 by kernel_rfl) (show (Tryd.prog.globals[3]?).map (·.type) = some 141 by kernel_rfl) ti141 ti3 rfl
    exact ⟨T, fr, hc⟩
  · obtain ⟨T, fr, hc⟩ := laid_ints h [1, 2, 3, 4] h3 (show Tryd.prog.globalNamed "tearoff/sets.own" = some 2 by kernel_rfl) (show (Tryd.prog.globals[2]?).map (·.type) = some 130 by kernel_rfl) ti130 ti3 rfl
    exact ⟨T, fr, hc⟩
theorem mrG_of {laid : List (String × DataW Unit)} (e : laid = [("tearoff/keccak.rc", Rows.laid_tearoff_keccak_rc), ("tearoff/keccak.turns", Rows.laid_tearoff_keccak_turns), ("tearoff/sets.sums", Rows.laid_tearoff_sets_sums), ("tearoff/sets.heights", Rows.laid_tearoff_sets_heights), ("tearoff/sets.own", Rows.laid_tearoff_sets_own), ("tearoff/sha2.k", Rows.laid_tearoff_sha2_k), ("tearoff/sha2.first", Rows.laid_tearoff_sha2_first)]) (h : laidMet Tryd.prog laid W) : MrG (memOf W) :=
  ⟨shaG_of h (by rw [e]; simp) (by rw [e]; simp), kecG_of h (by rw [e]; simp) (by rw [e]; simp), setT_of h (by rw [e]; simp) (by rw [e]; simp) (by rw [e]; simp)⟩
theorem tree_arg {v : Value} {r : Reach} {b : Nat} (k : Value.okWide Tryd.prog W r b 30 v) (h : Rd enc Tryd.prog W 30 v.cells.toList) : ∃ t : TreeV, v = .agg (List.toArray t.cells) := by
  have ha := agg_of (d := .struct _) rfl k
  obtain ⟨hl, hf⟩ := h.struct
  have f0 := hf _ (List.mem_cons_self)
  have f1 := hf _ (List.mem_cons_of_mem _ List.mem_cons_self)
  have f2 := hf _ (List.mem_cons_of_mem _ (List.mem_cons_of_mem _ List.mem_cons_self))
  have f3 := hf _ (List.mem_cons_of_mem _ (List.mem_cons_of_mem _ (List.mem_cons_of_mem _ List.mem_cons_self)))
  rw [TI.cellsOf (ti28 : TI Tryd.prog 28 _ _ _ _)] at f0
  rw [TI.cellsOf (ti3 : TI Tryd.prog 3 _ _ _ _)] at f1 f2 f3
  obtain ⟨n0, e0, w0⟩ := Rd.int (k := .u32) f0
  obtain ⟨n1, e1, w1⟩ := Rd.int (k := .i64) f1
  obtain ⟨n2, e2, w2⟩ := Rd.int (k := .i64) f2
  obtain ⟨n3, e3, w3⟩ := Rd.int (k := .i64) f3
  obtain ⟨q, rfl⟩ := u32_of w0
  refine ⟨⟨q, n1, n2, n3⟩, ?_⟩
  rw [ha]
  generalize v.cells.toList = cs at hl e0 e1 e2 e3
  match cs, hl with
  | [x0, x1, x2, x3], _ =>
    simp at e0 e1 e2 e3
    rw [e0, e1, e2, e3]
end
end Go.Proofs.YtbjnjedfoiedeaaDoor
set_option linter.unusedVariables false
set_option maxRecDepth 100000
namespace Go.Proofs.YtbjnjedfoiedeaaDoor
open Go Go.Eng Go.ChangeShapes Go.WideShapes Go.ChangeAt Go.RowKit
section
variable {H : Type} {enc : TypeId × Value → H} {W : World}
theorem wkG_of {laid : List (String × DataW Unit)} (e : laid = [("math/bits.deBruijn64tab", Rows.laid_math_bits_deBruijn64tab), ("tearoff/keccak.rc", Rows.laid_tearoff_keccak_rc), ("tearoff/keccak.turns", Rows.laid_tearoff_keccak_turns), ("tearoff/sets.sums", Rows.laid_tearoff_sets_sums), ("tearoff/sets.heights", Rows.laid_tearoff_sets_heights), ("tearoff/sets.own", Rows.laid_tearoff_sets_own), ("tearoff/sha2.k", Rows.laid_tearoff_sha2_k), ("tearoff/sha2.first", Rows.laid_tearoff_sha2_first)]) (h : laidMet Tryd.prog laid W) : WkG (memOf W) :=
  ⟨⟨shaG_of h (by rw [e]; simp) (by rw [e]; simp), kecG_of h (by rw [e]; simp) (by rw [e]; simp), setT_of h (by rw [e]; simp) (by rw [e]; simp) (by rw [e]; simp)⟩, by
    refine ⟨?_⟩
    obtain ⟨T, fr, hc⟩ := laid_ints h (deB.map fun (x : Nat) => (x : Int)) (by rw [e]; exact List.mem_cons_self) (show Tryd.prog.globalNamed "math/bits.deBruijn64tab" = some 0 by kernel_rfl) (show (Tryd.prog.globals[0]?).map (·.type) = some 116 by kernel_rfl) ti116 ti5 rfl
    refine ⟨T, fr, ?_⟩
    rw [hc, List.map_map]
    rfl⟩
theorem rows_arg {v : Value} {r : Reach} {b : Nat} (k : Value.okWide Tryd.prog W r b 23 v) (h : RdW enc Tryd.prog W 23 v.cells.toList) : ∃ (A : Option Addr) (n c : Nat) (vs : List Value) (keys : List (List UInt8)), v = .slice A n c ∧ Row (memOf W) 1 A n c vs ∧ BRows (memOf W) vs keys ∧ (∀ b ∈ keys, b.length ≤ 140737488355328) := by
  obtain ⟨A, n, c, vs, keys, e0, hr, hb, hs⟩ := RdW.brows (ti := ti22) (te := ti5) h
  exact ⟨A, n, c, vs, keys, one_of (ti := ti23) rfl k e0, hr, hb, hs⟩
theorem i8_of {n : Int} (h : (Lit.int .i8 n).wf = true) : -128 ≤ n ∧ n ≤ 127 := by
  simpa [Lit.wf, IntKind.min, IntKind.max, IntKind.bits, IntKind.signed] using h
theorem i8s_arg {v : Value} {r : Reach} {b : Nat} (k : Value.okWide Tryd.prog W r b 26 v) (h : Rd enc Tryd.prog W 26 v.cells.toList) : ∃ (A : Option Addr) (n c : Nat) (xs : List Int), v = .slice A n c ∧ Row (memOf W) 1 A n c (xs.map (Value.int .i8)) ∧ ∀ x ∈ xs, -128 ≤ x ∧ x ≤ 127 := by
  obtain ⟨A, len, cap, xs, e0, hr, hx⟩ := Rd.ints (k := .i8) (te := ti37) h
  exact ⟨A, len, cap, xs, one_of (ti := ti26) rfl k e0, hr, fun x hm => i8_of (hx x hm)⟩
theorem wkeys_arg {v : Value} {r : Reach} {b : Nat} (k : Value.okWide Tryd.prog W r b 25 v) (h : RdW enc Tryd.prog W 25 v.cells.toList) : ∃ (code : UInt8) (NA : Option Addr) (nl nc : Nat) (name : List UInt8) (A : Option Addr) (n c : Nat) (vs : List Value) (keys : List (List UInt8)), v = .agg (List.toArray [.int .u8 (code.toNat : Int), .slice NA nl nc, .slice A n c]) ∧ Bytes (memOf W) NA nl nc name ∧ Row (memOf W) 1 A n c vs ∧ BRows (memOf W) vs keys ∧ (∀ b ∈ keys, b.length ≤ 140737488355328) := by
  have ha := agg_of (d := .struct _) rfl k
  obtain ⟨hl, f0, f1, f2⟩ := RdW.struct3 h
  rw [TI.cellsOf (ti5 : TI Tryd.prog 5 _ _ _ _)] at f0
  rw [TI.cellsOf (ti22 : TI Tryd.prog 22 _ _ _ _)] at f1
  rw [TI.cellsOf (ti23 : TI Tryd.prog 23 _ _ _ _)] at f2
  obtain ⟨n1, e1, w1⟩ := Rd.int (k := .u8) f0.rd
  obtain ⟨NA, nl, nc, name, e2, hk⟩ := Rd.bytes (te := ti5) f1.rd
  obtain ⟨A, n, c, vs, keys, e0, hr, hb, hs⟩ := RdW.brows (ti := ti22) (te := ti5) f2
  obtain ⟨q, rfl⟩ := u8_of w1
  refine ⟨q, NA, nl, nc, name, A, n, c, vs, keys, ?_, hk, hr, hb, hs⟩
  rw [ha]
  generalize v.cells.toList = cs at hl e0 e1 e2
  match cs, hl with
  | [x0, x1, x2], _ =>
    simp at e0 e1 e2
    rw [e0, e1, e2]
end
end Go.Proofs.YtbjnjedfoiedeaaDoor
set_option linter.unusedVariables false
set_option linter.constructorNameAsVariable false
set_option maxRecDepth 100000
namespace Go.Proofs.YtbjnjedfoiedeaaDoor
open Go Go.Eng Go.ChangeShapes Go.WideShapes Go.ChangeAt Go.RowKit
section
variable {H : Type} {enc : TypeId × Value → H} {W : World}
theorem wall_con {v0 v1 : Value} {r : Reach} {b : Nat} (hl : laidMet Tryd.prog Rows.walkAllRow.laid W) (k0 : Value.okWide Tryd.prog W r b 25 v0) (k1 : Value.okWide Tryd.prog W r b 28 v1)
    (h0 : RdW enc Tryd.prog W 25 v0.cells.toList) (h1 : RdW enc Tryd.prog W 28 v1.cells.toList) :
    Con Tryd.prog 7 #[v0, v1] W (memOf W) [] (fun v _ _ => v = .bool true) noPanic := by
  obtain ⟨code, NA, nl, nc, name, A, n, c, vs, keys, rfl, hn, hr, hb, hs⟩ := wkeys_arg k0 h0
  obtain ⟨n1, e1, w1⟩ := Rd.int (k := .u32) (ti := ti28) h1.rd
  obtain ⟨q, rfl⟩ := u32_of w1
  obtain rfl := one_of (ti := ti28) rfl k1 e1
  exact WalkAll_spec (wkG_of rfl hl) code hn hr hb q
end
end Go.Proofs.YtbjnjedfoiedeaaDoor
