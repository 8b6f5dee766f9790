/-
Contracts of functions, each proved by a walk through its code.
-/
import Derived.Test.YtgpjbjbdfkiklaaDoorEngREtc
import Derived.ChangeSame
import Derived.Test.YtgpjbjbdfkiklaaDoorRef11bEtc
set_option linter.unusedVariables false
set_option maxRecDepth 100000
namespace Go.Proofs.YtgpjbjbdfkiklaaDoor
open Go Go.Eng Go.ChangeShapes Go.WideShapes Go.ChangeAt Go.RowKit
section
variable {H : Type} {enc : TypeId × Value → H} {W : World}
theorem kecG_of {laid : List (String × DataW Unit)} (h : laidMet Tryd.prog laid W) (h1 : ("tearoff/keccak.rc", Rows.laid_tearoff_keccak_rc) ∈ laid) (h2 : ("tearoff/keccak.turns", Rows.laid_tearoff_keccak_turns) ∈ laid) : KecG (memOf W) := by
  refine ⟨?_, ?_⟩
  · obtain ⟨T, fr, hc⟩ := laid_ints h (kRc.map fun x => (x.toNat : Int)) h1 (show Tryd.prog.globalNamed "tearoff/keccak.rc" = some 8 by kernel_rfl) (show (Tryd.prog.globals[8]?).map (·.type) = some 98 by kernel_rfl) ti98 ti65 rfl
    refine ⟨_, T, fr, hc, fun j hj => ?_⟩
    rw [List.getElem?_toArray, List.map_map]
    exact get_u64' kRc j hj
  · obtain ⟨T, fr, hc⟩ := laid_ints h (kTurns.map fun (x : Nat) => (x : Int)) h2 (show Tryd.prog.globalNamed "tearoff/keccak.turns" = some 7 by kernel_rfl) (show (Tryd.prog.globals[7]?).map (·.type) = some 144 by kernel_rfl) ti144 ti3 rfl
    refine ⟨_, T, fr, hc, fun j hj => ?_⟩
    rw [List.getElem?_toArray, List.map_map, List.getElem?_map, List.getElem?_eq_getElem (show j < kTurns.length from hj), List.getD_eq_getElem?_getD, List.getElem?_eq_getElem (show j < kTurns.length from hj)]
    rfl
theorem trod_pair {t it : TypeId} {z z' : Value} {b b' fuel : Nat} {f0 f1 : Field} {cs : List Value} {a c : Int} {p : List MemPlace} {sp : Nat → Bool} {held : Bool} {enc : TypeId × Value → Unit} [ti : TI Tryd.prog t (.struct #[f0, f1]) z 2 b] [te : TI Tryd.prog it (.int .i64) z' 1 b']
    (e0 : f0.type = it ∧ f0.offset = 0) (e1 : f1.type = it ∧ f1.offset = 1) (h : DataW.trod enc Tryd.prog W 0 sp held fuel t cs = some (.agg [.lit (.int .i64 a), .lit (.int .i64 c)], p)) : cs = [.int .i64 a, .int .i64 c] := by
  obtain ⟨y0, y1, n, hx, hl, h0, h1⟩ := trod_struct2 ti.und h
  rw [ti.cellsOf] at hl
  rw [e0.1, e0.2, te.cellsOf] at h0
  rw [e1.1, e1.2, te.cellsOf] at h1
  obtain ⟨x, g1, g2, _⟩ := DataW.trod_int te.und h0
  obtain ⟨x', g1', g2', _⟩ := DataW.trod_int te.und h1
  simp only [Prod.mk.injEq, DataW.agg.injEq, List.cons.injEq, and_true] at hx
  match cs, hl with
  | [c0, c1], _ =>
    simp at g1 g1'
    rw [g2, g2'] at hx
    simp only [DataW.lit.injEq, Lit.int.injEq, true_and] at hx
    rw [g1, g1', hx.1.1, hx.1.2]
theorem setG_of {laid : List (String × DataW Unit)} (h : laidMet Tryd.prog laid W) (h1 : ("tearoff/sets.sums", Rows.laid_tearoff_sets_sums) ∈ laid) (h2 : ("tearoff/sets.widths", Rows.laid_tearoff_sets_widths) ∈ laid) : SetG (memOf W) := by
  refine ⟨?_, ?_⟩
  · obtain ⟨ps, hv, _⟩ := h
    obtain ⟨g', t', cs, fuel, p, e1, e2, e3, e4⟩ := laidVars_mem hv h1
    obtain rfl := Option.some.inj ((show Tryd.prog.globalNamed "tearoff/sets.sums" = some 6 by kernel_rfl).symm.trans e1)
    obtain rfl := Option.some.inj ((show (Tryd.prog.globals[6]?).map (·.type) = some 138 by kernel_rfl).symm.trans e2)
    obtain ⟨T, fr, hh⟩ := var_heap e1 e3
    obtain ⟨xs, m', hx', hx, hl, hn, hel⟩ := DataW.trod_array (ti138 : TI Tryd.prog 138 _ _ _ _).und e4
    rw [TI.cellsOf (ti138 : TI Tryd.prog 138 _ _ _ _)] at hl
    rw [TI.cellsOf (ti123 : TI Tryd.prog 123 _ _ _ _)] at hel
    unfold Rows.laid_tearoff_sets_sums at hx
    refine ⟨T, fr, ?_⟩
    rw [hh]
    obtain ⟨cl, rfl⟩ : ∃ cl : List Value, cs = cl.toArray := ⟨cs.toList, by simp⟩
    match xs, hn with
    | [x0, x1, x2, x3], _ =>
      simp only [Prod.mk.injEq, DataW.agg.injEq, List.map_cons, List.map_nil, List.cons.injEq, and_true] at hx
      have k0 := hel 0 (by omega)
      have k1 := hel 1 (by omega)
      have k2 := hel 2 (by omega)
      have k3 := hel 3 (by omega)
      match cl, hl with
      | [c0, c1, c2, c3, c4, c5, c6, c7], _ =>
        simp at k0 k1 k2 k3
        obtain ⟨q0, q0'⟩ := x0
        obtain ⟨q1, q1'⟩ := x1
        obtain ⟨q2, q2'⟩ := x2
        obtain ⟨q3, q3'⟩ := x3
        obtain ⟨⟨rfl, rfl, rfl, rfl⟩, _⟩ := hx
        have r0 := trod_pair (te := ti3) ⟨rfl, rfl⟩ ⟨rfl, rfl⟩ k0
        have r1 := trod_pair (te := ti3) ⟨rfl, rfl⟩ ⟨rfl, rfl⟩ k1
        have r2 := trod_pair (te := ti3) ⟨rfl, rfl⟩ ⟨rfl, rfl⟩ k2
        have r3 := trod_pair (te := ti3) ⟨rfl, rfl⟩ ⟨rfl, rfl⟩ k3
        simp only [List.cons.injEq, and_true] at r0 r1 r2 r3
        rw [r0.1, r0.2, r1.1, r1.2, r2.1, r2.2, r3.1, r3.2]
  · obtain ⟨T, fr, hc⟩ := laid_ints h [1, 2, 4, 8] h2 (show Tryd.prog.globalNamed "tearoff/sets.widths" = some 1 by kernel_rfl) (show (Tryd.prog.globals[1]?).map (·.type) = some 126 by kernel_rfl) ti126 ti3 rfl
    exact ⟨T, fr, hc⟩
theorem chG_of {laid : List (String × DataW Unit)} (e : laid = [("tearoff/keccak.rc", Rows.laid_tearoff_keccak_rc), ("tearoff/keccak.turns", Rows.laid_tearoff_keccak_turns), ("tearoff/sets.sums", Rows.laid_tearoff_sets_sums), ("tearoff/sets.widths", Rows.laid_tearoff_sets_widths), ("tearoff/sha2.k", Rows.laid_tearoff_sha2_k), ("tearoff/sha2.first", Rows.laid_tearoff_sha2_first)]) (h : laidMet Tryd.prog laid W) : ChG (memOf W) :=
  ⟨shaG_of h (by rw [e]; simp) (by rw [e]; simp), kecG_of h (by rw [e]; simp) (by rw [e]; simp), setG_of h (by rw [e]; simp) (by rw [e]; simp)⟩
theorem u32_of {n : Int} (h : (Lit.int .u32 n).wf = true) : ∃ c : UInt32, n = (c.toNat : Int) := by
  have hb : 0 ≤ n ∧ n ≤ 4294967295 := by simp [Lit.wf, IntKind.min, IntKind.max, IntKind.signed, IntKind.bits] at h; omega
  exact ⟨UInt32.ofNat n.toNat, by rw [UInt32.toNat_ofNat', Nat.mod_eq_of_lt (by omega)]; omega⟩
theorem bytes_arg' {v : Value} {r : Reach} {b : Nat} (k : Value.okWide Tryd.prog W r b 23 v) (h : Rd enc Tryd.prog W 23 v.cells.toList) : ∃ A n c g, v = .slice A n c ∧ Bytes (memOf W) A n c g := by
  obtain ⟨A, n, c, g, e0, h0⟩ := Rd.bytes (te := ti5) h
  exact ⟨A, n, c, g, one_of (ti := ti23) rfl k e0, h0⟩
theorem ints2_arg {v : Value} {r : Reach} {b : Nat} (k : Value.okWide Tryd.prog W r b 22 v) (h : Rd enc Tryd.prog W 22 v.cells.toList) : ∃ x y : Int, v = .agg #[.int .i64 x, .int .i64 y] := by
  have ha := agg_of (d := .array 2 3) rfl k
  obtain ⟨hl, hf⟩ := Rd.array (te := ti3) h
  obtain ⟨x, e0, _⟩ := Rd.int (k := .i64) (ti := ti3) (hf 0 (by omega))
  obtain ⟨y, e1, _⟩ := Rd.int (k := .i64) (ti := ti3) (hf 1 (by omega))
  refine ⟨x, y, ?_⟩
  rw [ha]
  generalize v.cells.toList = cs at hl e0 e1
  match cs, hl with
  | [x0, x1], _ =>
    simp at e0 e1
    rw [e0, e1]
theorem place_arg {v : Value} {r : Reach} {b : Nat} (k : Value.okWide Tryd.prog W r b 26 v) (h : Rd enc Tryd.prog W 26 v.cells.toList) : ∃ (NA : Option Addr) (nl nc : Nat) (name : List UInt8) (q : UInt32) (i f t : Int), v = .agg #[.slice NA nl nc, .int .u32 (q.toNat : Int), .int .i64 i, .int .i64 f, .int .i64 t] ∧ Bytes (memOf W) NA nl nc name := by
  have ha := agg_of (d := .struct _) rfl k
  obtain ⟨hl, hf⟩ := h.struct
  have f0 := hf _ (List.mem_cons_self)
  have f1 := hf _ (List.mem_cons_of_mem _ List.mem_cons_self)
  have f2 := hf _ (List.mem_cons_of_mem _ (List.mem_cons_of_mem _ List.mem_cons_self))
  have f3 := hf _ (List.mem_cons_of_mem _ (List.mem_cons_of_mem _ (List.mem_cons_of_mem _ List.mem_cons_self)))
  have f4 := hf _ (List.mem_cons_of_mem _ (List.mem_cons_of_mem _ (List.mem_cons_of_mem _ (List.mem_cons_of_mem _ List.mem_cons_self))))
  rw [TI.cellsOf (ti23 : TI Tryd.prog 23 _ _ _ _)] at f0
  rw [TI.cellsOf (ti24 : TI Tryd.prog 24 _ _ _ _)] at f1
  rw [TI.cellsOf (ti3 : TI Tryd.prog 3 _ _ _ _)] at f2 f3 f4
  obtain ⟨NA, nl, nc, name, e0, h0⟩ := Rd.bytes (te := ti5) f0
  obtain ⟨n1, e1, w1⟩ := Rd.int (k := .u32) f1
  obtain ⟨n2, e2, w2⟩ := Rd.int (k := .i64) f2
  obtain ⟨n3, e3, w3⟩ := Rd.int (k := .i64) f3
  obtain ⟨n4, e4, w4⟩ := Rd.int (k := .i64) f4
  obtain ⟨q, rfl⟩ := u32_of w1
  refine ⟨NA, nl, nc, name, q, n2, n3, n4, ?_, h0⟩
  rw [ha]
  generalize v.cells.toList = cs at hl e0 e1 e2 e3 e4
  match cs, hl with
  | [x0, x1, x2, x3, x4], _ =>
    simp at e0 e1 e2 e3 e4
    rw [e0, e1, e2, e3, e4]
theorem ots_arg {v : Value} {r : Reach} {b : Nat} (k : Value.okWide Tryd.prog W r b 36 v) (h : Rd enc Tryd.prog W 36 v.cells.toList) : ∃ o : OtsV, v = .agg (List.toArray o.cells) := by
  have ha := agg_of (d := .struct _) rfl k
  obtain ⟨hl, hf⟩ := h.struct
  have f0 := hf _ (List.mem_cons_self)
  have f1 := hf _ (List.mem_cons_of_mem _ List.mem_cons_self)
  have f2 := hf _ (List.mem_cons_of_mem _ (List.mem_cons_of_mem _ List.mem_cons_self))
  have f3 := hf _ (List.mem_cons_of_mem _ (List.mem_cons_of_mem _ (List.mem_cons_of_mem _ List.mem_cons_self)))
  have f4 := hf _ (List.mem_cons_of_mem _ (List.mem_cons_of_mem _ (List.mem_cons_of_mem _ (List.mem_cons_of_mem _ List.mem_cons_self))))
  have f5 := hf _ (List.mem_cons_of_mem _ (List.mem_cons_of_mem _ (List.mem_cons_of_mem _ (List.mem_cons_of_mem _ (List.mem_cons_of_mem _ List.mem_cons_self)))))
  rw [TI.cellsOf (ti24 : TI Tryd.prog 24 _ _ _ _)] at f0
  rw [TI.cellsOf (ti3 : TI Tryd.prog 3 _ _ _ _)] at f1 f2 f3 f4 f5
  obtain ⟨n0, e0, w0⟩ := Rd.int (k := .u32) f0
  obtain ⟨n1, e1, w1⟩ := Rd.int (k := .i64) f1
  obtain ⟨n2, e2, w2⟩ := Rd.int (k := .i64) f2
  obtain ⟨n3, e3, w3⟩ := Rd.int (k := .i64) f3
  obtain ⟨n4, e4, w4⟩ := Rd.int (k := .i64) f4
  obtain ⟨n5, e5, w5⟩ := Rd.int (k := .i64) f5
  obtain ⟨q, rfl⟩ := u32_of w0
  refine ⟨⟨q, n1, n2, n3, n4, n5⟩, ?_⟩
  rw [ha]
  generalize v.cells.toList = cs at hl e0 e1 e2 e3 e4 e5
  match cs, hl with
  | [x0, x1, x2, x3, x4, x5], _ =>
    simp at e0 e1 e2 e3 e4 e5
    rw [e0, e1, e2, e3, e4, e5]
end
end Go.Proofs.YtgpjbjbdfkiklaaDoor
set_option linter.unusedVariables false
set_option maxRecDepth 100000
namespace Go.Proofs.YtgpjbjbdfkiklaaDoor
open Go Go.Eng Go.ChangeShapes Go.WideShapes Go.ChangeAt Go.RowKit
section
variable {H : Type} {enc : TypeId × Value → H} {W : World}
theorem sums_of {laid : List (String × DataW Unit)} (h : laidMet Tryd.prog laid W) (h1 : ("tearoff/sets.sums", Rows.laid_tearoff_sets_sums) ∈ laid) : ∃ T fr, memOf W 6 = some (.cells (List.toArray [.int .i64 0, .int .i64 32, .int .i64 0, .int .i64 24, .int .i64 1, .int .i64 32, .int .i64 1, .int .i64 24]) T fr) := by
  obtain ⟨ps, hv, _⟩ := h
  obtain ⟨g', t', cs, fuel, p, e1, e2, e3, e4⟩ := laidVars_mem hv h1
  obtain rfl := Option.some.inj ((show Tryd.prog.globalNamed "tearoff/sets.sums" = some 6 by kernel_rfl).symm.trans e1)
  obtain rfl := Option.some.inj ((show (Tryd.prog.globals[6]?).map (·.type) = some 138 by kernel_rfl).symm.trans e2)
  obtain ⟨T, fr, hh⟩ := var_heap e1 e3
  obtain ⟨xs, m', hx', hx, hl, hn, hel⟩ := DataW.trod_array (ti138 : TI Tryd.prog 138 _ _ _ _).und e4
  rw [TI.cellsOf (ti138 : TI Tryd.prog 138 _ _ _ _)] at hl
  rw [TI.cellsOf (ti123 : TI Tryd.prog 123 _ _ _ _)] at hel
  unfold Rows.laid_tearoff_sets_sums at hx
  refine ⟨T, fr, ?_⟩
  rw [hh]
  obtain ⟨cl, rfl⟩ : ∃ cl : List Value, cs = cl.toArray := ⟨cs.toList, by simp⟩
  match xs, hn with
  | [x0, x1, x2, x3], _ =>
    simp only [Prod.mk.injEq, DataW.agg.injEq, List.map_cons, List.map_nil, List.cons.injEq, and_true] at hx
    have k0 := hel 0 (by omega)
    have k1 := hel 1 (by omega)
    have k2 := hel 2 (by omega)
    have k3 := hel 3 (by omega)
    match cl, hl with
    | [c0, c1, c2, c3, c4, c5, c6, c7], _ =>
      simp at k0 k1 k2 k3
      obtain ⟨q0, q0'⟩ := x0
      obtain ⟨q1, q1'⟩ := x1
      obtain ⟨q2, q2'⟩ := x2
      obtain ⟨q3, q3'⟩ := x3
      obtain ⟨⟨rfl, rfl, rfl, rfl⟩, _⟩ := hx
      have r0 := trod_pair (te := ti3) ⟨rfl, rfl⟩ ⟨rfl, rfl⟩ k0
      have r1 := trod_pair (te := ti3) ⟨rfl, rfl⟩ ⟨rfl, rfl⟩ k1
      have r2 := trod_pair (te := ti3) ⟨rfl, rfl⟩ ⟨rfl, rfl⟩ k2
      have r3 := trod_pair (te := ti3) ⟨rfl, rfl⟩ ⟨rfl, rfl⟩ k3
      simp only [List.cons.injEq, and_true] at r0 r1 r2 r3
      rw [r0.1, r0.2, r1.1, r1.2, r2.1, r2.2, r3.1, r3.2]
theorem setT_of {laid : List (String × DataW Unit)} (h : laidMet Tryd.prog laid W) (h1 : ("tearoff/sets.sums", Rows.laid_tearoff_sets_sums) ∈ laid) (h2 : ("tearoff/sets.heights", Rows.laid_tearoff_sets_heights) ∈ laid) (h3 : ("tearoff/sets.own", Rows.laid_tearoff_sets_own) ∈ laid) : SetT (memOf W) := by
  refine ⟨sums_of h h1, ?_, ?_⟩
  · obtain ⟨T, fr, hc⟩ := laid_ints h [5, 10, 15, 20, 25] h2 (show Tryd.prog.globalNamed "tearoff/sets.heights" = some 4 by kernel_rfl) (show (Tryd.prog.globals[4]?).map (·.type) = some 132 by kernel_rfl) ti132 ti3 rfl
    exact ⟨T, fr, hc⟩
  · obtain ⟨T, fr, hc⟩ := laid_ints h [1, 2, 3, 4] h3 (show Tryd.prog.globalNamed "tearoff/sets.own" = some 3 by kernel_rfl) (show (Tryd.prog.globals[3]?).map (·.type) = some 126 by kernel_rfl) ti126 ti3 rfl
    exact ⟨T, fr, hc⟩
theorem mrG_of {laid : List (String × DataW Unit)} (e : laid = [("tearoff/keccak.rc", Rows.laid_tearoff_keccak_rc), ("tearoff/keccak.turns", Rows.laid_tearoff_keccak_turns), ("tearoff/sets.sums", Rows.laid_tearoff_sets_sums), ("tearoff/sets.heights", Rows.laid_tearoff_sets_heights), ("tearoff/sets.own", Rows.laid_tearoff_sets_own), ("tearoff/sha2.k", Rows.laid_tearoff_sha2_k), ("tearoff/sha2.first", Rows.laid_tearoff_sha2_first)]) (h : laidMet Tryd.prog laid W) : MrG (memOf W) :=
  ⟨shaG_of h (by rw [e]; simp) (by rw [e]; simp), kecG_of h (by rw [e]; simp) (by rw [e]; simp), setT_of h (by rw [e]; simp) (by rw [e]; simp) (by rw [e]; simp)⟩
theorem tree_arg {v : Value} {r : Reach} {b : Nat} (k : Value.okWide Tryd.prog W r b 51 v) (h : Rd enc Tryd.prog W 51 v.cells.toList) : ∃ t : TreeV, v = .agg (List.toArray t.cells) := by
  have ha := agg_of (d := .struct _) rfl k
  obtain ⟨hl, hf⟩ := h.struct
  have f0 := hf _ (List.mem_cons_self)
  have f1 := hf _ (List.mem_cons_of_mem _ List.mem_cons_self)
  have f2 := hf _ (List.mem_cons_of_mem _ (List.mem_cons_of_mem _ List.mem_cons_self))
  have f3 := hf _ (List.mem_cons_of_mem _ (List.mem_cons_of_mem _ (List.mem_cons_of_mem _ List.mem_cons_self)))
  rw [TI.cellsOf (ti24 : TI Tryd.prog 24 _ _ _ _)] at f0
  rw [TI.cellsOf (ti3 : TI Tryd.prog 3 _ _ _ _)] at f1 f2 f3
  obtain ⟨n0, e0, w0⟩ := Rd.int (k := .u32) f0
  obtain ⟨n1, e1, w1⟩ := Rd.int (k := .i64) f1
  obtain ⟨n2, e2, w2⟩ := Rd.int (k := .i64) f2
  obtain ⟨n3, e3, w3⟩ := Rd.int (k := .i64) f3
  obtain ⟨q, rfl⟩ := u32_of w0
  refine ⟨⟨q, n1, n2, n3⟩, ?_⟩
  rw [ha]
  generalize v.cells.toList = cs at hl e0 e1 e2 e3
  match cs, hl with
  | [x0, x1, x2, x3], _ =>
    simp at e0 e1 e2 e3
    rw [e0, e1, e2, e3]
theorem keys_arg {v : Value} {r : Reach} {b : Nat} (k : Value.okWide Tryd.prog W r b 54 v) (h : RdW enc Tryd.prog W 54 v.cells.toList) : ∃ (A : Option Addr) (n c : Nat) (vs : List Value) (keys : List (List UInt8)) (q : UInt32) (KA : Option Addr) (kl kc : Nat) (key : List UInt8), v = .agg #[.slice A n c, .int .u32 (q.toNat : Int), .slice KA kl kc] ∧ Row (memOf W) 1 A n c vs ∧ BRows (memOf W) vs keys ∧ (∀ b ∈ keys, b.length ≤ 140737488355328) ∧ Bytes (memOf W) KA kl kc key := by
  have ha := agg_of (d := .struct _) rfl k
  obtain ⟨hl, f0, f1, f2⟩ := RdW.struct3 h
  rw [TI.cellsOf (ti52 : TI Tryd.prog 52 _ _ _ _)] at f0
  rw [TI.cellsOf (ti24 : TI Tryd.prog 24 _ _ _ _)] at f1
  rw [TI.cellsOf (ti23 : TI Tryd.prog 23 _ _ _ _)] at f2
  obtain ⟨A, n, c, vs, keys, e0, hr, hb, hs⟩ := RdW.brows (ti := ti23) (te := ti5) f0
  obtain ⟨n1, e1, w1⟩ := Rd.int (k := .u32) f1.rd
  obtain ⟨KA, kl, kc, key, e2, hk⟩ := Rd.bytes (te := ti5) f2.rd
  obtain ⟨q, rfl⟩ := u32_of w1
  refine ⟨A, n, c, vs, keys, q, KA, kl, kc, key, ?_, hr, hb, hs, hk⟩
  rw [ha]
  generalize v.cells.toList = cs at hl e0 e1 e2
  match cs, hl with
  | [x0, x1, x2], _ =>
    simp at e0 e1 e2
    rw [e0, e1, e2]
end
end Go.Proofs.YtgpjbjbdfkiklaaDoor
set_option linter.unusedVariables false
set_option linter.constructorNameAsVariable false
set_option maxRecDepth 100000
namespace Go.Proofs.YtgpjbjbdfkiklaaDoor
open Go Go.Eng Go.ChangeShapes Go.WideShapes Go.ChangeAt Go.RowKit
section
variable {H : Type} {enc : TypeId × Value → H} {W : World}
theorem mmakes_con {v0 v1 v2 : Value} {r : Reach} {b : Nat} (hl : laidMet Tryd.prog Rows.merkleMakesRow.laid W) (k0 : Value.okWide Tryd.prog W r b 51 v0) (k1 : Value.okWide Tryd.prog W r b 23 v1) (k2 : Value.okWide Tryd.prog W r b 54 v2)
    (h0 : RdW enc Tryd.prog W 51 v0.cells.toList) (h1 : RdW enc Tryd.prog W 23 v1.cells.toList) (h2 : RdW enc Tryd.prog W 54 v2.cells.toList) :
    Con Tryd.prog 8 #[v0, v1, v2] W (memOf W) [] (fun v _ _ => v = .bool true) noPanic := by
  obtain ⟨t, rfl⟩ := tree_arg k0 h0.rd
  obtain ⟨NA, nl, nc, name, rfl, hn⟩ := bytes_arg' k1 h1.rd
  obtain ⟨A, n, c, vs, keys, q, KA, kl, kc, key, rfl, hr, hb, hs, hk⟩ := keys_arg k2 h2
  exact MerkleMakes_spec (mrG_of rfl hl) t hn hr hb hs q
end
end Go.Proofs.YtgpjbjbdfkiklaaDoor
