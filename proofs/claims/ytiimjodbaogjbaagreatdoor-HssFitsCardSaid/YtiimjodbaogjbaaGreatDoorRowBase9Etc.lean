/-
Contracts of functions, each proved by a walk through its code.
-/
import Derived.Test.YtiimjodbaogjbaaGreatDoorRef13dEtc
import Derived.Test.YtiimjodbaogjbaaGreatDoorRef9Etc
import Derived.ChangeSame
import Derived.SizedLaws
import Derived.Deep.Strs
import Derived.Test.YtiimjodbaogjbaaGreatDoorRef8bEtc
import Derived.Test.YtiimjodbaogjbaaGreatDoorRef7Etc
import Derived.Test.YtiimjodbaogjbaaGreatDoorOctCutEtc
import Derived.Test.YtiimjodbaogjbaaGreatDoorHssPureEtc
set_option linter.unusedVariables false
set_option maxRecDepth 100000
namespace Go.Proofs.YtiimjodbaogjbaaGreatDoor
open Go Go.Eng Go.ChangeShapes Go.WideShapes Go.ChangeAt Go.RowKit
section
variable {H : Type} {enc : TypeId × Value → H} {W : World}
theorem kecG_of {laid : List (String × DataW Unit)} (h : laidMet Tryz.prog laid W) (h1 : ("tearoff/keccak.rc", Rows.laid_tearoff_keccak_rc) ∈ laid) (h2 : ("tearoff/keccak.turns", Rows.laid_tearoff_keccak_turns) ∈ laid) : KecG (memOf W) := by
  refine ⟨?_, ?_⟩
  · obtain ⟨T, fr, hc⟩ := laid_ints h (kRc.map fun x => (x.toNat : Int)) h1 (show Tryz.prog.globalNamed "tearoff/keccak.rc" = some 8 by kernel_rfl) (show (Tryz.prog.globals[8]?).map (·.type) = some 232 by kernel_rfl) ti232 ti37 rfl
    refine ⟨_, T, fr, hc, fun j hj => ?_⟩
    rw [List.getElem?_toArray, List.map_map]
    exact get_u64' kRc j hj
  · obtain ⟨T, fr, hc⟩ := laid_ints h (kTurns.map fun (x : Nat) => (x : Int)) h2 (show Tryz.prog.globalNamed "tearoff/keccak.turns" = some 7 by kernel_rfl) (show (Tryz.prog.globals[7]?).map (·.type) = some 273 by kernel_rfl) ti273 ti3 rfl
    refine ⟨_, T, fr, hc, fun j hj => ?_⟩
    rw [List.getElem?_toArray, List.map_map, List.getElem?_map, List.getElem?_eq_getElem (show j < kTurns.length from hj), List.getD_eq_getElem?_getD, List.getElem?_eq_getElem (show j < kTurns.length from hj)]
    rfl
theorem trod_pair {t it : TypeId} {z z' : Value} {b b' fuel : Nat} {f0 f1 : Field} {cs : List Value} {a c : Int} {p : List MemPlace} {sp : Nat → Bool} {held : Bool} {enc : TypeId × Value → Unit} [ti : TI Tryz.prog t (.struct #[f0, f1]) z 2 b] [te : TI Tryz.prog it (.int .i64) z' 1 b']
  (e0 : f0.type = it ∧ f0.offset = 0) (e1 : f1.type = it ∧ f1.offset = 1) (h : DataW.trod enc Tryz.prog W 0 sp held fuel t cs = some (.agg [.lit (.int .i64 a), .lit (.int .i64 c)], p)) : cs = [.int .i64 a, .int .i64 c] := by
 obtain ⟨y0, y1, n, hx, hl, h0, h1⟩ := trod_struct2 ti.und h
 rw [ti.cellsOf] at hl
 rw [e0.1, e0.2, te.cellsOf] at h0
 rw [e1.1, e1.2, te.cellsOf] at h1
 obtain ⟨x, g1, g2, _⟩ := DataW.trod_int te.und h0
 obtain ⟨x', g1', g2', _⟩ := DataW.trod_int te.und h1
 simp only [Prod.mk.injEq, DataW.agg.injEq, List.cons.injEq, and_true] at hx
 match cs, hl with
 | [c0, c1], _ =>
  simp at g1 g1'
  rw [g2, g2'] at hx
  simp only [DataW.lit.injEq, Lit.int.injEq, true_and] at hx
  rw [g1, g1', hx.1.1, hx.1.2]
theorem setG_of {laid : List (String × DataW Unit)} (h : laidMet Tryz.prog laid W) (h1 : ("tearoff/sets.sums", Rows.laid_tearoff_sets_sums) ∈ laid) (h2 : ("tearoff/sets.widths", Rows.laid_tearoff_sets_widths) ∈ laid) : SetG (memOf W) := by
  refine ⟨?_, ?_⟩
  · obtain ⟨ps, hv, _⟩ := h
    obtain ⟨g', t', cs, fuel, p, e1, e2, e3, e4⟩ := laidVars_mem hv h1
    obtain rfl := Option.some.inj ((show Tryz.prog.globalNamed "tearoff/sets.sums" = some 3 by kernel_rfl).symm.trans e1)
    obtain rfl := Option.some.inj ((show (Tryz.prog.globals[3]?).map (·.type) = some 228 by kernel_rfl).symm.trans e2)
    obtain ⟨T, fr, hh⟩ := var_heap e1 e3
    obtain ⟨xs, m', hx', hx, hl, hn, hel⟩ := DataW.trod_array (ti228 : TI Tryz.prog 228 _ _ _ _).und e4
    rw [TI.cellsOf (ti228 : TI Tryz.prog 228 _ _ _ _)] at hl
    rw [TI.cellsOf (ti195 : TI Tryz.prog 195 _ _ _ _)] at hel
    unfold Rows.laid_tearoff_sets_sums at hx
    refine ⟨T, fr, ?_⟩
    rw [hh]
    obtain ⟨cl, rfl⟩ : ∃ cl : List Value, cs = cl.toArray := ⟨cs.toList, by simp⟩
    match xs, hn with
    | [x0, x1, x2, x3], _ =>
      simp only [Prod.mk.injEq, DataW.agg.injEq, List.map_cons, List.map_nil, List.cons.injEq, and_true] at hx
      have k0 := hel 0 (by omega)
      have k1 := hel 1 (by omega)
      have k2 := hel 2 (by omega)
      have k3 := hel 3 (by omega)
      match cl, hl with
      | [c0, c1, c2, c3, c4, c5, c6, c7], _ =>
        simp at k0 k1 k2 k3
        obtain ⟨q0, q0'⟩ := x0
        obtain ⟨q1, q1'⟩ := x1
        obtain ⟨q2, q2'⟩ := x2
        obtain ⟨q3, q3'⟩ := x3
        obtain ⟨⟨rfl, rfl, rfl, rfl⟩, _⟩ := hx
        have r0 := trod_pair (te := ti3) ⟨rfl, rfl⟩ ⟨rfl, rfl⟩ k0
        have r1 := trod_pair (te := ti3) ⟨rfl, rfl⟩ ⟨rfl, rfl⟩ k1
        have r2 := trod_pair (te := ti3) ⟨rfl, rfl⟩ ⟨rfl, rfl⟩ k2
        have r3 := trod_pair (te := ti3) ⟨rfl, rfl⟩ ⟨rfl, rfl⟩ k3
        simp only [List.cons.injEq, and_true] at r0 r1 r2 r3
        rw [r0.1, r0.2, r1.1, r1.2, r2.1, r2.2, r3.1, r3.2]
  · obtain ⟨T, fr, hc⟩ := laid_ints h [1, 2, 4, 8] h2 (show Tryz.prog.globalNamed "tearoff/sets.widths" = some 0 by kernel_rfl) (show (Tryz.prog.globals[0]?).map (·.type) = some 198 by kernel_rfl) ti198 ti3 rfl
    exact ⟨T, fr, hc⟩
theorem bytes_arg' {v : Value} {r : Reach} {b : Nat} (k : Value.okWide Tryz.prog W r b 35 v) (h : Rd enc Tryz.prog W 35 v.cells.toList) : ∃ A n c g, v = .slice A n c ∧ Bytes (memOf W) A n c g := by
 obtain ⟨A, n, c, g, e0, h0⟩ := Rd.bytes (te := ti5) h
 exact ⟨A, n, c, g, one_of (ti := ti35) rfl k e0, h0⟩
end
end Go.Proofs.YtiimjodbaogjbaaGreatDoor
set_option linter.unusedVariables false
set_option linter.unusedSimpArgs false
set_option linter.constructorNameAsVariable false
namespace Go.Proofs.YtiimjodbaogjbaaGreatDoor
open Go Go.Eng Go.ChangeShapes Go.WideShapes Go.ChangeAt Go.RowKit
section
variable {H : Type} {enc : TypeId × Value → H} {P : Program} {W : World} {t : TypeId} {cs : List Value}
def RdW (enc : TypeId × Value → H) (P : Program) (W : World) (t : TypeId) (cs : List Value) : Prop := ∃ fuel d ps, DataW.trod enc P W 0 (fun _ => true) true fuel t cs = some (d, ps) ∧ ∀ n ∈ d.weights P t, n ≤ reachBytes
theorem RdW.rd (h : RdW enc P W t cs) : Rd enc P W t cs := let ⟨n, d, ps, h, _⟩ := h; ⟨n, _, h⟩
theorem rdW_of {v : Value} {d : DataW H} {ps : List MemPlace} (h : DataW.Trod enc P W 0 (fun _ => true) true t v d ps) (hw : ∀ n ∈ d.weights P t, n ≤ reachBytes) : RdW enc P W t v.cells.toList := let ⟨n, h⟩ := h; ⟨n, _, _, h, hw⟩
theorem rdW_at {ts : List TypeId} {ds : List (DataW H)} (hz : (DataW.weightsEach P ts ds).all (· ≤ reachBytes) = true) (j : Nat) {v : Value} {d : DataW H} {ps : List MemPlace} (ht : ts[j]? = some t) (hd : ds[j]? = some d) (h : DataW.Trod enc P W 0 (fun _ => true) true t v d ps) : RdW enc P W t v.cells.toList :=
 rdW_of h fun n hn => by simpa using List.all_eq_true.1 hz n (DataW.weights_mem_each ht hd n hn)
theorem _root_.Go.Eng.TI.bytesOf {d : TypeDesc} {z : Value} {s b : Nat} (h : TI P t d z s b) : P.bytesOf t = b := by
 obtain ⟨i, hi, _, _, hb⟩ := h.parts
 simp [Program.bytesOf, hi, hb]
theorem weightsAll_mem {e : TypeId} {d : DataW H} {n : Nat} : ∀ {ds : List (DataW H)}, d ∈ ds → n ∈ d.weights P e → n ∈ DataW.weightsAll P e ds
  | [], h, _ => by cases h
  | x :: ds, h, hn => by
    simp only [DataW.weightsAll, List.mem_append]
    rcases List.mem_cons.1 h with rfl | h
    · exact .inl hn
    · exact .inr (weightsAll_mem h hn)
theorem RdW.slice {e : TypeId} {z z' : Value} {s b s' b' : Nat} {d' : TypeDesc} [ti : TI P t (.slice e) z s b] [te : TI P e d' z' s' b'] (hs : 0 < s') (h : RdW enc P W t cs) :
    ∃ A len cap vs, cs = [.slice A len cap] ∧ Row (memOf W) s' A len cap vs ∧ len * b' ≤ reachBytes ∧ ∀ i, i < len → RdW enc P W e ((vs.drop (i * s')).take s') := by
  obtain ⟨fuel, d, ps, h, hwt⟩ := h
  rcases Deep.open_slice ti.und h with ⟨rfl, _⟩ | ⟨a, len, cap, m, n, D, Pl, rfl, hb, hl, hm, hmm, hdd, hx⟩
  · exact ⟨none, 0, 0, [], rfl, Row.nil _ _, by simp, fun i hi => by omega⟩
  · obtain ⟨rfl, rfl⟩ := Prod.mk.inj hdd
    have hsz : len * b' ≤ reachBytes := by
      have h1 := hwt ((((List.range len).map D).length + ((List.range (m - len)).map fun j => D (len + j)).length) * P.bytesOf e) (by simp [DataW.weights, ti.und])
      rw [te.bytesOf] at h1
      refine Nat.le_trans (Nat.mul_le_mul_right _ ?_) h1
      simp
    have hwe : ∀ i, i < len → ∀ k ∈ (D i).weights P e, k ≤ reachBytes := fun i hi k hk => hwt k (by
      simp only [DataW.weights, ti.und, List.mem_cons, List.mem_append]
      exact .inr (.inl (weightsAll_mem (List.mem_map.2 ⟨i, List.mem_range.2 hi, rfl⟩) hk)))
    rw [te.cellsOf] at hx
    have hcap : cap ≤ 9223372036854775807 := by unfold maxLen at hm; omega
    have hlm : len ≤ m := by rw [hmm]; split <;> omega
    have hx : ∀ i, i < len → ∃ cs', W.cells? 0 (a.add (i * s')) s' = some cs' ∧ DataW.trod enc P W 0 (fun _ => true) true n e cs' = some (D i, Pl i) := fun i hi => hx i (by omega)
    rcases Nat.eq_zero_or_pos len with h0 | h0
    · subst h0
      exact ⟨some a, 0, cap, [], rfl, Row.empty _ _ _ hcap, hsz, fun i hi => by omega⟩
    · have hspot : a.spot = none := by
        obtain ⟨cs', h1, _⟩ := hx 0 h0
        obtain ⟨_, hlen, hc⟩ := World.cells?_some h1
        have := hc 0 hs
        have hg : cs'[0]? = some (cs'[0]'(by omega)) := List.getElem?_eq_getElem (by omega)
        rw [hg] at this
        have := World.cell?_spot this
        revert this
        unfold Addr.add
        simp
      obtain ⟨bl, off, sp⟩ := a
      simp only at hspot
      subst hspot
      simp only [Eng.add_plain] at hx
      -- the cells
      have hcell : ∀ i, i < len * s' → ∃ v, W.cell? ⟨bl, off + i, none⟩ = some v := fun i hi => by
        obtain ⟨cs', h1, _⟩ := hx (i / s') (Nat.div_lt_of_lt_mul (by rwa [Nat.mul_comm]))
        obtain ⟨_, hlen, hc⟩ := World.cells?_some h1
        have hmod := Nat.mod_lt i hs
        have := hc (i % s') hmod
        rw [Eng.add_plain, Nat.add_assoc, Nat.add_comm (i / s' * s'), Nat.mod_add_div' i s', List.getElem?_eq_getElem (by omega)] at this
        exact ⟨_, this⟩
      have hblock : ∃ c T fr, W.heap[bl]? = some (.cells c T fr) := by
        obtain ⟨v, hv⟩ := hcell 0 (Nat.mul_pos h0 hs)
        unfold World.cell? at hv
        split at hv
        · rename_i c T fr hh; exact ⟨c, T, fr, hh⟩
        · cases hv
      obtain ⟨c, T, fr, hh⟩ := hblock
      have hc : ∀ i, i < len * s' → c[off + i]? = some (c.getD (off + i) default) ∧ W.cell? ⟨bl, off + i, none⟩ = some (c.getD (off + i) default) := fun i hi => by
        obtain ⟨v, hv⟩ := hcell i hi
        have hv' := hv
        unfold World.cell? at hv
        simp only [hh, Option.isSome_none, Bool.false_eq_true, if_false] at hv
        have : c.getD (off + i) default = v := by simp [Array.getD_eq_getD_getElem?, hv]
        rw [this]
        exact ⟨hv, hv'⟩
      refine ⟨some ⟨bl, off, none⟩, len, cap, (List.range (len * s')).map fun i => c.getD (off + i) default, rfl, ⟨by simp, hl, hcap, fun _ => ⟨bl, off, c, T, fr, rfl, hh, fun j v hj => ?_⟩⟩, hsz, fun i hi => ?_⟩
      · rw [List.getElem?_map] at hj
        obtain ⟨k, hk, rfl⟩ := Option.map_eq_some_iff.1 hj
        have hlt := (List.getElem?_eq_some_iff.1 hk).1
        rw [List.getElem?_range (by simpa using hlt)] at hk
        cases hk
        exact (hc _ (by simpa using hlt)).1
      · obtain ⟨cs', h1, h2⟩ := hx i hi
        have : ((((List.range (len * s')).map fun i => c.getD (off + i) default).drop (i * s')).take s') = cs' := by
          obtain ⟨_, hlen, hcc⟩ := World.cells?_some h1
          have hle : (i + 1) * s' ≤ len * s' := Nat.mul_le_mul_right _ hi
          rw [Nat.add_mul, Nat.one_mul] at hle
          apply List.ext_getElem?
          intro j
          rw [List.getElem?_take]
          split
          · rename_i hj
            rw [List.getElem?_drop, List.getElem?_map, List.getElem?_range (by omega)]
            have h3 := hcc j hj
            rw [Eng.add_plain, Nat.add_assoc] at h3
            rw [← h3, (hc (i * s' + j) (by omega)).2]
            rfl
          · rw [List.getElem?_eq_none (by omega)]
        rw [this]
        exact ⟨n, _, _, h2, hwe i hi⟩
theorem RdW.bytes {e : TypeId} {z z' : Value} {s b : Nat} [ti : TI P t (.slice e) z s b] [te : TI P e (.int .u8) z' 1 1] (h : RdW enc P W t cs) :
  ∃ (A : Option Addr) (len cap : Nat) (bs : List UInt8), cs = [.slice A len cap] ∧ Bytes (memOf W) A len cap bs ∧ len ≤ 140737488355328 := by
 obtain ⟨A, len, cap, bs, rfl, hb⟩ := Rd.bytes (te := te) h.rd
 obtain ⟨A', len', cap', vs, e1, _, hz, _⟩ := RdW.slice (te := te) (by omega) h
 have e2 : len = len' := by simp at e1; exact e1.2.1
 exact ⟨A, len, cap, bs, rfl, hb, by unfold reachBytes at hz; omega⟩
end
end Go.Proofs.YtiimjodbaogjbaaGreatDoor
set_option linter.unusedVariables false
set_option maxRecDepth 100000
namespace Go.Proofs.YtiimjodbaogjbaaGreatDoor
open Go Go.Eng Go.ChangeShapes Go.WideShapes Go.ChangeAt Go.RowKit
section
variable {H : Type} {enc : TypeId × Value → H} {W : World}
theorem sums_of {laid : List (String × DataW Unit)} (h : laidMet Tryz.prog laid W) (h1 : ("tearoff/sets.sums", Rows.laid_tearoff_sets_sums) ∈ laid) : ∃ T fr, memOf W 3 = some (.cells (List.toArray [.int .i64 0, .int .i64 32, .int .i64 0, .int .i64 24, .int .i64 1, .int .i64 32, .int .i64 1, .int .i64 24]) T fr) := by
 obtain ⟨ps, hv, _⟩ := h
 obtain ⟨g', t', cs, fuel, p, e1, e2, e3, e4⟩ := laidVars_mem hv h1
 obtain rfl := Option.some.inj ((show Tryz.prog.globalNamed "tearoff/sets.sums" = some 3 by kernel_rfl).symm.trans e1)
 obtain rfl := Option.some.inj ((show (Tryz.prog.globals[3]?).map (·.type) = some 228 by kernel_rfl).symm.trans e2)
 obtain ⟨T, fr, hh⟩ := var_heap e1 e3
 obtain ⟨xs, m', hx', hx, hl, hn, hel⟩ := DataW.trod_array (ti228 : TI Tryz.prog 228 _ _ _ _).und e4
 rw [TI.cellsOf (ti228 : TI Tryz.prog 228 _ _ _ _)] at hl
 rw [TI.cellsOf (ti195 : TI Tryz.prog 195 _ _ _ _)] at hel
 unfold Rows.laid_tearoff_sets_sums at hx
 refine ⟨T, fr, ?_⟩
 rw [hh]
 obtain ⟨cl, rfl⟩ : ∃ cl : List Value, cs = cl.toArray := ⟨cs.toList, by simp⟩
 match xs, hn with
 | [x0, x1, x2, x3], _ =>
  simp only [Prod.mk.injEq, DataW.agg.injEq, List.map_cons, List.map_nil, List.cons.injEq, and_true] at hx
  have k0 := hel 0 (by omega)
  have k1 := hel 1 (by omega)
  have k2 := hel 2 (by omega)
  have k3 := hel 3 (by omega)
  match cl, hl with
  | [c0, c1, c2, c3, c4, c5, c6, c7], _ =>
   simp at k0 k1 k2 k3
   obtain ⟨q0, q0'⟩ := x0
   obtain ⟨q1, q1'⟩ := x1
   obtain ⟨q2, q2'⟩ := x2
   obtain ⟨q3, q3'⟩ := x3
   obtain ⟨⟨rfl, rfl, rfl, rfl⟩, _⟩ := hx
   have r0 := trod_pair (te := ti3) ⟨rfl, rfl⟩ ⟨rfl, rfl⟩ k0
   have r1 := trod_pair (te := ti3) ⟨rfl, rfl⟩ ⟨rfl, rfl⟩ k1
   have r2 := trod_pair (te := ti3) ⟨rfl, rfl⟩ ⟨rfl, rfl⟩ k2
   have r3 := trod_pair (te := ti3) ⟨rfl, rfl⟩ ⟨rfl, rfl⟩ k3
   simp only [List.cons.injEq, and_true] at r0 r1 r2 r3
   rw [r0.1, r0.2, r1.1, r1.2, r2.1, r2.2, r3.1, r3.2]
theorem setT_of {laid : List (String × DataW Unit)} (h : laidMet Tryz.prog laid W) (h1 : ("tearoff/sets.sums", Rows.laid_tearoff_sets_sums) ∈ laid) (h2 : ("tearoff/sets.heights", Rows.laid_tearoff_sets_heights) ∈ laid) (h3 : ("tearoff/sets.own", Rows.laid_tearoff_sets_own) ∈ laid) : SetT (memOf W) := by
  refine ⟨sums_of h h1, ?_, ?_⟩
  · obtain ⟨T, fr, hc⟩ := laid_ints h [5, 10, 15, 20, 25] h2 (show Tryz.prog.globalNamed "tearoff/sets.heights" = some 2 by kernel_rfl) (show (Tryz.prog.globals[2]?).map (·.type) = some 201 by kernel_rfl) ti201 ti3 rfl
    exact ⟨T, fr, hc⟩
  · obtain ⟨T, fr, hc⟩ := laid_ints h [1, 2, 3, 4] h3 (show Tryz.prog.globalNamed "tearoff/sets.own" = some 1 by kernel_rfl) (show (Tryz.prog.globals[1]?).map (·.type) = some 198 by kernel_rfl) ti198 ti3 rfl
    exact ⟨T, fr, hc⟩
end
end Go.Proofs.YtiimjodbaogjbaaGreatDoor
set_option linter.unusedVariables false
set_option maxRecDepth 100000
namespace Go.Proofs.YtiimjodbaogjbaaGreatDoor
open Go Go.Eng Go.ChangeShapes Go.WideShapes Go.ChangeAt Go.RowKit
section
variable {H : Type} {enc : TypeId × Value → H} {W : World}
theorem lmG_of {laid : List (String × DataW Unit)} (e : laid = [("tearoff/keccak.rc", Rows.laid_tearoff_keccak_rc), ("tearoff/keccak.turns", Rows.laid_tearoff_keccak_turns), ("tearoff/sets.sums", Rows.laid_tearoff_sets_sums), ("tearoff/sets.widths", Rows.laid_tearoff_sets_widths), ("tearoff/sets.heights", Rows.laid_tearoff_sets_heights), ("tearoff/sets.own", Rows.laid_tearoff_sets_own), ("tearoff/sha2.k", Rows.laid_tearoff_sha2_k), ("tearoff/sha2.first", Rows.laid_tearoff_sha2_first)]) (h : laidMet Tryz.prog laid W) : LmG (memOf W) :=
 ⟨⟨shaG_of h (by rw [e]; simp) (by rw [e]; simp), kecG_of h (by rw [e]; simp) (by rw [e]; simp), setG_of h (by rw [e]; simp) (by rw [e]; simp)⟩, setT_of h (by rw [e]; simp) (by rw [e]; simp) (by rw [e]; simp)⟩
end
end Go.Proofs.YtiimjodbaogjbaaGreatDoor
set_option linter.unusedVariables false
set_option linter.constructorNameAsVariable false
set_option maxRecDepth 100000
namespace Go.Proofs.YtiimjodbaogjbaaGreatDoor
open Go Go.Eng Go.ChangeShapes Go.WideShapes Go.ChangeAt Go.RowKit
section
variable {H : Type} {enc : TypeId × Value → H} {W : World}
theorem hfits_con {v0 v1 v2 : Value} {r : Reach} {b : Nat} (hl : laidMet Tryz.prog Rows.hssFitsRow.laid W) (k0 : Value.okWide Tryz.prog W r b 35 v0) (k1 : Value.okWide Tryz.prog W r b 35 v1) (k2 : Value.okWide Tryz.prog W r b 35 v2)
  (h0 : RdW enc Tryz.prog W 35 v0.cells.toList) (h1 : RdW enc Tryz.prog W 35 v1.cells.toList) (h2 : RdW enc Tryz.prog W 35 v2.cells.toList) :
  Con Tryz.prog 10 #[v0, v1, v2] W (memOf W) [] (fun v _ _ => v = .bool true) noPanic := by
 obtain ⟨PA, pl, pc, pub, rfl, hp⟩ := bytes_arg' k0 h0.rd
 obtain ⟨TA, tl, tc, text, rfl, ht⟩ := bytes_arg' k1 h1.rd
 obtain ⟨A, m, c, sig, rfl, hs⟩ := bytes_arg' k2 h2.rd
 exact HssFits_spec (lmG_of rfl hl) hp ht hs
end
end Go.Proofs.YtiimjodbaogjbaaGreatDoor
