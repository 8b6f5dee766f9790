/-
What is listed of package-level variables.
-/
import Derived.Test.YtplkoemjffplcaaGreatDoorLaw22SEtc
import Derived.LaidMore
import Derived.LaidLaws
import Derived.MakeChecks
import Derived.Stop.Joined
import Derived.SevenTiedAt
import Derived.Test.YtplkoemjffplcaaGreatDoorEngSEtc
import Derived.Test.YtplkoemjffplcaaGreatDoorOctEtc
import Derived.Test.YtplkoemjffplcaaGreatDoorChecked
import Derived.Test.YtplkoemjffplcaaGreatDoorRows
import Derived.Test.YtplkoemjffplcaaGreatDoorRef1cEtc
import Derived.ChangeSame
import Derived.SizedLaws
import Derived.Deep.Strs
import Derived.Test.YtplkoemjffplcaaGreatDoorMerkle3Etc
import Derived.Test.YtplkoemjffplcaaGreatDoorStoreDefEtc
import Derived.Test.YtplkoemjffplcaaGreatDoorOnce3Etc
import Derived.Test.YtplkoemjffplcaaGreatDoorOctCutEtc
import Derived.Test.YtplkoemjffplcaaGreatDoorHss2Etc
import Derived.Test.YtplkoemjffplcaaGreatDoorSetsEtc
import Derived.Test.YtplkoemjffplcaaGreatDoorSlotsLawEtc
import Derived.Test.YtplkoemjffplcaaGreatDoorLms4Etc
set_option linter.all false
namespace Go.Eng
open Go.ChangeShapes Go.WideShapes Go.ChangeAt Go.RowKit
section
variable {P : Program} {W : World}
theorem laidVars_mem : ∀ {laid : List (String × DataW Unit)} {ps : List MemPlace}, DataW.LaidVars P W laid ps → ∀ {n d}, (n, d) ∈ laid → ∃ g t cs fuel p, P.globalNamed n = some g ∧ (P.globals[g]?).map (·.type) = some t ∧ W.var? P n = some cs ∧ DataW.trod (fun _ => ()) P W 0 (fun _ => true) false fuel t cs.toList = some (d, p)
 | [], _, _, n, d, hm => by cases hm
 | (n0, d0) :: r, ps, h, n, d, hm => by
  obtain ⟨g, t, cs, fuel, p, q, h1, h2, h3, h4, h5, _⟩ := h
  rcases List.mem_cons.1 hm with he | hm
  ·
   cases he; exact ⟨g, t, cs, fuel, p, h1, h2, h3, h4⟩
  exact laidVars_mem h5 hm
theorem var_heap {n : String} {g : Nat} {cs : Array Value} (hg : P.globalNamed n = some g) (h : W.var? P n = some cs) : ∃ T fr, memOf W g = some (.cells cs T fr) := by
 simp only [World.var?, hg, Option.bind_some] at h
 unfold memOf
 split at h
 ·
  rename_i c t fr hb
  cases h
  exact ⟨t, fr, hb⟩
 cases h
theorem map_lits {k : IntKind} : ∀ {ns : List Int} {cs : List Value}, cs.length = ns.length → (∀ i, i < ns.length → ∃ x, (cs.drop i).take 1 = [Value.int k x] ∧ ns[i]? = some x) → cs = ns.map (.int k)
 | [], [], _, _ => rfl
 | [], _ :: _, h, _ => by simp at h
 | _ :: _, [], h, _ => by simp at h
 | n :: ns, c :: cs, h, hx => by
  obtain ⟨x, h1, h2⟩ := hx 0 (by simp)
  simp at h1 h2
  have h3 := map_lits (k := k) (ns := ns) (cs := cs) (by simpa using h) (fun i hi => by simpa using hx (i + 1) (by simpa using hi))
  rw [h1, h2, h3]
  rfl
theorem trod_ints {t e : TypeId} {m : Nat} {k : IntKind} {z z' : Value} {s b b' fuel : Nat} [ti : TI P t (.array m e) z s b] [te : TI P e (.int k) z' 1 b'] {ns : List Int} {cs : List Value} {p : List MemPlace} {sp : Nat → Bool} {held : Bool} {enc : TypeId × Value → Unit}
  (h : DataW.trod enc P W 0 sp held fuel t cs = some (.agg (ns.map fun x => .lit (.int k x)), p)) (hs : s = m) : cs = ns.map (.int k) := by
 obtain ⟨xs, m', rfl, hx, hl, hn, hel⟩ := DataW.trod_array ti.und h
 rw [ti.cellsOf, hs] at hl
 simp only [Prod.mk.injEq, DataW.agg.injEq] at hx
 have hln : ns.length = m := by rw [← hn]; simpa using congrArg List.length hx.1
 refine map_lits (by omega) (fun i hi => ?_)
 have h1 := hel i (by omega)
 rw [te.cellsOf, Nat.mul_one] at h1
 rw [List.getElem?_eq_getElem (show i < xs.length by omega)] at h1
 obtain ⟨x, e1, e2, _⟩ := DataW.trod_int te.und h1
 refine ⟨x, e1, ?_⟩
 have h2 := congrArg (fun l => l[i]?) hx.1
 simp only [List.getElem?_map] at h2
 rw [List.getElem?_eq_getElem (show i < xs.length by omega), List.getElem?_eq_getElem hi] at h2
 simp only [Option.map_some, Option.some.injEq, e2, DataW.lit.injEq, Lit.int.injEq, true_and] at h2
 rw [List.getElem?_eq_getElem hi, h2]
theorem laid_ints {laid : List (String × DataW Unit)} (h : laidMet P laid W) {n : String} {g : Nat} {t e : TypeId} {m : Nat} {k : IntKind} {z z' : Value} {s b b' : Nat} (ns : List Int) (hm : (n, DataW.agg (ns.map fun x => .lit (.int k x))) ∈ laid) (hg : P.globalNamed n = some g)
  (ht : (P.globals[g]?).map (·.type) = some t) (ti : TI P t (.array m e) z s b) (te : TI P e (.int k) z' 1 b') (hs : s = m) : ∃ T fr, memOf W g = some (.cells (ns.map (.int k)).toArray T fr) := by
 obtain ⟨ps, hv, _⟩ := h
 obtain ⟨g', t', cs, fuel, p, h1, h2, h3, h4⟩ := laidVars_mem hv hm
 obtain rfl := Option.some.inj (hg.symm.trans h1)
 obtain rfl := Option.some.inj (ht.symm.trans h2)
 obtain ⟨T, fr, hh⟩ := var_heap hg h3
 have := trod_ints h4 hs
 refine ⟨T, fr, ?_⟩
 rw [hh, ← this]
end
end Go.Eng
namespace Go.Proofs.YtplkoemjffplcaaGreatDoor
open Go Go.Eng Go.ChangeShapes Go.WideShapes Go.ChangeAt Go.RowKit
theorem own : ownKnob Tryz.prog.godebug = none := by kernel_rfl
theorem laidOut : laidOutB Tryz.prog = true := by kernel_rfl
set_option maxRecDepth 100000 in
theorem shutBool {H : Type} {enc : TypeId × Value → H} {W : World} {base : Nat} {sp : Nat → Bool} {held : Bool} (b : Bool) : DataW.Trod enc Tryz.prog W base sp held 4 (.bool b) (.lit (.bool b)) [] := ⟨1, by simp [DataW.trod, Value.cells, Tryz.underlying4]⟩
section
variable {W : World}
theorem shaG_of {laid : List (String × DataW Unit)} (h : laidMet Tryz.prog laid W) (h1 : ("tearoff/sha2.k", Rows.laid_tearoff_sha2_k) ∈ laid) (h2 : ("tearoff/sha2.first", Rows.laid_tearoff_sha2_first) ∈ laid) : ShaG (memOf W) := by
 refine ⟨?_, ?_⟩
 ·
  obtain ⟨T, fr, hc⟩ := laid_ints h (kT.map fun x => (x.toNat : Int)) h1 (show Tryz.prog.globalNamed "tearoff/sha2.k" = some 6 by kernel_rfl) (show (Tryz.prog.globals[6]?).map (·.type) = some 354 by kernel_rfl) ti354 ti61 rfl
  refine ⟨_, T, fr, hc, fun j hj => ?_⟩
  rw [List.getElem?_toArray, List.map_map]
  exact get_u32' kT j hj
 obtain ⟨T, fr, hc⟩ := laid_ints h (H8.init.list.map fun x => (x.toNat : Int)) h2 (show Tryz.prog.globalNamed "tearoff/sha2.first" = some 5 by kernel_rfl) (show (Tryz.prog.globals[5]?).map (·.type) = some 344 by kernel_rfl) ti344 ti61 rfl
 exact ⟨T, fr, hc⟩
end
set_option maxRecDepth 100000
section
variable {H : Type} {enc : TypeId × Value → H} {W : World}
theorem kecG_of {laid : List (String × DataW Unit)} (h : laidMet Tryz.prog laid W) (h1 : ("tearoff/keccak.rc", Rows.laid_tearoff_keccak_rc) ∈ laid) (h2 : ("tearoff/keccak.turns", Rows.laid_tearoff_keccak_turns) ∈ laid) : KecG (memOf W) := by
 refine ⟨?_, ?_⟩
 ·
  obtain ⟨T, fr, hc⟩ := laid_ints h (kRc.map fun x => (x.toNat : Int)) h1 (show Tryz.prog.globalNamed "tearoff/keccak.rc" = some 8 by kernel_rfl) (show (Tryz.prog.globals[8]?).map (·.type) = some 368 by kernel_rfl) ti368 ti38 rfl
  refine ⟨_, T, fr, hc, fun j hj => ?_⟩
  rw [List.getElem?_toArray, List.map_map]
  exact get_u64' kRc j hj
 obtain ⟨T, fr, hc⟩ := laid_ints h (kTurns.map fun (x : Nat) => (x : Int)) h2 (show Tryz.prog.globalNamed "tearoff/keccak.turns" = some 7 by kernel_rfl) (show (Tryz.prog.globals[7]?).map (·.type) = some 367 by kernel_rfl) ti367 ti3 rfl
 refine ⟨_, T, fr, hc, fun j hj => ?_⟩
 rw [List.getElem?_toArray, List.map_map, List.getElem?_map, List.getElem?_eq_getElem (show j < kTurns.length from hj), List.getD_eq_getElem?_getD, List.getElem?_eq_getElem (show j < kTurns.length from hj)]
 rfl
theorem trod_pair {t it : TypeId} {z z' : Value} {b b' fuel : Nat} {f0 f1 : Field} {cs : List Value} {a c : Int} {p : List MemPlace} {sp : Nat → Bool} {held : Bool} {enc : TypeId × Value → Unit} [ti : TI Tryz.prog t (.struct #[f0, f1]) z 2 b] [te : TI Tryz.prog it (.int .i64) z' 1 b']
  (e0 : f0.type = it ∧ f0.offset = 0) (e1 : f1.type = it ∧ f1.offset = 1) (h : DataW.trod enc Tryz.prog W 0 sp held fuel t cs = some (.agg [.lit (.int .i64 a), .lit (.int .i64 c)], p)) : cs = [.int .i64 a, .int .i64 c] := by
 obtain ⟨y0, y1, n, hx, hl, h0, h1⟩ := trod_struct2 ti.und h
 rw [ti.cellsOf] at hl
 rw [e0.1, e0.2, te.cellsOf] at h0
 rw [e1.1, e1.2, te.cellsOf] at h1
 obtain ⟨x, g1, g2, _⟩ := DataW.trod_int te.und h0
 obtain ⟨x', g1', g2', _⟩ := DataW.trod_int te.und h1
 simp only [Prod.mk.injEq, DataW.agg.injEq, List.cons.injEq, and_true] at hx
 match cs, hl with
 | [c0, c1], _ =>
  simp at g1 g1'
  rw [g2, g2'] at hx
  simp only [DataW.lit.injEq, Lit.int.injEq, true_and] at hx
  rw [g1, g1', hx.1.1, hx.1.2]
theorem setG_of {laid : List (String × DataW Unit)} (h : laidMet Tryz.prog laid W) (h1 : ("tearoff/sets.sums", Rows.laid_tearoff_sets_sums) ∈ laid) (h2 : ("tearoff/sets.widths", Rows.laid_tearoff_sets_widths) ∈ laid) : SetG (memOf W) := by
 refine ⟨?_, ?_⟩
 ·
  obtain ⟨ps, hv, _⟩ := h
  obtain ⟨g', t', cs, fuel, p, e1, e2, e3, e4⟩ := laidVars_mem hv h1
  obtain rfl := Option.some.inj ((show Tryz.prog.globalNamed "tearoff/sets.sums" = some 3 by kernel_rfl).symm.trans e1)
  obtain rfl := Option.some.inj ((show (Tryz.prog.globals[3]?).map (·.type) = some 274 by kernel_rfl).symm.trans e2)
  obtain ⟨T, fr, hh⟩ := var_heap e1 e3
  obtain ⟨xs, m', hx', hx, hl, hn, hel⟩ := DataW.trod_array (ti274 : TI Tryz.prog 274 _ _ _ _).und e4
  rw [TI.cellsOf (ti274 : TI Tryz.prog 274 _ _ _ _)] at hl
  rw [TI.cellsOf (ti223 : TI Tryz.prog 223 _ _ _ _)] at hel
  unfold Rows.laid_tearoff_sets_sums at hx
  refine ⟨T, fr, ?_⟩
  rw [hh]
  obtain ⟨cl, rfl⟩ : ∃ cl : List Value, cs = cl.toArray := ⟨cs.toList, by simp⟩
  match xs, hn with
  | [x0, x1, x2, x3], _ =>
   simp only [Prod.mk.injEq, DataW.agg.injEq, List.map_cons, List.map_nil, List.cons.injEq, and_true] at hx
   have k0 := hel 0 (by omega)
   have k1 := hel 1 (by omega)
   have k2 := hel 2 (by omega)
   have k3 := hel 3 (by omega)
   match cl, hl with
   | [c0, c1, c2, c3, c4, c5, c6, c7], _ =>
    simp at k0 k1 k2 k3
    obtain ⟨q0, q0'⟩ := x0
    obtain ⟨q1, q1'⟩ := x1
    obtain ⟨q2, q2'⟩ := x2
    obtain ⟨q3, q3'⟩ := x3
    obtain ⟨⟨rfl, rfl, rfl, rfl⟩, _⟩ := hx
    have r0 := trod_pair (te := ti3) ⟨rfl, rfl⟩ ⟨rfl, rfl⟩ k0
    have r1 := trod_pair (te := ti3) ⟨rfl, rfl⟩ ⟨rfl, rfl⟩ k1
    have r2 := trod_pair (te := ti3) ⟨rfl, rfl⟩ ⟨rfl, rfl⟩ k2
    have r3 := trod_pair (te := ti3) ⟨rfl, rfl⟩ ⟨rfl, rfl⟩ k3
    simp only [List.cons.injEq, and_true] at r0 r1 r2 r3
    rw [r0.1, r0.2, r1.1, r1.2, r2.1, r2.2, r3.1, r3.2]
 obtain ⟨T, fr, hc⟩ := laid_ints h [1, 2, 4, 8] h2 (show Tryz.prog.globalNamed "tearoff/sets.widths" = some 0 by kernel_rfl) (show (Tryz.prog.globals[0]?).map (·.type) = some 226 by kernel_rfl) ti226 ti3 rfl
 exact ⟨T, fr, hc⟩
theorem u32_of {n : Int} (h : (Lit.int .u32 n).wf = true) : ∃ c : UInt32, n = (c.toNat : Int) := by
 have hb : 0 ≤ n ∧ n ≤ 4294967295 := by simp [Lit.wf, IntKind.min, IntKind.max, IntKind.signed, IntKind.bits] at h; omega
 exact ⟨UInt32.ofNat n.toNat, by rw [UInt32.toNat_ofNat', Nat.mod_eq_of_lt (by omega)]; omega⟩
end
section
variable {H : Type} {enc : TypeId × Value → H} {P : Program} {W : World} {t : TypeId} {cs : List Value}
def RdW (enc : TypeId × Value → H) (P : Program) (W : World) (t : TypeId) (cs : List Value) : Prop := ∃ fuel d ps, DataW.trod enc P W 0 (fun _ => true) true fuel t cs = some (d, ps) ∧ ∀ n ∈ d.weights P t, n ≤ reachBytes
theorem RdW.rd (h : RdW enc P W t cs) : Rd enc P W t cs := let ⟨n, d, ps, h, _⟩ := h; ⟨n, _, h⟩
theorem rdW_of {v : Value} {d : DataW H} {ps : List MemPlace} (h : DataW.Trod enc P W 0 (fun _ => true) true t v d ps) (hw : ∀ n ∈ d.weights P t, n ≤ reachBytes) : RdW enc P W t v.cells.toList := let ⟨n, h⟩ := h; ⟨n, _, _, h, hw⟩
theorem rdW_at {ts : List TypeId} {ds : List (DataW H)} (hz : (DataW.weightsEach P ts ds).all (· ≤ reachBytes) = true) (j : Nat) {v : Value} {d : DataW H} {ps : List MemPlace} (ht : ts[j]? = some t) (hd : ds[j]? = some d) (h : DataW.Trod enc P W 0 (fun _ => true) true t v d ps) : RdW enc P W t v.cells.toList :=
 rdW_of h fun n hn => by simpa using List.all_eq_true.1 hz n (DataW.weights_mem_each ht hd n hn)
theorem _root_.Go.Eng.TI.bytesOf {d : TypeDesc} {z : Value} {s b : Nat} (h : TI P t d z s b) : P.bytesOf t = b := by
 obtain ⟨i, hi, _, _, hb⟩ := h.parts
 simp [Program.bytesOf, hi, hb]
theorem weightsAll_mem {e : TypeId} {d : DataW H} {n : Nat} : ∀ {ds : List (DataW H)}, d ∈ ds → n ∈ d.weights P e → n ∈ DataW.weightsAll P e ds
 | [], h, _ => by cases h
 | x :: ds, h, hn => by
  simp only [DataW.weightsAll, List.mem_append]
  rcases List.mem_cons.1 h with rfl | h
  ·
   exact .inl hn
  exact .inr (weightsAll_mem h hn)
theorem RdW.slice {e : TypeId} {z z' : Value} {s b s' b' : Nat} {d' : TypeDesc} [ti : TI P t (.slice e) z s b] [te : TI P e d' z' s' b'] (hs : 0 < s') (h : RdW enc P W t cs) :
  ∃ A len cap vs, cs = [.slice A len cap] ∧ Row (memOf W) s' A len cap vs ∧ len * b' ≤ reachBytes ∧ ∀ i, i < len → RdW enc P W e ((vs.drop (i * s')).take s') := by
 obtain ⟨fuel, d, ps, h, hwt⟩ := h
 rcases Deep.open_slice ti.und h with ⟨rfl, _⟩ | ⟨a, len, cap, m, n, D, Pl, rfl, hb, hl, hm, hmm, hdd, hx⟩
 ·
  exact ⟨none, 0, 0, [], rfl, Row.nil _ _, by simp, fun i hi => by omega⟩
 obtain ⟨rfl, rfl⟩ := Prod.mk.inj hdd
 have hsz : len * b' ≤ reachBytes := by
  have h1 := hwt ((((List.range len).map D).length + ((List.range (m - len)).map fun j => D (len + j)).length) * P.bytesOf e) (by simp [DataW.weights, ti.und])
  rw [te.bytesOf] at h1
  refine Nat.le_trans (Nat.mul_le_mul_right _ ?_) h1
  simp
 have hwe : ∀ i, i < len → ∀ k ∈ (D i).weights P e, k ≤ reachBytes := fun i hi k hk => hwt k (by
  simp only [DataW.weights, ti.und, List.mem_cons, List.mem_append]
  exact .inr (.inl (weightsAll_mem (List.mem_map.2 ⟨i, List.mem_range.2 hi, rfl⟩) hk)))
 rw [te.cellsOf] at hx
 have hcap : cap ≤ 9223372036854775807 := by unfold maxLen at hm; omega
 have hlm : len ≤ m := by rw [hmm]; split <;> omega
 have hx : ∀ i, i < len → ∃ cs', W.cells? 0 (a.add (i * s')) s' = some cs' ∧ DataW.trod enc P W 0 (fun _ => true) true n e cs' = some (D i, Pl i) := fun i hi => hx i (by omega)
 rcases Nat.eq_zero_or_pos len with h0 | h0
 ·
  subst h0
  exact ⟨some a, 0, cap, [], rfl, Row.empty _ _ _ hcap, hsz, fun i hi => by omega⟩
 have hspot : a.spot = none := by
  obtain ⟨cs', h1, _⟩ := hx 0 h0
  obtain ⟨_, hlen, hc⟩ := World.cells?_some h1
  have := hc 0 hs
  have hg : cs'[0]? = some (cs'[0]'(by omega)) := List.getElem?_eq_getElem (by omega)
  rw [hg] at this
  have := World.cell?_spot this
  revert this
  unfold Addr.add
  simp
 obtain ⟨bl, off, sp⟩ := a
 simp only at hspot
 subst hspot
 simp only [Eng.add_plain] at hx
 have hcell : ∀ i, i < len * s' → ∃ v, W.cell? ⟨bl, off + i, none⟩ = some v := fun i hi => by
  obtain ⟨cs', h1, _⟩ := hx (i / s') (Nat.div_lt_of_lt_mul (by rwa [Nat.mul_comm]))
  obtain ⟨_, hlen, hc⟩ := World.cells?_some h1
  have hmod := Nat.mod_lt i hs
  have := hc (i % s') hmod
  rw [Eng.add_plain, Nat.add_assoc, Nat.add_comm (i / s' * s'), Nat.mod_add_div' i s', List.getElem?_eq_getElem (by omega)] at this
  exact ⟨_, this⟩
 have hblock : ∃ c T fr, W.heap[bl]? = some (.cells c T fr) := by
  obtain ⟨v, hv⟩ := hcell 0 (Nat.mul_pos h0 hs)
  unfold World.cell? at hv
  split at hv
  ·
   rename_i c T fr hh; exact ⟨c, T, fr, hh⟩
  cases hv
 obtain ⟨c, T, fr, hh⟩ := hblock
 have hc : ∀ i, i < len * s' → c[off + i]? = some (c.getD (off + i) default) ∧ W.cell? ⟨bl, off + i, none⟩ = some (c.getD (off + i) default) := fun i hi => by
  obtain ⟨v, hv⟩ := hcell i hi
  have hv' := hv
  unfold World.cell? at hv
  simp only [hh, Option.isSome_none, Bool.false_eq_true, if_false] at hv
  have : c.getD (off + i) default = v := by simp [Array.getD_eq_getD_getElem?, hv]
  rw [this]
  exact ⟨hv, hv'⟩
 refine ⟨some ⟨bl, off, none⟩, len, cap, (List.range (len * s')).map fun i => c.getD (off + i) default, rfl, ⟨by simp, hl, hcap, fun _ => ⟨bl, off, c, T, fr, rfl, hh, fun j v hj => ?_⟩⟩, hsz, fun i hi => ?_⟩
 ·
  rw [List.getElem?_map] at hj
  obtain ⟨k, hk, rfl⟩ := Option.map_eq_some_iff.1 hj
  have hlt := (List.getElem?_eq_some_iff.1 hk).1
  rw [List.getElem?_range (by simpa using hlt)] at hk
  cases hk
  exact (hc _ (by simpa using hlt)).1
 obtain ⟨cs', h1, h2⟩ := hx i hi
 have : ((((List.range (len * s')).map fun i => c.getD (off + i) default).drop (i * s')).take s') = cs' := by
  obtain ⟨_, hlen, hcc⟩ := World.cells?_some h1
  have hle : (i + 1) * s' ≤ len * s' := Nat.mul_le_mul_right _ hi
  rw [Nat.add_mul, Nat.one_mul] at hle
  apply List.ext_getElem?
  intro j
  rw [List.getElem?_take]
  split
  ·
   rename_i hj
   rw [List.getElem?_drop, List.getElem?_map, List.getElem?_range (by omega)]
   have h3 := hcc j hj
   rw [Eng.add_plain, Nat.add_assoc] at h3
   rw [← h3, (hc (i * s' + j) (by omega)).2]
   rfl
  rw [List.getElem?_eq_none (by omega)]
 rw [this]
 exact ⟨n, _, _, h2, hwe i hi⟩
theorem RdW.bytes {e : TypeId} {z z' : Value} {s b : Nat} [ti : TI P t (.slice e) z s b] [te : TI P e (.int .u8) z' 1 1] (h : RdW enc P W t cs) :
  ∃ (A : Option Addr) (len cap : Nat) (bs : List UInt8), cs = [.slice A len cap] ∧ Bytes (memOf W) A len cap bs ∧ len ≤ 140737488355328 := by
 obtain ⟨A, len, cap, bs, rfl, hb⟩ := Rd.bytes (te := te) h.rd
 obtain ⟨A', len', cap', vs, e1, _, hz, _⟩ := RdW.slice (te := te) (by omega) h
 have e2 : len = len' := by simp at e1; exact e1.2.1
 exact ⟨A, len, cap, bs, rfl, hb, by unfold reachBytes at hz; omega⟩
end
section
variable {H : Type} {enc : TypeId × Value → H} {W : World}
theorem sums_of {laid : List (String × DataW Unit)} (h : laidMet Tryz.prog laid W) (h1 : ("tearoff/sets.sums", Rows.laid_tearoff_sets_sums) ∈ laid) : ∃ T fr, memOf W 3 = some (.cells #[.int .i64 0, .int .i64 32, .int .i64 0, .int .i64 24, .int .i64 1, .int .i64 32, .int .i64 1, .int .i64 24] T fr) := by
 obtain ⟨ps, hv, _⟩ := h
 obtain ⟨g', t', cs, fuel, p, e1, e2, e3, e4⟩ := laidVars_mem hv h1
 obtain rfl := Option.some.inj ((show Tryz.prog.globalNamed "tearoff/sets.sums" = some 3 by kernel_rfl).symm.trans e1)
 obtain rfl := Option.some.inj ((show (Tryz.prog.globals[3]?).map (·.type) = some 274 by kernel_rfl).symm.trans e2)
 obtain ⟨T, fr, hh⟩ := var_heap e1 e3
 obtain ⟨xs, m', hx', hx, hl, hn, hel⟩ := DataW.trod_array (ti274 : TI Tryz.prog 274 _ _ _ _).und e4
 rw [TI.cellsOf (ti274 : TI Tryz.prog 274 _ _ _ _)] at hl
 rw [TI.cellsOf (ti223 : TI Tryz.prog 223 _ _ _ _)] at hel
 unfold Rows.laid_tearoff_sets_sums at hx
 refine ⟨T, fr, ?_⟩
 rw [hh]
 obtain ⟨cl, rfl⟩ : ∃ cl : List Value, cs = cl.toArray := ⟨cs.toList, by simp⟩
 match xs, hn with
 | [x0, x1, x2, x3], _ =>
  simp only [Prod.mk.injEq, DataW.agg.injEq, List.map_cons, List.map_nil, List.cons.injEq, and_true] at hx
  have k0 := hel 0 (by omega)
  have k1 := hel 1 (by omega)
  have k2 := hel 2 (by omega)
  have k3 := hel 3 (by omega)
  match cl, hl with
  | [c0, c1, c2, c3, c4, c5, c6, c7], _ =>
   simp at k0 k1 k2 k3
   obtain ⟨q0, q0'⟩ := x0
   obtain ⟨q1, q1'⟩ := x1
   obtain ⟨q2, q2'⟩ := x2
   obtain ⟨q3, q3'⟩ := x3
   obtain ⟨⟨rfl, rfl, rfl, rfl⟩, _⟩ := hx
   have r0 := trod_pair (te := ti3) ⟨rfl, rfl⟩ ⟨rfl, rfl⟩ k0
   have r1 := trod_pair (te := ti3) ⟨rfl, rfl⟩ ⟨rfl, rfl⟩ k1
   have r2 := trod_pair (te := ti3) ⟨rfl, rfl⟩ ⟨rfl, rfl⟩ k2
   have r3 := trod_pair (te := ti3) ⟨rfl, rfl⟩ ⟨rfl, rfl⟩ k3
   simp only [List.cons.injEq, and_true] at r0 r1 r2 r3
   rw [r0.1, r0.2, r1.1, r1.2, r2.1, r2.2, r3.1, r3.2]
theorem setT_of {laid : List (String × DataW Unit)} (h : laidMet Tryz.prog laid W) (h1 : ("tearoff/sets.sums", Rows.laid_tearoff_sets_sums) ∈ laid) (h2 : ("tearoff/sets.heights", Rows.laid_tearoff_sets_heights) ∈ laid) (h3 : ("tearoff/sets.own", Rows.laid_tearoff_sets_own) ∈ laid) : SetT (memOf W) := by
 refine ⟨sums_of h h1, ?_, ?_⟩
 ·
  obtain ⟨T, fr, hc⟩ := laid_ints h [5, 10, 15, 20, 25] h2 (show Tryz.prog.globalNamed "tearoff/sets.heights" = some 2 by kernel_rfl) (show (Tryz.prog.globals[2]?).map (·.type) = some 269 by kernel_rfl) ti269 ti3 rfl
  exact ⟨T, fr, hc⟩
 obtain ⟨T, fr, hc⟩ := laid_ints h [1, 2, 3, 4] h3 (show Tryz.prog.globalNamed "tearoff/sets.own" = some 1 by kernel_rfl) (show (Tryz.prog.globals[1]?).map (·.type) = some 226 by kernel_rfl) ti226 ti3 rfl
 exact ⟨T, fr, hc⟩
end
section
variable {H : Type} {enc : TypeId × Value → H} {W : World}
theorem lmG_of {laid : List (String × DataW Unit)} (e : laid = [("tearoff/keccak.rc", Rows.laid_tearoff_keccak_rc), ("tearoff/keccak.turns", Rows.laid_tearoff_keccak_turns), ("tearoff/sets.sums", Rows.laid_tearoff_sets_sums), ("tearoff/sets.widths", Rows.laid_tearoff_sets_widths), ("tearoff/sets.heights", Rows.laid_tearoff_sets_heights), ("tearoff/sets.own", Rows.laid_tearoff_sets_own), ("tearoff/sha2.k", Rows.laid_tearoff_sha2_k), ("tearoff/sha2.first", Rows.laid_tearoff_sha2_first)]) (h : laidMet Tryz.prog laid W) : LmG (memOf W) :=
 ⟨⟨shaG_of h (by rw [e]; simp) (by rw [e]; simp), kecG_of h (by rw [e]; simp) (by rw [e]; simp), setG_of h (by rw [e]; simp) (by rw [e]; simp)⟩, setT_of h (by rw [e]; simp) (by rw [e]; simp) (by rw [e]; simp)⟩
end
section
variable {H : Type} {enc : TypeId × Value → H} {W : World}
theorem prow_of : ∀ (n : Nat) (vs : List Value), vs.length = n * 2 → (∀ i, i < n → ∃ p : PairV, (vs.drop (i * 2)).take 2 = p.cells) → ∃ pl : List PairV, vs = prow pl
 | 0, vs, hl, _ => ⟨[], by cases vs with | nil => rfl | cons => simp at hl⟩
 | n + 1, vs, hl, h => by
  obtain ⟨p, hp⟩ := h 0 (by omega)
  obtain ⟨pl, hpl⟩ := prow_of n (vs.drop 2) (by rw [List.length_drop]; omega) (fun i hi => by
   obtain ⟨q, hq⟩ := h (i + 1) (by omega)
   exact ⟨q, by rw [List.drop_drop, ← hq]; congr 2; omega⟩)
  refine ⟨p :: pl, ?_⟩
  rw [prow, List.flatMap_cons, ← hp, Nat.zero_mul, List.drop_zero]
  rw [prow] at hpl
  rw [← hpl, List.take_append_drop]
theorem pairs_arg {v : Value} {r : Reach} {b : Nat} (k : Value.okWide Tryz.prog W r b 31 v) (h : Rd enc Tryz.prog W 31 v.cells.toList) : ∃ (A : Option Addr) (n c : Nat) (pl : List PairV), v = .slice A n c ∧ Row (memOf W) 2 A n c (prow pl) := by
 obtain ⟨A, n, c, vs, e0, hr, hx⟩ := Rd.slice (te := ti63) (by omega) h
 obtain ⟨pl, rfl⟩ := prow_of n vs hr.len (fun i hi => by
  obtain ⟨hl, hf⟩ := Rd.struct (ti := ti63) (hx i hi)
  have f0 := hf _ (List.mem_cons_self)
  have f1 := hf _ (List.mem_cons_of_mem _ List.mem_cons_self)
  rw [TI.cellsOf (ti61 : TI Tryz.prog 61 _ _ _ _)] at f0 f1
  obtain ⟨n0, e0, w0⟩ := Rd.int (k := .u32) f0
  obtain ⟨n1, e1, w1⟩ := Rd.int (k := .u32) f1
  obtain ⟨q0, rfl⟩ := u32_of w0
  obtain ⟨q1, rfl⟩ := u32_of w1
  refine ⟨⟨q0, q1⟩, ?_⟩
  generalize (vs.drop (i * 2)).take 2 = cs at hl e0 e1
  match cs, hl with
  | [x0, x1], _ =>
   simp at e0 e1
   rw [e0, e1])
 exact ⟨A, n, c, pl, one_of (ti := ti31) rfl k e0, hr⟩
end
section
variable {H : Type} {enc : TypeId × Value → H} {W : World}
theorem str_sB (s : ByteArray) : ∃ bs : List UInt8, s = sB bs := ⟨s.data.toList, by cases s; rfl⟩
theorem str_arg {v : Value} {r : Reach} {b : Nat} (k : Value.okWide Tryz.prog W r b 9 v) (h : Rd enc Tryz.prog W 9 v.cells.toList) : ∃ s : List UInt8, v = .string (sB s) := by
 obtain ⟨n, hc, _⟩ := h.string
 obtain ⟨s, rfl⟩ := str_sB n
 exact ⟨s, one_of (d := .string) rfl k hc⟩
theorem bytes22_arg {v : Value} {r : Reach} {b : Nat} (k : Value.okWide Tryz.prog W r b 52 v) (h : Rd enc Tryz.prog W 52 v.cells.toList) : ∃ (NA SA BA : Option Addr) (nl nc sl sc bl bc : Nat) (name sec bs : List UInt8), v = .agg #[.slice NA nl nc, .slice SA sl sc, .slice BA bl bc] ∧ Bytes (memOf W) NA nl nc name ∧ Bytes (memOf W) SA sl sc sec ∧ Bytes (memOf W) BA bl bc bs := by
 have ha := agg_of (d := .struct _) rfl k
 obtain ⟨hl, hf⟩ := h.struct
 have f0 := hf _ (List.mem_cons_self)
 have f1 := hf _ (List.mem_cons_of_mem _ List.mem_cons_self)
 rw [TI.cellsOf (ti33 : TI Tryz.prog 33 _ _ _ _)] at f0
 rw [TI.cellsOf (ti22 : TI Tryz.prog 22 _ _ _ _)] at f1
 obtain ⟨hl0, hf0⟩ := f0.struct
 have g0 := hf0 _ (List.mem_cons_self)
 have g1 := hf0 _ (List.mem_cons_of_mem _ List.mem_cons_self)
 rw [TI.cellsOf (ti22 : TI Tryz.prog 22 _ _ _ _)] at g0 g1
 obtain ⟨NA, nl, nc, name, e0, h0⟩ := Rd.bytes (te := ti5) g0
 obtain ⟨SA, sl, sc, sec, e1, h1⟩ := Rd.bytes (te := ti5) g1
 obtain ⟨BA, bl, bc, bs, e2, h2⟩ := Rd.bytes (te := ti5) f1
 refine ⟨NA, SA, BA, nl, nc, sl, sc, bl, bc, name, sec, bs, ?_, h0, h1, h2⟩
 rw [ha]
 generalize v.cells.toList = cs at hl e0 e1 e2
 match cs, hl with
 | [x0, x1, x2], _ =>
  simp at e0 e1 e2
  rw [e0, e1, e2]
end
section
variable {H : Type} {enc : TypeId × Value → H} {W : World}
theorem sheads_con {v0 v1 v2 : Value} {r : Reach} {b : Nat} (hl : laidMet Tryz.prog Rows.storeHeadsRow.laid W) (k0 : Value.okWide Tryz.prog W r b 9 v0) (k1 : Value.okWide Tryz.prog W r b 31 v1) (k2 : Value.okWide Tryz.prog W r b 52 v2)
  (h0 : RdW enc Tryz.prog W 9 v0.cells.toList) (h1 : RdW enc Tryz.prog W 31 v1.cells.toList) (h2 : RdW enc Tryz.prog W 52 v2.cells.toList) :
  Con Tryz.prog 5 #[v0, v1, v2] W (memOf W) [] (fun v _ _ => v = .bool true) noPanic := by
 obtain ⟨nm, rfl⟩ := str_arg k0 h0.rd
 obtain ⟨A, n, c, pl, rfl, hr⟩ := pairs_arg k1 h1.rd
 obtain ⟨NA, SA, BA, nl, nc, sl_, sc, bl, bc, name, sec, bs, rfl, hn, hs, hb⟩ := bytes22_arg k2 h2.rd
 exact StoreHeads_spec (lmG_of rfl hl) (lmG_of rfl hl).ch.sha hr hn hs hb
end
end Go.Proofs.YtplkoemjffplcaaGreatDoor
