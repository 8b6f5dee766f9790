/-
From a contract to a statement; what came in. What is listed of package-level variables.
-/
import Derived.Test.YtbgdjdhbejbhkaaDoorEngIEtc
import Derived.WalkKit
import Derived.ProofKit
import Derived.OpenShut
import Derived.ShutString
import Derived.ChangeOld
import Derived.Below
import Derived.Deep.Slices
import Derived.LaidMore
import Derived.LaidLaws
import Derived.MakeChecks
import Derived.Stop.Joined
import Derived.SevenTiedAt
import Derived.Test.YtbgdjdhbejbhkaaDoorTypes1
import Derived.Test.YtbgdjdhbejbhkaaDoorShaEtc
import Derived.Test.YtbgdjdhbejbhkaaDoorChecked
import Derived.Test.YtbgdjdhbejbhkaaDoorRows
import Derived.Test.YtbgdjdhbejbhkaaDoorLaw20Etc
import Derived.Test.YtbgdjdhbejbhkaaDoorPlaysLaw
set_option linter.unusedVariables false
set_option linter.unusedSimpArgs false
namespace Go.Eng
open Go.ChangeShapes Go.WideShapes Go.ChangeAt Go.RowKit
/-! ### From a contract to a statement's call -/
def memOf (W : World) : Mem := fun b => W.heap[b]?
theorem st_start (W : World) : St W (memOf W) [] W := ⟨rfl, rfl, rfl, fun b o h => h, fun p hp => (by cases hp), by simp⟩
theorem below_of {W W' : World} {M' : Mem} {L' : Own} (hle : Le (memOf W) M') (h : St W M' L' W') : Below W.heap.size W W' := by
  have hb : ∀ k, k < W.heap.size → W'.heap[k]? = W.heap[k]? := fun k hk => by
    have h1 : W.heap[k]? = some W.heap[k] := Array.getElem?_eq_getElem hk
    rw [h1]
    exact h.ro k _ (hle k _ h1)
  refine ⟨h.os, h.tape, h.output, ?_, hb⟩
  rcases Nat.eq_zero_or_pos W.heap.size with h0 | h0
  · omega
  · have h2 := hb (W.heap.size - 1) (by omega)
    have hlt : W.heap.size - 1 < W.heap.size := by omega
    rw [Array.getElem?_eq_getElem hlt] at h2
    have h3 := (Array.getElem?_eq_some_iff.1 h2).1
    omega
theorem calls_of_con {P : Program} {f : FuncId} {args : Array Value} {W : World} (h : Con P f args W (memOf W) [] (fun v _ _ => v = .bool true) noPanic) : Calls P f args W fun e W' => e = .returned (.bool true) ∧ Below W.heap.size W W' :=
  (h.calls W (st_start W)).mono fun e W' he => by
    cases e with
    | returned v => obtain ⟨M', L', a, b, rfl⟩ := he; exact ⟨rfl, below_of a b⟩
    | panicked c => obtain ⟨M', L', a, b, c⟩ := he; exact c.elim
    | outgrown => exact he.elim
/-! ### What came in -/
section
variable {H : Type} {enc : TypeId × Value → H} {P : Program} {W : World} {t : TypeId} {cs : List Value}
def Rd (enc : TypeId × Value → H) (P : Program) (W : World) (t : TypeId) (cs : List Value) : Prop := ∃ fuel x, DataW.trod enc P W 0 (fun _ => true) true fuel t cs = some x
theorem rd_of {v : Value} {d : DataW H} {ps : List MemPlace} (h : DataW.Trod enc P W 0 (fun _ => true) true t v d ps) : Rd enc P W t v.cells.toList := let ⟨n, h⟩ := h; ⟨n, _, h⟩
theorem TI.cellsOf {d : TypeDesc} {z : Value} {s b : Nat} (h : TI P t d z s b) : P.cellsOf t = s := by
  obtain ⟨i, hi, _, hs, _⟩ := h.parts
  simp [Program.cellsOf, hi, hs]
theorem Rd.int {k : IntKind} {z : Value} {s b : Nat} [ti : TI P t (.int k) z s b] (h : Rd enc P W t cs) : ∃ n, cs = [.int k n] ∧ (Lit.int k n).wf = true := by
  obtain ⟨fuel, x, h⟩ := h
  cases fuel with
  | zero => cases h
  | succ fuel =>
    unfold DataW.trod at h
    simp only [ti.und] at h
    split at h <;> simp_all
theorem Rd.bool {z : Value} {s b : Nat} [ti : TI P t .bool z s b] (h : Rd enc P W t cs) : ∃ n, cs = [.bool n] := by
  obtain ⟨fuel, x, h⟩ := h
  cases fuel with
  | zero => cases h
  | succ fuel =>
    unfold DataW.trod at h
    simp only [ti.und] at h
    split at h <;> simp_all
theorem Rd.string {z : Value} {s b : Nat} [ti : TI P t .string z s b] (h : Rd enc P W t cs) : ∃ n : ByteArray, cs = [.string n] ∧ n.size ≤ maxLen := by
  obtain ⟨fuel, x, h⟩ := h
  cases fuel with
  | zero => cases h
  | succ fuel =>
    unfold DataW.trod at h
    simp only [ti.und] at h
    split at h <;> simp_all
theorem mapM_some {α β : Type} {f : α → Option β} : ∀ {l : List α} {r : List β}, l.mapM f = some r → ∀ a ∈ l, ∃ b, f a = some b
  | [], _, _, a, ha => by cases ha
  | x :: l, r, h, a, ha => by
    rw [List.mapM_cons] at h
    simp only [Option.bind_eq_bind, Option.bind_eq_some_iff] at h
    obtain ⟨b, hb, rs, hrs, _⟩ := h
    rcases List.mem_cons.1 ha with rfl | ha
    · exact ⟨b, hb⟩
    · exact mapM_some hrs a ha
theorem Rd.array {m : Nat} {e : TypeId} {z z' : Value} {s b s' b' : Nat} {d' : TypeDesc} [ti : TI P t (.array m e) z s b] [te : TI P e d' z' s' b'] (h : Rd enc P W t cs) : cs.length = s ∧ ∀ i, i < m → Rd enc P W e ((cs.drop (i * s')).take s') := by
  obtain ⟨fuel, x, h⟩ := h
  cases fuel with
  | zero => cases h
  | succ fuel =>
    unfold DataW.trod at h
    simp only [ti.und, ti.cellsOf, te.cellsOf] at h
    split at h
    · rename_i hl
      obtain ⟨y, hy, _⟩ := Option.map_eq_some_iff.1 h
      refine ⟨hl, fun i hi => ?_⟩
      obtain ⟨b, hb⟩ := mapM_some hy i (List.mem_range.2 hi)
      exact ⟨fuel, b, hb⟩
    · cases h
theorem Rd.struct {fs : Array Field} {z : Value} {s b : Nat} [ti : TI P t (.struct fs) z s b] (h : Rd enc P W t cs) : cs.length = s ∧ ∀ f ∈ fs.toList, Rd enc P W f.type ((cs.drop f.offset).take (P.cellsOf f.type)) := by
  obtain ⟨fuel, x, h⟩ := h
  cases fuel with
  | zero => cases h
  | succ fuel =>
    unfold DataW.trod at h
    simp only [ti.und, ti.cellsOf] at h
    split at h
    · rename_i hl
      obtain ⟨y, hy, _⟩ := Option.map_eq_some_iff.1 h
      refine ⟨hl, fun f hf => ?_⟩
      obtain ⟨b, hb⟩ := mapM_some hy f hf
      exact ⟨fuel, b, hb⟩
    · cases h
theorem Rd.slice {e : TypeId} {z z' : Value} {s b s' b' : Nat} {d' : TypeDesc} [ti : TI P t (.slice e) z s b] [te : TI P e d' z' s' b'] (hs : 0 < s') (h : Rd enc P W t cs) :
    ∃ A len cap vs, cs = [.slice A len cap] ∧ Row (memOf W) s' A len cap vs ∧ ∀ i, i < len → Rd enc P W e ((vs.drop (i * s')).take s') := by
  obtain ⟨fuel, x, h⟩ := h
  rcases Deep.open_slice ti.und h with ⟨rfl, _⟩ | ⟨a, len, cap, m, n, D, Pl, rfl, hb, hl, hm, hmm, _, hx⟩
  · exact ⟨none, 0, 0, [], rfl, Row.nil _ _, fun i hi => by omega⟩
  · rw [te.cellsOf] at hx
    have hcap : cap ≤ 9223372036854775807 := by unfold maxLen at hm; omega
    have hlm : len ≤ m := by rw [hmm]; split <;> omega
    have hx : ∀ i, i < len → ∃ cs', W.cells? 0 (a.add (i * s')) s' = some cs' ∧ DataW.trod enc P W 0 (fun _ => true) true n e cs' = some (D i, Pl i) := fun i hi => hx i (by omega)
    rcases Nat.eq_zero_or_pos len with h0 | h0
    · subst h0
      exact ⟨some a, 0, cap, [], rfl, Row.empty _ _ _ hcap, fun i hi => by omega⟩
    · have hspot : a.spot = none := by
        obtain ⟨cs', h1, _⟩ := hx 0 h0
        obtain ⟨_, hlen, hc⟩ := World.cells?_some h1
        have := hc 0 hs
        have hg : cs'[0]? = some (cs'[0]'(by omega)) := List.getElem?_eq_getElem (by omega)
        rw [hg] at this
        have := World.cell?_spot this
        revert this
        unfold Addr.add
        simp
      obtain ⟨bl, off, sp⟩ := a
      simp only at hspot
      subst hspot
      simp only [add_plain] at hx
      -- the cells
      have hcell : ∀ i, i < len * s' → ∃ v, W.cell? ⟨bl, off + i, none⟩ = some v := fun i hi => by
        obtain ⟨cs', h1, _⟩ := hx (i / s') (Nat.div_lt_of_lt_mul (by rwa [Nat.mul_comm]))
        obtain ⟨_, hlen, hc⟩ := World.cells?_some h1
        have hmod := Nat.mod_lt i hs
        have := hc (i % s') hmod
        rw [add_plain, Nat.add_assoc, Nat.add_comm (i / s' * s'), Nat.mod_add_div' i s', List.getElem?_eq_getElem (by omega)] at this
        exact ⟨_, this⟩
      have hblock : ∃ c T fr, W.heap[bl]? = some (.cells c T fr) := by
        obtain ⟨v, hv⟩ := hcell 0 (Nat.mul_pos h0 hs)
        unfold World.cell? at hv
        split at hv
        · rename_i c T fr hh; exact ⟨c, T, fr, hh⟩
        · cases hv
      obtain ⟨c, T, fr, hh⟩ := hblock
      have hc : ∀ i, i < len * s' → c[off + i]? = some (c.getD (off + i) default) ∧ W.cell? ⟨bl, off + i, none⟩ = some (c.getD (off + i) default) := fun i hi => by
        obtain ⟨v, hv⟩ := hcell i hi
        have hv' := hv
        unfold World.cell? at hv
        simp only [hh, Option.isSome_none, Bool.false_eq_true, if_false] at hv
        have : c.getD (off + i) default = v := by simp [Array.getD_eq_getD_getElem?, hv]
        rw [this]
        exact ⟨hv, hv'⟩
      refine ⟨some ⟨bl, off, none⟩, len, cap, (List.range (len * s')).map fun i => c.getD (off + i) default, rfl, ⟨by simp, hl, hcap, fun _ => ⟨bl, off, c, T, fr, rfl, hh, fun j v hj => ?_⟩⟩, fun i hi => ?_⟩
      · rw [List.getElem?_map] at hj
        obtain ⟨k, hk, rfl⟩ := Option.map_eq_some_iff.1 hj
        have hlt := (List.getElem?_eq_some_iff.1 hk).1
        rw [List.getElem?_range (by simpa using hlt)] at hk
        cases hk
        exact (hc _ (by simpa using hlt)).1
      · obtain ⟨cs', h1, h2⟩ := hx i hi
        have : ((((List.range (len * s')).map fun i => c.getD (off + i) default).drop (i * s')).take s') = cs' := by
          obtain ⟨_, hlen, hcc⟩ := World.cells?_some h1
          have hle : (i + 1) * s' ≤ len * s' := Nat.mul_le_mul_right _ hi
          rw [Nat.add_mul, Nat.one_mul] at hle
          apply List.ext_getElem?
          intro j
          rw [List.getElem?_take]
          split
          · rename_i hj
            rw [List.getElem?_drop, List.getElem?_map, List.getElem?_range (by omega)]
            have h3 := hcc j hj
            rw [add_plain, Nat.add_assoc] at h3
            rw [← h3, (hc (i * s' + j) (by omega)).2]
            rfl
          · rw [List.getElem?_eq_none (by omega)]
        rw [this]
        exact ⟨n, _, h2⟩
/-- A value of a kind that is one cell. -/
theorem one_of {v : Value} {base : Nat} {r : Reach} {d : TypeDesc} {z : Value} {s b : Nat} [ti : TI P t d z s b] (hd : aggD d = false) (h : Value.okWide P W r base t v) {x : Value} (hc : v.cells.toList = [x]) : v = x := by
  cases v with
  | agg c =>
    exfalso
    simp only [Value.okWide, ti.und] at h
    cases d <;> simp_all [aggD, Cell.okWide, Cell.ok]
  | _ => simpa [Value.cells] using hc
theorem agg_of {v : Value} {base : Nat} {r : Reach} {d : TypeDesc} {z : Value} {s b : Nat} [ti : TI P t d z s b] (hd : aggD d = true) (h : Value.okWide P W r base t v) : v = .agg v.cells.toList.toArray := by
  simp only [Value.okWide, ti.und] at h
  cases d <;> simp_all [aggD]
  all_goals (obtain ⟨cs, rfl, _⟩ := h; simp [Value.cells])
theorem u8_of {n : Int} (h : (Lit.int .u8 n).wf = true) : ∃ c : UInt8, n = (c.toNat : Int) := by
  simp [Lit.wf, IntKind.min, IntKind.max, IntKind.signed, IntKind.bits] at h
  exact ⟨UInt8.ofNat n.toNat, by simp [UInt8.toNat_ofNat']; omega⟩
/-- A row of numbers that came in. -/
theorem ints_of {k : IntKind} : ∀ (vs : List Value), (∀ i, i < vs.length → ∃ n, (vs.drop i).take 1 = [.int k n] ∧ (Lit.int k n).wf = true) → ∃ ts : List Int, vs = ts.map (.int k) ∧ ∀ t ∈ ts, (Lit.int k t).wf = true
  | [], _ => ⟨[], rfl, fun t h => by cases h⟩
  | v :: vs, h => by
    obtain ⟨n, h1, h2⟩ := h 0 (by simp)
    obtain ⟨ts, rfl, ht⟩ := ints_of vs (fun i hi => by simpa using h (i + 1) (by simpa using hi))
    refine ⟨n :: ts, by simpa using h1, fun t hm => ?_⟩
    rcases List.mem_cons.1 hm with rfl | hm
    · exact h2
    · exact ht t hm
theorem Rd.ints {k : IntKind} {e : TypeId} {z z' : Value} {s b b' : Nat} [ti : TI P t (.slice e) z s b] [te : TI P e (.int k) z' 1 b'] (h : Rd enc P W t cs) :
    ∃ (A : Option Addr) (len cap : Nat) (ts : List Int), cs = [.slice A len cap] ∧ Row (memOf W) 1 A len cap (ts.map (.int k)) ∧ ∀ n ∈ ts, (Lit.int k n).wf = true := by
  obtain ⟨A, len, cap, vs, rfl, hr, hx⟩ := h.slice (by omega)
  have hl := hr.len
  obtain ⟨ts, rfl, ht⟩ := ints_of (k := k) vs (fun i hi => by
    have := (hx i (by omega)).int
    simpa using this)
  exact ⟨A, len, cap, ts, rfl, hr, ht⟩
theorem u8s_of : ∀ (ts : List Int), (∀ t ∈ ts, (Lit.int .u8 t).wf = true) → ∃ bs : List UInt8, ts.map (Value.int .u8) = bs.map bv
  | [], _ => ⟨[], rfl⟩
  | t :: ts, h => by
    obtain ⟨c, rfl⟩ := u8_of (h t List.mem_cons_self)
    obtain ⟨bs, hb⟩ := u8s_of ts (fun x hx => h x (List.mem_cons_of_mem _ hx))
    exact ⟨c :: bs, by rw [List.map_cons, List.map_cons, hb]; rfl⟩
/-- A row of bytes that came in. -/
theorem Rd.bytes {e : TypeId} {z z' : Value} {s b b' : Nat} [ti : TI P t (.slice e) z s b] [te : TI P e (.int .u8) z' 1 b'] (h : Rd enc P W t cs) :
    ∃ (A : Option Addr) (len cap : Nat) (bs : List UInt8), cs = [.slice A len cap] ∧ Bytes (memOf W) A len cap bs := by
  obtain ⟨A, len, cap, ts, rfl, hr, ht⟩ := h.ints (k := .u8)
  obtain ⟨bs, hb⟩ := u8s_of ts ht
  exact ⟨A, len, cap, bs, rfl, by rw [Bytes, ← hb]; exact hr⟩
end
end Go.Eng
set_option linter.unusedVariables false
set_option linter.unusedSimpArgs false
namespace Go.Eng
open Go.ChangeShapes Go.WideShapes Go.ChangeAt Go.RowKit
/-! ### What is listed of package-level variables -/
section
variable {P : Program} {W : World}
theorem laidVars_mem : ∀ {laid : List (String × DataW Unit)} {ps : List MemPlace}, DataW.LaidVars P W laid ps → ∀ {n d}, (n, d) ∈ laid → ∃ g t cs fuel p, P.globalNamed n = some g ∧ (P.globals[g]?).map (·.type) = some t ∧ W.var? P n = some cs ∧ DataW.trod (fun _ => ()) P W 0 (fun _ => true) false fuel t cs.toList = some (d, p)
  | [], _, _, n, d, hm => by cases hm
  | (n0, d0) :: r, ps, h, n, d, hm => by
    obtain ⟨g, t, cs, fuel, p, q, h1, h2, h3, h4, h5, _⟩ := h
    rcases List.mem_cons.1 hm with he | hm
    · cases he; exact ⟨g, t, cs, fuel, p, h1, h2, h3, h4⟩
    · exact laidVars_mem h5 hm
theorem var_heap {n : String} {g : Nat} {cs : Array Value} (hg : P.globalNamed n = some g) (h : W.var? P n = some cs) : ∃ T fr, memOf W g = some (.cells cs T fr) := by
  simp only [World.var?, hg, Option.bind_some] at h
  unfold memOf
  split at h
  · rename_i c t fr hb
    cases h
    exact ⟨t, fr, hb⟩
  · cases h
theorem map_lits {k : IntKind} : ∀ {ns : List Int} {cs : List Value}, cs.length = ns.length → (∀ i, i < ns.length → ∃ x, (cs.drop i).take 1 = [Value.int k x] ∧ ns[i]? = some x) → cs = ns.map (.int k)
  | [], [], _, _ => rfl
  | [], _ :: _, h, _ => by simp at h
  | _ :: _, [], h, _ => by simp at h
  | n :: ns, c :: cs, h, hx => by
    obtain ⟨x, h1, h2⟩ := hx 0 (by simp)
    simp at h1 h2
    have h3 := map_lits (k := k) (ns := ns) (cs := cs) (by simpa using h) (fun i hi => by simpa using hx (i + 1) (by simpa using hi))
    rw [h1, h2, h3]
    rfl
theorem trod_ints {t e : TypeId} {m : Nat} {k : IntKind} {z z' : Value} {s b b' fuel : Nat} [ti : TI P t (.array m e) z s b] [te : TI P e (.int k) z' 1 b'] {ns : List Int} {cs : List Value} {p : List MemPlace} {sp : Nat → Bool} {held : Bool} {enc : TypeId × Value → Unit}
    (h : DataW.trod enc P W 0 sp held fuel t cs = some (.agg (ns.map fun x => .lit (.int k x)), p)) (hs : s = m) : cs = ns.map (.int k) := by
  obtain ⟨xs, m', rfl, hx, hl, hn, hel⟩ := DataW.trod_array ti.und h
  rw [ti.cellsOf, hs] at hl
  simp only [Prod.mk.injEq, DataW.agg.injEq] at hx
  have hln : ns.length = m := by rw [← hn]; simpa using congrArg List.length hx.1
  refine map_lits (by omega) (fun i hi => ?_)
  have h1 := hel i (by omega)
  rw [te.cellsOf, Nat.mul_one] at h1
  rw [List.getElem?_eq_getElem (show i < xs.length by omega)] at h1
  obtain ⟨x, e1, e2, _⟩ := DataW.trod_int te.und h1
  refine ⟨x, e1, ?_⟩
  have h2 := congrArg (fun l => l[i]?) hx.1
  simp only [List.getElem?_map] at h2
  rw [List.getElem?_eq_getElem (show i < xs.length by omega), List.getElem?_eq_getElem hi] at h2
  simp only [Option.map_some, Option.some.injEq, e2, DataW.lit.injEq, Lit.int.injEq, true_and] at h2
  rw [List.getElem?_eq_getElem hi, h2]
theorem laid_ints {laid : List (String × DataW Unit)} (h : laidMet P laid W) {n : String} {g : Nat} {t e : TypeId} {m : Nat} {k : IntKind} {z z' : Value} {s b b' : Nat} (ns : List Int) (hm : (n, DataW.agg (ns.map fun x => .lit (.int k x))) ∈ laid) (hg : P.globalNamed n = some g)
    (ht : (P.globals[g]?).map (·.type) = some t) (ti : TI P t (.array m e) z s b) (te : TI P e (.int k) z' 1 b') (hs : s = m) : ∃ T fr, memOf W g = some (.cells (ns.map (.int k)).toArray T fr) := by
  obtain ⟨ps, hv, _⟩ := h
  obtain ⟨g', t', cs, fuel, p, h1, h2, h3, h4⟩ := laidVars_mem hv hm
  obtain rfl := Option.some.inj (hg.symm.trans h1)
  obtain rfl := Option.some.inj (ht.symm.trans h2)
  obtain ⟨T, fr, hh⟩ := var_heap hg h3
  have := trod_ints h4 hs
  refine ⟨T, fr, ?_⟩
  rw [hh, ← this]
theorem brows_of {H : Type} {enc : TypeId × Value → H} {t e : TypeId} {z z' : Value} {s b b' : Nat} [ti : TI P t (.slice e) z s b] [te : TI P e (.int .u8) z' 1 b'] : ∀ (vs : List Value), (∀ i, i < vs.length → Rd enc P W t ((vs.drop i).take 1)) → ∃ bss, BRows (memOf W) vs bss
  | [], _ => ⟨[], .nil⟩
  | v :: vs, h => by
    obtain ⟨A, n, c, bs, e1, hb⟩ := (h 0 (by simp)).bytes
    obtain ⟨bss, ht⟩ := brows_of vs (fun i hi => by simpa using h (i + 1) (by simpa using hi))
    have e2 : v = .slice A n c := by simpa using e1
    exact ⟨bs :: bss, by rw [e2]; exact .cons hb ht⟩
/-- A row of rows of bytes that came in. -/
theorem Rd.brows {H : Type} {enc : TypeId × Value → H} {t0 t e : TypeId} {z0 z z' : Value} {s0 b0 b b' : Nat} {cs : List Value} [t0i : TI P t0 (.slice t) z0 s0 b0] [ti : TI P t (.slice e) z 1 b] [te : TI P e (.int .u8) z' 1 b'] (h : Rd enc P W t0 cs) :
    ∃ A len cap vs bss, cs = [.slice A len cap] ∧ Row (memOf W) 1 A len cap vs ∧ BRows (memOf W) vs bss := by
  obtain ⟨A, len, cap, vs, rfl, hr, hx⟩ := h.slice (by omega)
  obtain ⟨bss, hb⟩ := brows_of vs (fun i hi => by
    have := hx i (by have := hr.len; omega)
    simpa using this)
  exact ⟨A, len, cap, vs, bss, rfl, hr, hb⟩
end
end Go.Eng
set_option linter.unusedVariables false
namespace Go.Proofs.YtbgdjdhbejbhkaaDoor
open Go Go.Eng Go.ChangeShapes Go.WideShapes Go.ChangeAt Go.RowKit
theorem own : ownKnob Tryd.prog.godebug = none := by kernel_rfl
theorem laidOut : laidOutB Tryd.prog = true := by kernel_rfl
set_option maxRecDepth 100000 in
theorem shutBool {H : Type} {enc : TypeId × Value → H} {W : World} {base : Nat} {sp : Nat → Bool} {held : Bool} (b : Bool) : DataW.Trod enc Tryd.prog W base sp held 4 (.bool b) (.lit (.bool b)) [] := ⟨1, by simp [DataW.trod, Value.cells, Tryd.underlying4]⟩
set_option maxRecDepth 100000 in
theorem byte_arg {H : Type} {enc : TypeId × Value → H} {W : World} {v : Value} {r : Reach} {b : Nat} (k : Value.okWide Tryd.prog W r b 5 v) (h : Rd enc Tryd.prog W 5 v.cells.toList) : ∃ c : UInt8, v = .int .u8 c.toNat := by
  obtain ⟨n, e, w⟩ := h.int
  obtain rfl := one_of rfl k e
  obtain ⟨c, rfl⟩ := u8_of w
  exact ⟨c, rfl⟩
set_option maxRecDepth 100000 in
theorem int_arg {H : Type} {enc : TypeId × Value → H} {W : World} {v : Value} {r : Reach} {b : Nat} (k : Value.okWide Tryd.prog W r b 3 v) (h : Rd enc Tryd.prog W 3 v.cells.toList) : ∃ n : Int, v = .int .i64 n ∧ -9223372036854775808 ≤ n ∧ n ≤ 9223372036854775807 := by
  obtain ⟨n, e, w⟩ := h.int
  obtain rfl := one_of rfl k e
  simp [Lit.wf, IntKind.min, IntKind.max, IntKind.signed, IntKind.bits] at w
  exact ⟨n, rfl, by omega, by omega⟩
end Go.Proofs.YtbgdjdhbejbhkaaDoor
set_option linter.unusedVariables false
namespace Go.Proofs.YtbgdjdhbejbhkaaDoor
open Go Go.Eng Go.ChangeShapes Go.WideShapes Go.ChangeAt Go.RowKit
section
variable {W : World}
/-- From the listed variables: the constants of SHA-256. -/
theorem shaG_of {laid : List (String × DataW Unit)} (h : laidMet Tryd.prog laid W) (h1 : ("tearoff/sha2.k", Rows.laid_tearoff_sha2_k) ∈ laid) (h2 : ("tearoff/sha2.first", Rows.laid_tearoff_sha2_first) ∈ laid) : ShaG (memOf W) := by
  refine ⟨?_, ?_⟩
  · obtain ⟨T, fr, hc⟩ := laid_ints h (kT.map fun x => (x.toNat : Int)) h1 (show Tryd.prog.globalNamed "tearoff/sha2.k" = some 6 by kernel_rfl) (show (Tryd.prog.globals[6]?).map (·.type) = some 243 by kernel_rfl) ti243 ti31 rfl
    refine ⟨_, T, fr, hc, fun j hj => ?_⟩
    rw [List.getElem?_toArray, List.map_map]
    exact get_u32' kT j hj
  · obtain ⟨T, fr, hc⟩ := laid_ints h (H8.init.list.map fun x => (x.toNat : Int)) h2 (show Tryd.prog.globalNamed "tearoff/sha2.first" = some 3 by kernel_rfl) (show (Tryd.prog.globals[3]?).map (·.type) = some 220 by kernel_rfl) ti220 ti31 rfl
    exact ⟨T, fr, hc⟩
end
end Go.Proofs.YtbgdjdhbejbhkaaDoor
set_option linter.unusedVariables false
set_option maxRecDepth 100000
namespace Go.Proofs.YtbgdjdhbejbhkaaDoor
open Go Go.Eng Go.ChangeShapes Go.WideShapes Go.ChangeAt Go.RowKit
section
variable {H : Type} {enc : TypeId × Value → H} {W : World}
theorem u64_of {n : Int} (h : (Lit.int .u64 n).wf = true) : ∃ c : UInt64, n = (c.toNat : Int) := by
  have hb : 0 ≤ n ∧ n ≤ 18446744073709551615 := by simp [Lit.wf, IntKind.min, IntKind.max, IntKind.signed, IntKind.bits] at h; omega
  exact ⟨UInt64.ofNat n.toNat, by rw [UInt64.toNat_ofNat', Nat.mod_eq_of_lt (by omega)]; omega⟩
theorem counted_arg {v : Value} {r : Reach} {b : Nat} (k : Value.okWide Tryd.prog W r b 81 v) (h : Rd enc Tryd.prog W 81 v.cells.toList) : ∃ x : Cn, v = .agg (List.toArray (ccells x)) := by
  have ha := agg_of (d := .struct _) rfl k
  obtain ⟨hl, hf⟩ := h.struct
  have f0 := hf _ (List.mem_cons_self)
  have f1 := hf _ (List.mem_cons_of_mem _ List.mem_cons_self)
  have f2 := hf _ (List.mem_cons_of_mem _ (List.mem_cons_of_mem _ List.mem_cons_self))
  have f3 := hf _ (List.mem_cons_of_mem _ (List.mem_cons_of_mem _ (List.mem_cons_of_mem _ List.mem_cons_self)))
  have f4 := hf _ (List.mem_cons_of_mem _ (List.mem_cons_of_mem _ (List.mem_cons_of_mem _ (List.mem_cons_of_mem _ List.mem_cons_self))))
  rw [TI.cellsOf (ti23 : TI Tryd.prog 23 _ _ _ _)] at f0 f1 f2 f3
  rw [TI.cellsOf (ti4 : TI Tryd.prog 4 _ _ _ _)] at f4
  obtain ⟨n0, e0, w0⟩ := Rd.int (k := .u64) f0
  obtain ⟨n1, e1, w1⟩ := Rd.int (k := .u64) f1
  obtain ⟨n2, e2, w2⟩ := Rd.int (k := .u64) f2
  obtain ⟨n3, e3, w3⟩ := Rd.int (k := .u64) f3
  obtain ⟨n4, e4⟩ := Rd.bool f4
  obtain ⟨c0, rfl⟩ := u64_of w0
  obtain ⟨c1, rfl⟩ := u64_of w1
  obtain ⟨c2, rfl⟩ := u64_of w2
  obtain ⟨c3, rfl⟩ := u64_of w3
  refine ⟨⟨c0, c1, c2, c3, n4⟩, ?_⟩
  rw [ha]
  generalize v.cells.toList = cs at hl e0 e1 e2 e3 e4
  match cs, hl with
  | [x0, x1, x2, x3, x4], _ =>
    simp at e0 e1 e2 e3 e4
    rw [e0, e1, e2, e3, e4]
theorem heads_arg {v : Value} {r : Reach} {b : Nat} (k : Value.okWide Tryd.prog W r b 96 v) (h : Rd enc Tryd.prog W 96 v.cells.toList) : ∃ A n c B m d g k, v = .agg #[.slice A n c, .slice B m d] ∧ Bytes (memOf W) A n c g ∧ Bytes (memOf W) B m d k := by
  have ha := agg_of (d := .array 2 45) rfl k
  obtain ⟨hl, hf⟩ := Rd.array (te := ti45) h
  obtain ⟨A, n, c, g, e0, h0⟩ := Rd.bytes (te := ti5) (hf 0 (by omega))
  obtain ⟨B, m, d, k, e1, h1⟩ := Rd.bytes (te := ti5) (hf 1 (by omega))
  refine ⟨A, n, c, B, m, d, g, k, ?_, h0, h1⟩
  rw [ha]
  generalize v.cells.toList = cs at hl e0 e1
  match cs, hl with
  | [x0, x1], _ =>
    simp at e0 e1
    rw [e0, e1]
theorem bytes_arg {v : Value} {r : Reach} {b : Nat} (k : Value.okWide Tryd.prog W r b 45 v) (h : Rd enc Tryd.prog W 45 v.cells.toList) : ∃ A n c g, v = .slice A n c ∧ Bytes (memOf W) A n c g := by
  obtain ⟨A, n, c, g, e0, h0⟩ := Rd.bytes (te := ti5) h
  exact ⟨A, n, c, g, one_of (ti := ti45) rfl k e0, h0⟩
theorem shaG_of2 {laid : List (String × DataW Unit)} {more : List (String × DataW Unit)} (e : laid = ("tearoff/sha2.k", Rows.laid_tearoff_sha2_k) :: ("tearoff/sha2.first", Rows.laid_tearoff_sha2_first) :: more) (h : laidMet Tryd.prog laid W) : ShaG (memOf W) :=
  shaG_of h (by rw [e]; exact List.mem_cons_self) (by rw [e]; exact List.mem_cons_of_mem _ List.mem_cons_self)
end
end Go.Proofs.YtbgdjdhbejbhkaaDoor
set_option linter.unusedVariables false
set_option linter.constructorNameAsVariable false
set_option maxRecDepth 100000
namespace Go.Proofs.YtbgdjdhbejbhkaaDoor
open Go Go.Eng Go.ChangeShapes Go.WideShapes Go.ChangeAt Go.RowKit
section
variable {H : Type} {enc : TypeId × Value → H} {W : World}
theorem act21_of {cs : List Value} (h : Rd enc Tryd.prog W 109 cs) : ∃ a Ac nc cc Af nf cf, cs = acells21 a Ac nc cc Af nf cf ∧ Bytes (memOf W) Ac nc cc a.choices ∧ Ints (memOf W) Af nf cf a.fail := by
  obtain ⟨hl, hf⟩ := h.struct
  have f0 := hf _ (List.mem_cons_self)
  have f1 := hf _ (List.mem_cons_of_mem _ List.mem_cons_self)
  have f2 := hf _ (List.mem_cons_of_mem _ (List.mem_cons_of_mem _ List.mem_cons_self))
  rw [TI.cellsOf (ti3 : TI Tryd.prog 3 _ _ _ _)] at f0
  rw [TI.cellsOf (ti45 : TI Tryd.prog 45 _ _ _ _)] at f1
  rw [TI.cellsOf (ti66 : TI Tryd.prog 66 _ _ _ _)] at f2
  obtain ⟨n0, e0, w0⟩ := Rd.int (k := .i64) f0
  obtain ⟨A4, l4, c4, b4, e4, h4⟩ := Rd.bytes (te := ti5) f1
  obtain ⟨hl5, hf5⟩ := Rd.struct f2
  have g0 := hf5 _ (List.mem_cons_self)
  have g1 := hf5 _ (List.mem_cons_of_mem _ List.mem_cons_self)
  rw [TI.cellsOf (ti64 : TI Tryd.prog 64 _ _ _ _)] at g0
  rw [TI.cellsOf (ti3 : TI Tryd.prog 3 _ _ _ _)] at g1
  obtain ⟨A5, l5, c5, t5, e5, h5, w5⟩ := Rd.ints (k := .i64) (te := ti3) g0
  obtain ⟨n6, e6, w6⟩ := Rd.int (k := .i64) g1
  refine ⟨⟨n0, b4, t5, n6⟩, A4, l4, c4, A5, l5, c5, ?_, h4, h5⟩
  match cs, hl with
  | [x0, x1, x2, x3], _ =>
    simp at e0 e4 e5 e6
    rw [e0, e4, e5, e6]
theorem acts21_of : ∀ (n : Nat) (vs : List Value), vs.length = n * 4 → (∀ i, i < n → Rd enc Tryd.prog W 109 ((vs.drop (i * 4)).take 4)) → ∃ as_, Acts21 (memOf W) vs as_
  | 0, vs, hl, _ => ⟨[], by rw [List.eq_nil_of_length_eq_zero (by omega : vs.length = 0)]; exact .nil⟩
  | n + 1, vs, hl, h => by
    obtain ⟨a, Ac, nc, cc, Af, nf, cf, e, hb, hi⟩ := act21_of (h 0 (by omega))
    obtain ⟨as_, ha⟩ := acts21_of n (vs.drop 4) (by rw [List.length_drop]; omega) (fun i hi => by
      have := h (i + 1) (by omega)
      rwa [show (i + 1) * 4 = 4 + i * 4 by omega, ← List.drop_drop] at this)
    refine ⟨a :: as_, ?_⟩
    rw [Nat.zero_mul, List.drop_zero] at e
    rw [← List.take_append_drop 4 vs, e]
    exact .cons hb hi ha
theorem shape_arg {v : Value} {r : Reach} {b : Nat} (k : Value.okWide Tryd.prog W r b 101 v) (h : Rd enc Tryd.prog W 101 v.cells.toList) : ∃ (t c : UInt64) (HA : Option Addr) (hn hc : Nat) (g : List UInt8), v = .agg #[.int .u64 (t.toNat : Int), .int .u64 (c.toNat : Int), .slice HA hn hc] ∧ Bytes (memOf W) HA hn hc g := by
  have ha := agg_of (d := .struct _) rfl k
  obtain ⟨hl, hf⟩ := h.struct
  have f0 := hf _ (List.mem_cons_self)
  have f1 := hf _ (List.mem_cons_of_mem _ List.mem_cons_self)
  have f2 := hf _ (List.mem_cons_of_mem _ (List.mem_cons_of_mem _ List.mem_cons_self))
  rw [TI.cellsOf (ti23 : TI Tryd.prog 23 _ _ _ _)] at f0 f1
  rw [TI.cellsOf (ti45 : TI Tryd.prog 45 _ _ _ _)] at f2
  obtain ⟨n0, e0, w0⟩ := Rd.int (k := .u64) f0
  obtain ⟨n1, e1, w1⟩ := Rd.int (k := .u64) f1
  obtain ⟨HA, hn, hc, g, e2, h2⟩ := Rd.bytes (te := ti5) f2
  obtain ⟨c0, rfl⟩ := u64_of w0
  obtain ⟨c1, rfl⟩ := u64_of w1
  refine ⟨c0, c1, HA, hn, hc, g, ?_, h2⟩
  rw [ha]
  generalize v.cells.toList = cs at hl e0 e1 e2
  match cs, hl with
  | [x0, x1, x2], _ =>
    simp at e0 e1 e2
    rw [e0, e1, e2]
set_option maxRecDepth 100000 in
theorem rplays_con {v0 v1 : Value} {r : Reach} {b : Nat} (hl : laidMet Tryd.prog Rows.reservePlaysRow.laid W) (k0 : Value.okWide Tryd.prog W r b 101 v0) (k1 : Value.okWide Tryd.prog W r b 102 v1)
    (h0 : Rd enc Tryd.prog W 101 v0.cells.toList) (h1 : Rd enc Tryd.prog W 102 v1.cells.toList) :
    Con Tryd.prog 14 #[v0, v1] W (memOf W) [] (fun v _ _ => v = .bool true) noPanic := by
  obtain ⟨t, c, HA, hn, hc, g, rfl, hh⟩ := shape_arg k0 h0
  obtain ⟨A, n, m, vs, e1, hr, hx⟩ := h1.slice (te := ti109) (by omega)
  obtain rfl := one_of (ti := ti102) rfl k1 e1
  obtain ⟨as_, ha⟩ := acts21_of n vs hr.len hx
  exact ReservePlays_spec (shaG_of2 rfl hl) t c hh hr ha
end
end Go.Proofs.YtbgdjdhbejbhkaaDoor
