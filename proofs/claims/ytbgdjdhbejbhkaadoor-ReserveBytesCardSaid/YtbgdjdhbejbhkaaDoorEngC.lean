/-
The walk engine: reads, numbers, parts.
-/
import Derived.Test.YtbgdjdhbejbhkaaDoorEngB
import Derived.Laws.Cells
import Derived.Laws.Entries
import Derived.Laws.CopyRow
import Derived.Laws.AppendOwn
import Derived.Laws.MakeOwn
import Derived.IntWalk
set_option linter.unusedVariables false
set_option linter.unusedSimpArgs false
namespace Go.Eng

/-! ### What the program's table says of a type -/
class TI (P : Program) (t : TypeId) (d : outParam TypeDesc) (z : outParam Value) (size bytes : outParam Nat) : Prop where
  und : P.underlying t = some d
  info : (P.info? t).map (fun i => (i.zero, i.size, i.bytes)) = some (some z, size, bytes)
theorem TI.parts {P : Program} {t : TypeId} {d : TypeDesc} {z : Value} {size bytes : Nat} (h : TI P t d z size bytes) :
    ∃ i, P.info? t = some i ∧ i.zero = some z ∧ i.size = size ∧ i.bytes = bytes := by
  have hi := h.info
  cases hx : P.info? t with
  | none => rw [hx] at hi; cases hi
  | some i =>
    rw [hx] at hi
    simp only [Option.map_some, Option.some.injEq, Prod.mk.injEq] at hi
    exact ⟨i, rfl, hi.1, hi.2.1, hi.2.2⟩
def aggD : TypeDesc → Bool
  | .struct _ | .array _ _ => true
  | _ => false
/-- Places are added. -/
class AddN (a b : Nat) (c : outParam Nat) : Prop where
  eq : a + b = c
instance (priority := 1200) {b : Nat} : AddN 0 b b := ⟨by omega⟩
instance (priority := 1100) {a : Nat} : AddN a 0 a := ⟨rfl⟩
instance {a b c : Nat} [h : AddN a (b + 1) c] : AddN (a + 1) b c := ⟨by have := h.eq; omega⟩
instance (priority := 900) {a b : Nat} : AddN a b (a + b) := ⟨rfl⟩
/-- Where a struct's field lies, its cells, whether it is a struct or an array. -/
class FO (P : Program) (t : TypeId) (i : Nat) (off s : outParam Nat) (a : outParam Bool) : Prop where
  fld : ∃ fs f d z b, P.underlying t = some (.struct fs) ∧ fs[i]? = some f ∧ TI P f.type d z s b ∧ f.offset = off ∧ aggD d = a ∧ s ≠ 0
/-! ### Lists of cells, by instance search -/
class GetAt (c : List Value) (i : Nat) (v : outParam Value) : Prop where
  get : c[i]? = some v
instance {x : Value} {xs : List Value} : GetAt (x :: xs) 0 x := ⟨rfl⟩
instance {x v : Value} {xs : List Value} {i : Nat} [h : GetAt xs i v] : GetAt (x :: xs) (i + 1) v := ⟨by simpa using h.get⟩
class SetAt (c : List Value) (i : Nat) (v : Value) (c' : outParam (List Value)) : Prop where
  set : c.set i v = c'
  lt : i < c.length
instance {x v : Value} {xs : List Value} : SetAt (x :: xs) 0 v (v :: xs) := ⟨rfl, by simp⟩
instance {x v : Value} {xs ys : List Value} {i : Nat} [h : SetAt xs i v ys] : SetAt (x :: xs) (i + 1) v (x :: ys) := ⟨by simp [h.set], by simpa using h.lt⟩
/-- 'n' cells from 'i' on. -/
class CutAt (c : List Value) (i n : Nat) (vs : outParam (List Value)) : Prop where
  cut : ∀ j v, vs[j]? = some v → c[i + j]? = some v
  len : vs.length = n
instance {c : List Value} {i : Nat} : CutAt c i 0 [] := ⟨fun j v h => by simp at h, rfl⟩
instance {x : Value} {xs vs : List Value} {n : Nat} [h : CutAt xs 0 n vs] : CutAt (x :: xs) 0 (n + 1) (x :: vs) :=
  ⟨fun j v hj => by
    cases j with
    | zero => simpa using hj
    | succ j => have := h.cut j v (by simpa using hj); simpa using this, by simp [h.len]⟩
instance {x : Value} {xs vs : List Value} {i n : Nat} [h : CutAt xs i n vs] : CutAt (x :: xs) (i + 1) n vs :=
  ⟨fun j v hj => by have := h.cut j v hj; rw [show i + 1 + j = (i + j) + 1 by omega, List.getElem?_cons_succ]; exact this, h.len⟩
/-- Some cells from 'i' on are written over. -/
class PutAt (c : List Value) (i : Nat) (vs : List Value) (c' : outParam (List Value)) : Prop where
  put : c' = c.take i ++ (vs ++ c.drop (i + vs.length))
  le : i + vs.length ≤ c.length
instance {c : List Value} : PutAt c 0 [] c := ⟨by simp, by simp⟩
instance {x v : Value} {xs vs ys : List Value} [h : PutAt xs 0 vs ys] : PutAt (x :: xs) 0 (v :: vs) (v :: ys) :=
  ⟨by have := h.put; simp at this; simp [this], by have := h.le; simp at this ⊢; omega⟩
instance {x : Value} {xs vs ys : List Value} {i : Nat} [h : PutAt xs i vs ys] : PutAt (x :: xs) (i + 1) vs (x :: ys) :=
  ⟨by have := h.put; rw [show i + 1 + vs.length = (i + vs.length) + 1 by omega]; simp [this], by have := h.le; simp; omega⟩

class CellsOf (v : Value) (cs : outParam (List Value)) : Prop where
  eq : v.cells = cs.toArray
instance {b : Bool} : CellsOf (.bool b) [.bool b] := ⟨rfl⟩
instance {k : IntKind} {n : Int} : CellsOf (.int k n) [.int k n] := ⟨rfl⟩
instance {s : ByteArray} : CellsOf (.string s) [.string s] := ⟨rfl⟩
instance {a : Option Addr} : CellsOf (.pointer a) [.pointer a] := ⟨rfl⟩
instance {a : Option Addr} {l c : Nat} : CellsOf (.slice a l c) [.slice a l c] := ⟨rfl⟩
instance {r : Option Nat} : CellsOf (.map r) [.map r] := ⟨rfl⟩
instance {f : Fn} {a b : Array Value} : CellsOf (.func f a b) [.func f a b] := ⟨rfl⟩
instance : CellsOf .nilFunc [.nilFunc] := ⟨rfl⟩
instance : CellsOf .nilIface [.nilIface] := ⟨rfl⟩
instance {t : TypeId} {v : Value} : CellsOf (.iface t v) [.iface t v] := ⟨rfl⟩
instance {cs : List Value} : CellsOf (.agg cs.toArray) cs := ⟨rfl⟩
/-! ### Parts that are filled in -/
class LenN (c : List Value) (n : Nat) : Prop where
  len : c.length = n
instance : LenN [] 0 := ⟨rfl⟩
instance {x : Value} {xs : List Value} {n : Nat} [h : LenN xs n] : LenN (x :: xs) (n + 1) := ⟨by simp [h.len]⟩
class MulN (a b : Nat) (c : outParam Nat) : Prop where
  eq : a * b = c
instance (priority := 1200) {a : Nat} : MulN a 1 a := ⟨by omega⟩
instance (priority := 1100) {b : Nat} : MulN 0 b 0 := ⟨by simp⟩
instance {a b c c' : Nat} [h : MulN a b c] [k : AddN c b c'] : MulN (a + 1) b c' := ⟨by rw [Nat.add_mul, Nat.one_mul, h.eq, k.eq]⟩
class PlAt (ps : List (Nat × Nat)) (i : Nat) (o n : outParam Nat) : Prop where
  get : ps[i]? = some (o, n)
instance {o n : Nat} {ps : List (Nat × Nat)} : PlAt ((o, n) :: ps) 0 o n := ⟨rfl⟩
instance {x : Nat × Nat} {o n i : Nat} {ps : List (Nat × Nat)} [h : PlAt ps i o n] : PlAt (x :: ps) (i + 1) o n := ⟨by simpa using h.get⟩
class PlaceAt (pl : Nat → Option (Nat × Nat)) (i : Nat) (o n : outParam Nat) : Prop where
  get : pl i = some (o, n)
instance {ps : List (Nat × Nat)} {i o n : Nat} [h : PlAt ps i o n] : PlaceAt (fun i => ps[i]?) i o n := ⟨h.get⟩
instance {s i o : Nat} [h : MulN i s o] : PlaceAt (fun i => some (i * s, s)) i o s := ⟨by simp [h.eq]⟩
class FillTo (pl : Nat → Option (Nat × Nat)) (z : List Value) (vs : List (Nat × Value)) (out : outParam (List Value)) : Prop where
  fill : Instr.fill pl z.toArray vs = some out.toArray
instance {pl : Nat → Option (Nat × Nat)} {z : List Value} : FillTo pl z [] z := ⟨rfl⟩
theorem foldPut : ∀ (cs : List Value) (k o : Nat) (z : List Value), o + k + cs.length ≤ z.length →
    (cs.zipIdx k).foldl (fun a (c, j) => a.setIfInBounds (o + j) c) z.toArray = (z.take (o + k) ++ (cs ++ z.drop (o + k + cs.length))).toArray
  | [], k, o, z, _ => by simp
  | c :: cs, k, o, z, h => by
    simp only [List.length_cons] at h
    rw [List.zipIdx_cons, List.foldl_cons]
    show List.foldl _ (z.toArray.setIfInBounds (o + k) c) _ = _
    rw [List.setIfInBounds_toArray, foldPut cs (k + 1) o (z.set (o + k) c) (by simp; omega)]
    have hlt : o + k < z.length := by omega
    congr 1
    rw [← Nat.add_assoc, List.take_add_one, List.take_set_of_le (Nat.le_refl _), List.drop_set_of_lt (by omega)]
    rw [List.getElem?_set_self hlt]
    simp [Nat.add_assoc, Nat.add_comm 1]
instance {pl : Nat → Option (Nat × Nat)} {z z1 out cs : List Value} {i o n : Nat} {v : Value} {vs : List (Nat × Value)} [hp : PlaceAt pl i o n] [hc : CellsOf v cs] [hl : LenN cs n] [hq : PutAt z o cs z1] [hr : FillTo pl z1 vs out] : FillTo pl z ((i, v) :: vs) out := ⟨by
  have h1 := hq.le
  have h2 : ¬ ((decide (cs.toArray.size ≠ n) || decide (o + cs.toArray.size > z.toArray.size)) = true) := by simp [hl.len]; have := hl.len; omega
  have h3 := foldPut cs 0 o z (by omega)
  simp only [Instr.fill, hp.get, hc.eq]
  rw [if_neg h2, ← Array.foldl_toList, Array.toList_zipIdx, h3, Nat.add_zero, ← hq.put]
  exact hr.fill⟩
class AppL (a b : List Value) (c : outParam (List Value)) : Prop where
  eq : a ++ b = c
instance {b : List Value} : AppL [] b b := ⟨rfl⟩
instance {x : Value} {a b c : List Value} [h : AppL a b c] : AppL (x :: a) b (x :: c) := ⟨by simp [h.eq]⟩
class RepL (m : Nat) (z : List Value) (c : outParam (List Value)) : Prop where
  eq : (List.replicate m z).flatten = c
instance {z : List Value} : RepL 0 z [] := ⟨rfl⟩
instance {m : Nat} {z c c' : List Value} [h : RepL m z c] [k : AppL z c c'] : RepL (m + 1) z c' := ⟨by rw [List.replicate_succ, List.flatten_cons, h.eq, k.eq]⟩
theorem flatten_get (z : List Value) (hz : 0 < z.length) : ∀ (m i : Nat), i < m * z.length → (List.replicate m z).flatten[i]? = z[i % z.length]?
  | 0, i, h => by simp at h
  | m + 1, i, h => by
    rw [List.replicate_succ, List.flatten_cons]
    rcases Nat.lt_or_ge i z.length with hl | hl
    · rw [List.getElem?_append_left hl, Nat.mod_eq_of_lt hl]
    · rw [List.getElem?_append_right hl, flatten_get z hz m (i - z.length) (by rw [Nat.add_mul] at h; omega), Nat.mod_eq_sub_mod hl]
theorem RepL.range {m : Nat} {z c : List Value} (h : RepL m z c) (hz : 0 < z.length) : (Array.range (m * z.length)).map (z.toArray[· % z.toArray.size]!) = c.toArray := by
  rw [← h.eq]
  apply Array.ext
  · simp
  · intro i h1 h2
    have h3 : i < m * z.length := by simpa using h1
    have h4 := flatten_get z hz m i h3
    have h5 : i % z.length < z.length := Nat.mod_lt _ hz
    rw [List.getElem?_eq_getElem (by simpa using h2), List.getElem?_eq_getElem h5] at h4
    simp only [Option.some.injEq] at h4
    simp [h4, h5]
/-! ### Cells -/
def CellAt (M : Mem) (L : Own) (ad : Addr) (v : Value) : Prop := ∀ w, Sees M L w → w.cell? ad = some v
def CellsAt (M : Mem) (L : Own) (ad : Addr) (vs : List Value) : Prop := ∀ w, Sees M L w → ∀ j v, vs[j]? = some v → w.cell? (ad.add j) = some v
theorem cell_of {w : World} {b o : Nat} {c : Array Value} {T : TypeId} {fr : Nat × Nat} {v : Value} (h : w.heap[b]? = some (.cells c T fr)) (hv : c[o]? = some v) : w.cell? ⟨b, o, none⟩ = some v := by
  simp [World.cell?, h, hv]
theorem add_plain (b o j : Nat) : (⟨b, o, none⟩ : Addr).add j = ⟨b, o + j, none⟩ := by unfold Addr.add; split <;> simp_all
theorem CellAt.own {M : Mem} {L : Own} {b i : Nat} {c : List Value} {T : TypeId} {fr : Nat × Nat} {v : Value} (hh : Has L b (.cells c.toArray T fr)) (hg : GetAt c i v) : CellAt M L ⟨b, i, none⟩ v := fun w hw =>
  cell_of (hw.own _ hh.mem) (by simpa using hg.get)
theorem CellAt.ownAt {M : Mem} {L : Own} {b i : Nat} {c : List Value} {T : TypeId} {fr : Nat × Nat} {v : Value} (hh : Has L b (.cells c.toArray T fr)) (hg : c[i]? = some v) : CellAt M L ⟨b, i, none⟩ v := fun w hw =>
  cell_of (hw.own _ hh.mem) (by simpa using hg)
theorem CellAt.ro {M : Mem} {L : Own} {b i : Nat} {c : Array Value} {T : TypeId} {fr : Nat × Nat} {v : Value} (hM : M b = some (.cells c T fr)) (hg : c[i]? = some v) : CellAt M L ⟨b, i, none⟩ v := fun w hw =>
  cell_of (hw.ro _ _ hM) hg
theorem CellAt.at_ {M : Mem} {L : Own} {b o o' : Nat} {v : Value} (h : CellAt M L ⟨b, o', none⟩ v) (e : o' = o) : CellAt M L ⟨b, o, none⟩ v := e ▸ h
theorem CellsAt.at_ {M : Mem} {L : Own} {b o o' : Nat} {v : List Value} (h : CellsAt M L ⟨b, o', none⟩ v) (e : o' = o) : CellsAt M L ⟨b, o, none⟩ v := e ▸ h
theorem CellsAt.own {M : Mem} {L : Own} {b i n : Nat} {c vs : List Value} {T : TypeId} {fr : Nat × Nat} (hh : Has L b (.cells c.toArray T fr)) (hg : CutAt c i n vs) : CellsAt M L ⟨b, i, none⟩ vs := fun w hw j v hj => by
  rw [add_plain]; exact cell_of (hw.own _ hh.mem) (by simpa using hg.cut j v hj)
theorem CellsAt.ro {M : Mem} {L : Own} {b i n : Nat} {c vs : List Value} {T : TypeId} {fr : Nat × Nat} (hM : M b = some (.cells c.toArray T fr)) (hg : CutAt c i n vs) : CellsAt M L ⟨b, i, none⟩ vs := fun w hw j v hj => by
  rw [add_plain]; exact cell_of (hw.ro _ _ hM) (by simpa using hg.cut j v hj)

/-- Just so many cells. -/
def CellsN (M : Mem) (L : Own) (ad : Addr) (n : Nat) (vs : List Value) : Prop := CellsAt M L ad vs ∧ vs.length = n
theorem CellsN.own {M : Mem} {L : Own} {b i n : Nat} {c vs : List Value} {T : TypeId} {fr : Nat × Nat} (hh : Has L b (.cells c.toArray T fr)) (hg : CutAt c i n vs) : CellsN M L ⟨b, i, none⟩ n vs := ⟨.own hh hg, hg.len⟩
theorem CellsN.of {M : Mem} {L : Own} {ad : Addr} {n : Nat} {vs : List Value} (h : CellsAt M L ad vs) (hl : vs.length = n) : CellsN M L ad n vs := ⟨h, hl⟩
section
variable {P : Program} {ty : TypeId} {F : Fr} {M : Mem} {L : Own}
/-! ### Moves, numbers, tests -/
theorem y_move {x : Operand} {v : Value} (hx : ev F x = some v) : Yld P (.move x) ty F M L v := fun w ρ hs hρ => by simp [execOp, hρ _ _ hx]
theorem y_assign {x : Operand} {v : Value} (hx : ev F x = some v) : Yld P (.assign x) ty F M L v := fun w ρ hs hρ => by simp [execOp, hρ _ _ hx]
theorem y_pickT {c a b : Operand} {v : Value} (hc : ev F c = some (.bool true)) (hx : ev F a = some v) : Yld P (.pick c a b) ty F M L v := fun w ρ hs hρ => by
  simp [execOp, hρ _ _ hc, hρ _ _ hx, asBool]
theorem y_pickF {c a b : Operand} {v : Value} (hc : ev F c = some (.bool false)) (hx : ev F b = some v) : Yld P (.pick c a b) ty F M L v := fun w ρ hs hρ => by
  simp [execOp, hρ _ _ hc, hρ _ _ hx, asBool]
theorem eqGuard_int {op : BinOp} {t : TypeId} {x y : Operand} {k k' : IntKind} {a b : Int} (w : World) : (eqGuard op t x y (.int k a) (.int k' b)).run P w = .ok () w := by
  unfold eqGuard; cases op <;> simp
theorem eqGuard_bool {op : BinOp} {t : TypeId} {x y : Operand} {a b : Bool} (w : World) : (eqGuard op t x y (.bool a) (.bool b)).run P w = .ok () w := by
  unfold eqGuard; cases op <;> simp
theorem eqGuard_string {op : BinOp} {t : TypeId} {x y : Operand} {a b : ByteArray} (w : World) : (eqGuard op t x y (.string a) (.string b)).run P w = .ok () w := by
  unfold eqGuard; cases op <;> simp
theorem eqGuard_slice {op : BinOp} {t : TypeId} {x y : Operand} {a b : Option Addr} {l c l' c' : Nat} (w : World) : (eqGuard op t x y (.slice a l c) (.slice b l' c')).run P w = .ok () w := by
  unfold eqGuard; cases op <;> simp
theorem eqGuard_ptr {op : BinOp} {t : TypeId} {x y : Operand} {a b : Option Addr} (w : World) : (eqGuard op t x y (.pointer a) (.pointer b)).run P w = .ok () w := by
  unfold eqGuard; cases op <;> simp
section
variable {x y : Operand} {t t' : TypeId} {k : IntKind} {a b : Int}
theorem y_bin (op : BinOp) {v : Value} (hx : ev F x = some (.int k a)) (hy : ev F y = some (.int k b)) (hr : ∀ w, (binOp op t (.int k a) (.int k b)).run P w = .ok v w) : Yld P (.binOp op t x y t') ty F M L v := fun w ρ hs hρ => by
  simp only [execOp, hρ _ _ hx, hρ _ _ hy, Sem.run_bind, eqGuard_int, Result.andThen_ok, hr, Sem.run_pure]
theorem y_add (hx : ev F x = some (.int k a)) (hy : ev F y = some (.int k b)) : Yld P (.binOp .add t x y t') ty F M L (.int k (k.wrap (a + b))) := y_bin .add hx hy fun w => by simp [binOp, Op.intArith]
theorem y_sub (hx : ev F x = some (.int k a)) (hy : ev F y = some (.int k b)) : Yld P (.binOp .sub t x y t') ty F M L (.int k (k.wrap (a - b))) := y_bin .sub hx hy fun w => by simp [binOp, Op.intArith]
theorem y_mul (hx : ev F x = some (.int k a)) (hy : ev F y = some (.int k b)) : Yld P (.binOp .mul t x y t') ty F M L (.int k (k.wrap (a * b))) := y_bin .mul hx hy fun w => by simp [binOp, Op.intArith]
theorem y_addI (hx : ev F x = some (.int .i64 a)) (hy : ev F y = some (.int .i64 b)) (h : -9223372036854775808 ≤ a + b ∧ a + b ≤ 9223372036854775807) : Yld P (.binOp .add t x y t') ty F M L (.int .i64 (a + b)) := by
  have := y_add (P := P) (M := M) (L := L) (t := t) (t' := t') (ty := ty) hx hy; rwa [IntWalk.i64_in _ h] at this
theorem y_subI (hx : ev F x = some (.int .i64 a)) (hy : ev F y = some (.int .i64 b)) (h : -9223372036854775808 ≤ a - b ∧ a - b ≤ 9223372036854775807) : Yld P (.binOp .sub t x y t') ty F M L (.int .i64 (a - b)) := by
  have := y_sub (P := P) (M := M) (L := L) (t := t) (t' := t') (ty := ty) hx hy; rwa [IntWalk.i64_in _ h] at this
theorem y_mulI (hx : ev F x = some (.int .i64 a)) (hy : ev F y = some (.int .i64 b)) (h : -9223372036854775808 ≤ a * b ∧ a * b ≤ 9223372036854775807) : Yld P (.binOp .mul t x y t') ty F M L (.int .i64 (a * b)) := by
  have := y_mul (P := P) (M := M) (L := L) (t := t) (t' := t') (ty := ty) hx hy; rwa [IntWalk.i64_in _ h] at this
theorem y_quo (hx : ev F x = some (.int k a)) (hy : ev F y = some (.int k b)) (hb : b ≠ 0) : Yld P (.binOp .quo t x y t') ty F M L (.int k (k.wrap (a.tdiv b))) := y_bin .quo hx hy fun w => by simp [binOp, Op.intDiv, hb]
theorem y_rem (hx : ev F x = some (.int k a)) (hy : ev F y = some (.int k b)) (hb : b ≠ 0) : Yld P (.binOp .rem t x y t') ty F M L (.int k (a.tmod b)) := y_bin .rem hx hy fun w => by simp [binOp, Op.intDiv, hb]
theorem y_lss (hx : ev F x = some (.int k a)) (hy : ev F y = some (.int k b)) : Yld P (.binOp .lss t x y t') ty F M L (.bool (decide (a < b))) := y_bin .lss hx hy fun w => by simp [binOp, Op.intCmp]
theorem y_leq (hx : ev F x = some (.int k a)) (hy : ev F y = some (.int k b)) : Yld P (.binOp .leq t x y t') ty F M L (.bool (decide (a ≤ b))) := y_bin .leq hx hy fun w => by simp [binOp, Op.intCmp]
theorem y_gtr (hx : ev F x = some (.int k a)) (hy : ev F y = some (.int k b)) : Yld P (.binOp .gtr t x y t') ty F M L (.bool (decide (a > b))) := y_bin .gtr hx hy fun w => by simp [binOp, Op.intCmp]
theorem y_geq (hx : ev F x = some (.int k a)) (hy : ev F y = some (.int k b)) : Yld P (.binOp .geq t x y t') ty F M L (.bool (decide (a ≥ b))) := y_bin .geq hx hy fun w => by simp [binOp, Op.intCmp]
theorem y_eql (hx : ev F x = some (.int k a)) (hy : ev F y = some (.int k b)) : Yld P (.binOp .eql t x y t') ty F M L (.bool (decide (a = b))) := y_bin .eql hx hy fun w => by
  simp [binOp, Op.intCmp]; rfl
theorem y_neq (hx : ev F x = some (.int k a)) (hy : ev F y = some (.int k b)) : Yld P (.binOp .neq t x y t') ty F M L (.bool (decide (a ≠ b))) := y_bin .neq hx hy fun w => by
  simp only [binOp, Op.intCmp, ne_eq, not_true_eq_false, if_false, Sem.run_pure]; congr 2; by_cases h : a = b <;> simp [h]
theorem y_and (hx : ev F x = some (.int k a)) (hy : ev F y = some (.int k b)) : Yld P (.binOp .and t x y t') ty F M L (.int k (k.wrap (BitVec.ofInt k.bits a &&& BitVec.ofInt k.bits b).toNat)) := y_bin .and hx hy fun w => by simp [binOp, Op.intBits]
theorem y_or (hx : ev F x = some (.int k a)) (hy : ev F y = some (.int k b)) : Yld P (.binOp .or t x y t') ty F M L (.int k (k.wrap (BitVec.ofInt k.bits a ||| BitVec.ofInt k.bits b).toNat)) := y_bin .or hx hy fun w => by simp [binOp, Op.intBits]
theorem y_xor (hx : ev F x = some (.int k a)) (hy : ev F y = some (.int k b)) : Yld P (.binOp .xor t x y t') ty F M L (.int k (k.wrap (BitVec.ofInt k.bits a ^^^ BitVec.ofInt k.bits b).toNat)) := y_bin .xor hx hy fun w => by simp [binOp, Op.intBits]
theorem y_shl {k' : IntKind} (hx : ev F x = some (.int k a)) (hy : ev F y = some (.int k' b)) (hb : 0 ≤ b) : Yld P (.binOp .shl t x y t') ty F M L (.int k (k.wrap (a * 2 ^ (min b.toNat k.bits)))) := fun w ρ hs hρ => by
  have : ¬ b < 0 := by omega
  simp only [execOp, hρ _ _ hx, hρ _ _ hy, Sem.run_bind, eqGuard_int, Result.andThen_ok, binOp, Op.shift, if_neg this, Sem.run_pure]
theorem y_shr {k' : IntKind} (hx : ev F x = some (.int k a)) (hy : ev F y = some (.int k' b)) (hb : 0 ≤ b) : Yld P (.binOp .shr t x y t') ty F M L (.int k (a.fdiv (2 ^ (min b.toNat k.bits)))) := fun w ρ hs hρ => by
  have : ¬ b < 0 := by omega
  simp only [execOp, hρ _ _ hx, hρ _ _ hy, Sem.run_bind, eqGuard_int, Result.andThen_ok, binOp, Op.shift, if_neg this, Sem.run_pure]
theorem y_not {p : Bool} (hx : ev F x = some (.bool p)) : Yld P (.unOp .not t x) ty F M L (.bool (!p)) := fun w ρ hs hρ => by simp [execOp, hρ _ _ hx, Op.unary]
theorem y_notd {p : Prop} [Decidable p] (hx : ev F x = some (.bool (decide p))) : Yld P (.unOp .not t x) ty F M L (.bool (decide (¬ p))) := fun w ρ hs hρ => by simp [execOp, hρ _ _ hx, Op.unary]
theorem y_neg (hx : ev F x = some (.int k a)) : Yld P (.unOp .neg t x) ty F M L (.int k (k.wrap (0 - a))) := fun w ρ hs hρ => by simp [execOp, hρ _ _ hx, Op.unary, Op.intArith]
theorem y_com (hx : ev F x = some (.int k a)) : Yld P (.unOp .xor t x) ty F M L (.int k (k.wrap (BitVec.ofInt k.bits (if k.signed then -1 else k.max) ^^^ BitVec.ofInt k.bits a).toNat)) := fun w ρ hs hρ => by
  simp [execOp, hρ _ _ hx, Op.unary, Op.intBits]
/-- A conversion between kinds of whole numbers. -/
theorem y_conv {z z' : Value} {s s' b0 b' : Nat} {d0 : TypeDesc} {kd : IntKind} [ti : TI P t d0 z s b0] [ti' : TI P t' (.int kd) z' s' b'] (hx : ev F x = some (.int k a)) : Yld P (.convert t t' x) ty F M L (.int kd (kd.wrap a)) := fun w ρ hs hρ => by
  simp [execOp, hρ _ _ hx, convert, run_underlying ti.und, run_underlying ti'.und, Conv.intToInt]
theorem run_eq_slice (w : World) (d : Nat) (t e : TypeId) (A : Option Addr) (l c l' c' : Nat) (h : P.underlying t = some (.slice e)) : (Op.equalIn (d + 1) t (.slice A l c) (.slice none l' c')).run P w = .ok A.isNone w := by
  cases A <;> simp [Op.equalIn, run_underlying h]
theorem run_eq_ptr (w : World) (d : Nat) (t e : TypeId) (A : Option Addr) (h : P.underlying t = some (.pointer e)) : (Op.equalIn (d + 1) t (.pointer A) (.pointer none)).run P w = .ok A.isNone w := by
  cases A <;> simp [Op.equalIn, run_underlying h]
theorem y_eqNilSlice {A : Option Addr} {l c l' c' : Nat} {e : TypeId} {z : Value} {s b0 : Nat} [ti : TI P t (.slice e) z s b0] (hx : ev F x = some (.slice A l c)) (hy : ev F y = some (.slice none l' c')) : Yld P (.binOp .eql t x y t') ty F M L (.bool A.isNone) := fun w ρ hs hρ => by
  have hr : (binOp .eql t (.slice A l c) (.slice none l' c')).run P w = .ok (.bool A.isNone) w := by
    simp only [binOp]; simp [Op.equal, Op.maxDepth, run_eq_slice w 9999 t e A l c l' c' ti.und]
  simp only [execOp, hρ _ _ hx, hρ _ _ hy, Sem.run_bind, eqGuard_slice, Result.andThen_ok, hr, Sem.run_pure]
theorem y_neNilSlice {A : Option Addr} {l c l' c' : Nat} {e : TypeId} {z : Value} {s b0 : Nat} [ti : TI P t (.slice e) z s b0] (hx : ev F x = some (.slice A l c)) (hy : ev F y = some (.slice none l' c')) : Yld P (.binOp .neq t x y t') ty F M L (.bool (!A.isNone)) := fun w ρ hs hρ => by
  have hr : (binOp .neq t (.slice A l c) (.slice none l' c')).run P w = .ok (.bool (!A.isNone)) w := by
    simp only [binOp]; simp [Op.equal, Op.maxDepth, run_eq_slice w 9999 t e A l c l' c' ti.und]
  simp only [execOp, hρ _ _ hx, hρ _ _ hy, Sem.run_bind, eqGuard_slice, Result.andThen_ok, hr, Sem.run_pure]
theorem y_eqNilPtr {A : Option Addr} {e : TypeId} {z : Value} {s b0 : Nat} [ti : TI P t (.pointer e) z s b0] (hx : ev F x = some (.pointer A)) (hy : ev F y = some (.pointer none)) : Yld P (.binOp .eql t x y t') ty F M L (.bool A.isNone) := fun w ρ hs hρ => by
  have hr : (binOp .eql t (.pointer A) (.pointer none)).run P w = .ok (.bool A.isNone) w := by
    simp only [binOp]; simp [Op.equal, Op.maxDepth, run_eq_ptr w 9999 t e A ti.und]
  simp only [execOp, hρ _ _ hx, hρ _ _ hy, Sem.run_bind, eqGuard_ptr, Result.andThen_ok, hr, Sem.run_pure]
theorem y_neNilPtr {A : Option Addr} {e : TypeId} {z : Value} {s b0 : Nat} [ti : TI P t (.pointer e) z s b0] (hx : ev F x = some (.pointer A)) (hy : ev F y = some (.pointer none)) : Yld P (.binOp .neq t x y t') ty F M L (.bool (!A.isNone)) := fun w ρ hs hρ => by
  have hr : (binOp .neq t (.pointer A) (.pointer none)).run P w = .ok (.bool (!A.isNone)) w := by
    simp only [binOp]; simp [Op.equal, Op.maxDepth, run_eq_ptr w 9999 t e A ti.und]
  simp only [execOp, hρ _ _ hx, hρ _ _ hy, Sem.run_bind, eqGuard_ptr, Result.andThen_ok, hr, Sem.run_pure]
theorem y_min (hx : ev F x = some (.int k a)) (hy : ev F y = some (.int k b)) {ts : Array TypeId} : Yld P (.call ⟨.builtin .min, #[x, y], ts⟩) ty F M L (.int k (if b < a then b else a)) := fun w ρ hs hρ => by
  simp [execOp, resolve, invoke, builtin, Builtin.min_, Builtin.min2, hρ _ _ hx, hρ _ _ hy]
end
/-! ### Addresses, parts -/
theorem y_nilCheck {x : Operand} {ad : Addr} (hx : ev F x = some (.pointer (some ad))) : Yld P (.nilCheck x) ty F M L (.pointer (some ad)) := fun w ρ hs hρ => by simp [execOp, hρ _ _ hx]
theorem run_isAgg {t : TypeId} {d : TypeDesc} (h : P.underlying t = some d) (w : World) : (isAgg t).run P w = .ok (aggD d) w := by
  unfold isAgg
  cases d <;> simp [run_underlying h, aggD]
theorem run_size {t : TypeId} {i : TypeInfo} (h : P.info? t = some i) (w : World) : (sizeOf t).run P w = .ok i.size w := by simp [sizeOf, typeInfo, h]
theorem y_fieldAddr {x : Operand} {i : Nat} {t : TypeId} {b o o' off s : Nat} {a : Bool} [fo : FO P t i off s a] (hx : ev F x = some (.pointer (some ⟨b, o, none⟩))) [ha : AddN o off o'] :
    Yld P (.fieldAddr t x i) ty F M L (.pointer (some ⟨b, o', none⟩)) := fun w ρ hs hρ => by
  obtain rfl := ha.eq
  obtain ⟨fs, f, d', z', b', hu, hf, tf, rfl, _, hs'⟩ := fo.fld
  obtain ⟨j, hj, _, hjs, _⟩ := tf.parts
  subst hjs
  simp [execOp, hρ _ _ hx, Instr.fieldAt, run_underlying hu, hf, Instr.sureAddr, fieldPlace, run_size hj, hs', add_plain]
theorem y_extract {x : Operand} {vs : List Value} {v : Value} {i : Nat} (hx : ev F x = some (.tuple vs.toArray)) [hv : GetAt vs i v] : Yld P (.extract x i) ty F M L v := fun w ρ hs hρ => by
  simp [execOp, hρ _ _ hx, Instr.extract, hv.get]
theorem y_fieldE {x : Operand} {i : Nat} {t : TypeId} {off s : Nat} [fo : FO P t i off s false] {cs : Array Value} (hx : ev F x = some (.agg cs)) {v : Value} (hv : cs[off]? = some v) :
    Yld P (.field t x i) ty F M L v := fun w ρ hs hρ => by
  obtain ⟨fs, f, d', z', b', hu, hf, tf, rfl, ha, hs'⟩ := fo.fld
  simp [execOp, hρ _ _ hx, Instr.field, run_underlying hu, hf, part, run_isAgg tf.und, ha, asAgg, hv]
theorem y_field {x : Operand} {i : Nat} {t : TypeId} {off s : Nat} [fo : FO P t i off s false] {cs : List Value} (hx : ev F x = some (.agg cs.toArray)) {v : Value} [hv : GetAt cs off v] :
    Yld P (.field t x i) ty F M L v := y_fieldE hx (by simpa using hv.get)
theorem y_fieldAggE {x : Operand} {i : Nat} {t : TypeId} {off s : Nat} [fo : FO P t i off s true] {cs : Array Value} (hx : ev F x = some (.agg cs)) {vs : Array Value} (hv : cs.extract off (off + s) = vs) :
    Yld P (.field t x i) ty F M L (.agg vs) := fun w ρ hs hρ => by
  obtain ⟨fs, f, d', z', b', hu, hf, tf, rfl, ha, hs'⟩ := fo.fld
  obtain ⟨j, hj, _, hjs, _⟩ := tf.parts
  subst hjs
  simp [execOp, hρ _ _ hx, Instr.field, run_underlying hu, hf, part, run_isAgg tf.und, ha, asAgg, run_size hj, hv]
theorem y_fieldAgg {x : Operand} {i : Nat} {t : TypeId} {off s : Nat} [fo : FO P t i off s true] {cs vs : List Value} (hx : ev F x = some (.agg cs.toArray)) [hv : CutAt cs off s vs] :
    Yld P (.field t x i) ty F M L (.agg vs.toArray) := y_fieldAggE hx (by
  have hl := hv.len
  have hc := hv.cut
  apply Array.ext'
  simp only [Array.toList_extract, List.extract_eq_take_drop, Nat.add_sub_cancel_left]
  apply List.ext_getElem?
  intro j
  rw [List.getElem?_take]
  split
  · rename_i hj
    rw [List.getElem?_drop, List.getElem?_eq_getElem (show j < vs.length by omega)]
    exact hc j _ (List.getElem?_eq_getElem (by omega))
  · rw [List.getElem?_eq_none (by omega)])
theorem y_load {x : Operand} {t : TypeId} {d' : TypeDesc} {z : Value} {s b0 : Nat} [ti : TI P t d' z s b0] (ha : aggD d' = false) {ad : Addr} {v : Value} (hx : ev F x = some (.pointer (some ad))) (hc : CellAt M L ad v) :
    Yld P (.load t x) ty F M L v := fun w ρ hs hρ => by
  simp [execOp, hρ _ _ hx, Instr.loadAt, Instr.sureAddr, loadVar, run_isAgg ti.und, ha, hc w hs]
theorem y_loadAgg {x : Operand} {t : TypeId} {d' : TypeDesc} {z : Value} {s b0 : Nat} [ti : TI P t d' z s b0] (ha : aggD d' = true) {ad : Addr} {vs : List Value} (hx : ev F x = some (.pointer (some ad))) (hc : CellsN M L ad s vs) :
    Yld P (.load t x) ty F M L (.agg vs.toArray) := fun w ρ hs hρ => by
  obtain ⟨hc, hl⟩ := hc
  obtain ⟨j, hj, _, hjs, _⟩ := ti.parts
  subst hjs
  have := run_loadCells_list (P := P) (w := w) ad vs (hc w hs)
  rw [hl] at this
  simp [execOp, hρ _ _ hx, Instr.loadAt, Instr.sureAddr, loadVar, run_isAgg ti.und, ha, run_size hj, this]
/-- An element's address, of a slice. -/
theorem y_indexAddr {x ix : Operand} {t e : TypeId} {z z' : Value} {s b0 s' b' : Nat} {d' : TypeDesc} [ti : TI P t (.slice e) z s b0] [te : TI P e d' z' s' b'] {b o l c : Nat} {k : IntKind} {i : Int}
    (hx : ev F x = some (.slice (some ⟨b, o, none⟩) l c)) (hi : ev F ix = some (.int k i)) (h : 0 ≤ i ∧ i < l) :
    Yld P (.indexAddr t x ix) ty F M L (.pointer (some ⟨b, o + i.toNat * s', none⟩)) := fun w ρ hs hρ => by
  obtain ⟨j, hj, _, hjs, _⟩ := te.parts
  subst hjs
  simp [execOp, hρ _ _ hx, hρ _ _ hi, Instr.indexAt, asIntOf, run_underlying ti.und, h, run_size hj, add_plain]
/-- An element's address, of an array. -/
theorem y_indexArr {x ix : Operand} {t e : TypeId} {z z' : Value} {s b0 s' b' m : Nat} {d' : TypeDesc} [ti : TI P t (.array m e) z s b0] [te : TI P e d' z' s' b'] {b o : Nat} {k : IntKind} {i : Int}
    (hx : ev F x = some (.pointer (some ⟨b, o, none⟩))) (hi : ev F ix = some (.int k i)) (h : 0 ≤ i ∧ i < m) :
    Yld P (.indexAddr t x ix) ty F M L (.pointer (some ⟨b, o + i.toNat * s', none⟩)) := fun w ρ hs hρ => by
  obtain ⟨j, hj, _, hjs, _⟩ := te.parts
  subst hjs
  simp [execOp, hρ _ _ hx, hρ _ _ hi, Instr.indexAt, asIntOf, run_underlying ti.und, h, Instr.sureAddr, run_size hj, add_plain]
/-- An element of an array's value. -/
theorem y_index {x ix : Operand} {t e : TypeId} {z z' : Value} {s b0 s' b' m : Nat} {d' : TypeDesc} [ti : TI P t (.array m e) z s b0] [te : TI P e d' z' s' b'] {cs : Array Value} {k : IntKind} {i : Int} {v : Value}
    (hx : ev F x = some (.agg cs)) (hi : ev F ix = some (.int k i)) (h : 0 ≤ i ∧ i < m) (ha : aggD d' = false) (hv : cs[i.toNat * s']? = some v) :
    Yld P (.index t x ix) ty F M L v := fun w ρ hs hρ => by
  obtain ⟨j, hj, _, hjs, _⟩ := te.parts
  subst hjs
  simp [execOp, hρ _ _ hx, hρ _ _ hi, Instr.index, asIntOf, run_underlying ti.und, h, part, run_isAgg te.und, ha, run_size hj, hv]
theorem y_indexAgg {x ix : Operand} {t e : TypeId} {z z' : Value} {s b0 s' b' m : Nat} {d' : TypeDesc} [ti : TI P t (.array m e) z s b0] [te : TI P e d' z' s' b'] {cs vs : Array Value} {k : IntKind} {i : Int}
    (hx : ev F x = some (.agg cs)) (hi : ev F ix = some (.int k i)) (h : 0 ≤ i ∧ i < m) (ha : aggD d' = true) (hv : cs.extract (i.toNat * s') (i.toNat * s' + s') = vs) :
    Yld P (.index t x ix) ty F M L (.agg vs) := fun w ρ hs hρ => by
  obtain ⟨j, hj, _, hjs, _⟩ := te.parts
  subst hjs
  simp [execOp, hρ _ _ hx, hρ _ _ hi, Instr.index, asIntOf, run_underlying ti.und, h, part, run_isAgg te.und, ha, run_size hj, hv]
theorem y_indexStr {x ix : Operand} {t : TypeId} {z : Value} {s0 b0 : Nat} [ti : TI P t .string z s0 b0] {s : ByteArray} {k : IntKind} {i : Int} {c : UInt8}
    (hx : ev F x = some (.string s)) (hi : ev F ix = some (.int k i)) (h : 0 ≤ i) (hv : s[i.toNat]? = some c) :
    Yld P (.index t x ix) ty F M L (.int .u8 c.toNat) := fun w ρ hs hρ => by
  simp [execOp, hρ _ _ hx, hρ _ _ hi, Instr.index, asIntOf, run_underlying ti.und, h, hv]
theorem y_len {x : Operand} {t : TypeId} {e : TypeId} {z : Value} {s b0 : Nat} [ti : TI P t (.slice e) z s b0] {A : Option Addr} {l c : Nat} (hx : ev F x = some (.slice A l c)) :
    Yld P (.call ⟨.builtin .len, #[x], #[t]⟩) ty F M L (.int .i64 l) := fun w ρ hs hρ => by
  simp [execOp, resolve, invoke, builtin, Builtin.len_, hρ _ _ hx, run_underlying ti.und, goInt]
theorem y_lenStr {x : Operand} {t : TypeId} {z : Value} {s b0 : Nat} [ti : TI P t .string z s b0] {v : ByteArray} (hx : ev F x = some (.string v)) :
    Yld P (.call ⟨.builtin .len, #[x], #[t]⟩) ty F M L (.int .i64 v.size) := fun w ρ hs hρ => by
  simp [execOp, resolve, invoke, builtin, Builtin.len_, hρ _ _ hx, run_underlying ti.und, goInt]
theorem y_lenArr {x : Operand} {t e m : TypeId} {z : Value} {s b0 : Nat} [ti : TI P t (.array m e) z s b0] {v : Value} (hx : ev F x = some v) :
    Yld P (.call ⟨.builtin .len, #[x], #[t]⟩) ty F M L (.int .i64 m) := fun w ρ hs hρ => by
  simp only [execOp, resolve, invoke, builtin, Builtin.len_, List.map_toArray, List.map_cons, List.map_nil, hρ _ _ hx]
  cases v <;> simp [run_underlying ti.und, goInt]
/-! ### Slices of slices, arrays and strings -/
/-- Where a slice of a slice begins. -/
def sl (A : Option Addr) (l m s : Nat) : Option Addr := if m = l then A else A.map (·.add (l * s))
theorem run_sliceBound {k : IntKind} {i : Int} {y : Nat} {code : BoundsCode} (h : 0 ≤ i ∧ i ≤ y) (w : World) : (Instr.sliceBound (.int k i) y code).run P w = .ok i.toNat w := by
  simp [Instr.sliceBound, asIntOf, h]
section
variable {x xl xh xm : Operand} {t e : TypeId} {z z' : Value} {s b0 s' b' len cap : Nat} {d' : TypeDesc} {A : Option Addr} {kl kh km : IntKind} {l h m : Int}
theorem y_sliceLH [ti : TI P t (.slice e) z s b0] [te : TI P e d' z' s' b'] (hx : ev F x = some (.slice A len cap)) (hl : ev F xl = some (.int kl l)) (hh : ev F xh = some (.int kh h)) (h1 : 0 ≤ l ∧ l ≤ h) (h2 : h ≤ cap) :
    Yld P (.slice t x (some xl) (some xh) none) ty F M L (.slice (sl A l.toNat cap s') (h.toNat - l.toNat) (cap - l.toNat)) := fun w ρ hs hρ => by
  obtain ⟨j, hj, _, hjs, _⟩ := te.parts
  subst hjs
  have e1 : (Instr.sliceBound (.int kh h) cap .sliceAcap).run P w = .ok h.toNat w := run_sliceBound ⟨by omega, h2⟩ w
  have e2 : (Instr.sliceBound (.int kl l) h.toNat .sliceB).run P w = .ok l.toNat w := run_sliceBound ⟨h1.1, by omega⟩ w
  simp [execOp, hρ _ _ hx, hρ _ _ hl, hρ _ _ hh, Instr.sliceAt, Instr.slice, Instr.sliceBounds, run_underlying ti.und, e1, e2, run_size hj, sl]
theorem y_sliceH [ti : TI P t (.slice e) z s b0] [te : TI P e d' z' s' b'] (hx : ev F x = some (.slice A len cap)) (hh : ev F xh = some (.int kh h)) (h1 : 0 ≤ h) (h2 : h ≤ cap) :
    Yld P (.slice t x none (some xh) none) ty F M L (.slice (sl A 0 cap s') h.toNat cap) := fun w ρ hs hρ => by
  obtain ⟨j, hj, _, hjs, _⟩ := te.parts
  subst hjs
  have e1 : (Instr.sliceBound (.int kh h) cap .sliceAcap).run P w = .ok h.toNat w := run_sliceBound ⟨by omega, h2⟩ w
  simp [execOp, hρ _ _ hx, hρ _ _ hh, Instr.sliceAt, Instr.slice, Instr.sliceBounds, run_underlying ti.und, e1, run_size hj, sl]
theorem y_sliceL [ti : TI P t (.slice e) z s b0] [te : TI P e d' z' s' b'] (hx : ev F x = some (.slice A len cap)) (hl : ev F xl = some (.int kl l)) (h1 : 0 ≤ l ∧ l ≤ len) :
    Yld P (.slice t x (some xl) none none) ty F M L (.slice (sl A l.toNat cap s') (len - l.toNat) (cap - l.toNat)) := fun w ρ hs hρ => by
  obtain ⟨j, hj, _, hjs, _⟩ := te.parts
  subst hjs
  have e2 : (Instr.sliceBound (.int kl l) len .sliceB).run P w = .ok l.toNat w := run_sliceBound h1 w
  simp [execOp, hρ _ _ hx, hρ _ _ hl, Instr.sliceAt, Instr.slice, Instr.sliceBounds, run_underlying ti.und, e2, run_size hj, sl]
theorem y_slice3 [ti : TI P t (.slice e) z s b0] [te : TI P e d' z' s' b'] (hx : ev F x = some (.slice A len cap)) (hh : ev F xh = some (.int kh h)) (hm : ev F xm = some (.int km m)) (h1 : 0 ≤ h ∧ h ≤ m) (h2 : m ≤ cap) :
    Yld P (.slice t x none (some xh) (some xm)) ty F M L (.slice (sl A 0 m.toNat s') h.toNat m.toNat) := fun w ρ hs hρ => by
  obtain ⟨j, hj, _, hjs, _⟩ := te.parts
  subst hjs
  have e0 : (Instr.sliceBound (.int km m) cap .slice3Acap).run P w = .ok m.toNat w := run_sliceBound ⟨by omega, h2⟩ w
  have e1 : (Instr.sliceBound (.int kh h) m.toNat .slice3B).run P w = .ok h.toNat w := run_sliceBound ⟨by omega, by omega⟩ w
  simp [execOp, hρ _ _ hx, hρ _ _ hh, hρ _ _ hm, Instr.sliceAt, Instr.slice, Instr.sliceBounds, run_underlying ti.und, e0, e1, run_size hj, sl]
theorem y_slice3L [ti : TI P t (.slice e) z s b0] [te : TI P e d' z' s' b'] (hx : ev F x = some (.slice A len cap)) (hl : ev F xl = some (.int kl l)) (hh : ev F xh = some (.int kh h)) (hm : ev F xm = some (.int km m)) (h1 : 0 ≤ l ∧ l ≤ h ∧ h ≤ m) (h2 : m ≤ cap) :
    Yld P (.slice t x (some xl) (some xh) (some xm)) ty F M L (.slice (sl A l.toNat m.toNat s') (h.toNat - l.toNat) (m.toNat - l.toNat)) := fun w ρ hs hρ => by
  obtain ⟨j, hj, _, hjs, _⟩ := te.parts
  subst hjs
  have e0 : (Instr.sliceBound (.int km m) cap .slice3Acap).run P w = .ok m.toNat w := run_sliceBound ⟨by omega, h2⟩ w
  have e1 : (Instr.sliceBound (.int kh h) m.toNat .slice3B).run P w = .ok h.toNat w := run_sliceBound ⟨by omega, by omega⟩ w
  have e2 : (Instr.sliceBound (.int kl l) h.toNat .slice3C).run P w = .ok l.toNat w := run_sliceBound ⟨by omega, by omega⟩ w
  simp [execOp, hρ _ _ hx, hρ _ _ hl, hρ _ _ hh, hρ _ _ hm, Instr.sliceAt, Instr.slice, Instr.sliceBounds, run_underlying ti.und, e0, e1, e2, run_size hj, sl]
/-- A slice of an array that is a variable. -/
theorem y_sliceArr {n b o : Nat} [ti : TI P t (.array n e) z s b0] [te : TI P e d' z' s' b'] (hx : ev F x = some (.pointer (some ⟨b, o, none⟩))) :
    Yld P (.slice t x none none none) ty F M L (.slice (some ⟨b, o, none⟩) n n) := fun w ρ hs hρ => by
  obtain ⟨j, hj, _, hjs, _⟩ := te.parts
  subst hjs
  simp [execOp, hρ _ _ hx, Instr.sliceAt, Instr.sliceBounds, run_underlying ti.und, run_size hj, Instr.sureAddr, Addr.add]
theorem y_sliceArrLH {n b o : Nat} [ti : TI P t (.array n e) z s b0] [te : TI P e d' z' s' b'] (hx : ev F x = some (.pointer (some ⟨b, o, none⟩))) (hl : ev F xl = some (.int kl l)) (hh : ev F xh = some (.int kh h)) (h1 : 0 ≤ l ∧ l ≤ h) (h2 : h ≤ n) :
    Yld P (.slice t x (some xl) (some xh) none) ty F M L (.slice (sl (some ⟨b, o, none⟩) l.toNat n s') (h.toNat - l.toNat) (n - l.toNat)) := fun w ρ hs hρ => by
  obtain ⟨j, hj, _, hjs, _⟩ := te.parts
  subst hjs
  have e1 : (Instr.sliceBound (.int kh h) n .sliceAlen).run P w = .ok h.toNat w := run_sliceBound ⟨by omega, h2⟩ w
  have e2 : (Instr.sliceBound (.int kl l) h.toNat .sliceB).run P w = .ok l.toNat w := run_sliceBound ⟨h1.1, by omega⟩ w
  simp [execOp, hρ _ _ hx, hρ _ _ hl, hρ _ _ hh, Instr.sliceAt, Instr.sliceBounds, run_underlying ti.und, e1, e2, run_size hj, Instr.sureAddr, sl]
  by_cases hm : n = l.toNat <;> simp [hm]
theorem y_sliceStrL [ti : TI P t .string z s b0] {v : ByteArray} (hx : ev F x = some (.string v)) (hl : ev F xl = some (.int kl l)) (h1 : 0 ≤ l ∧ l ≤ v.size) :
    Yld P (.slice t x (some xl) none none) ty F M L (.string (v.extract l.toNat v.size)) := fun w ρ hs hρ => by
  have e2 : (Instr.sliceBound (.int kl l) v.size .sliceB).run P w = .ok l.toNat w := run_sliceBound h1 w
  simp [execOp, hρ _ _ hx, hρ _ _ hl, Instr.sliceAt, Instr.slice, Instr.sliceBounds, run_underlying ti.und, e2]
theorem y_sliceStrLH [ti : TI P t .string z s b0] {v : ByteArray} (hx : ev F x = some (.string v)) (hl : ev F xl = some (.int kl l)) (hh : ev F xh = some (.int kh h)) (h1 : 0 ≤ l ∧ l ≤ h) (h2 : h ≤ v.size) :
    Yld P (.slice t x (some xl) (some xh) none) ty F M L (.string (v.extract l.toNat h.toNat)) := fun w ρ hs hρ => by
  have e1 : (Instr.sliceBound (.int kh h) v.size .sliceAlen).run P w = .ok h.toNat w := run_sliceBound ⟨by omega, h2⟩ w
  have e2 : (Instr.sliceBound (.int kl l) h.toNat .sliceB).run P w = .ok l.toNat w := run_sliceBound ⟨h1.1, by omega⟩ w
  simp [execOp, hρ _ _ hx, hρ _ _ hl, hρ _ _ hh, Instr.sliceAt, Instr.slice, Instr.sliceBounds, run_underlying ti.und, e1, e2]
end
/-! ### Values that are built -/
def evps (F : Fr) : List (Nat × Operand) → Option (List (Nat × Value))
  | [] => some []
  | (i, x) :: xs => match ev F x, evps F xs with
    | some v, some vs => some ((i, v) :: vs)
    | _, _ => none
theorem evps_map {ρ : Operand → Value} (h : ∀ x u, ev F x = some u → ρ x = u) : ∀ (xs : List (Nat × Operand)) (vs : List (Nat × Value)), evps F xs = some vs → xs.map (fun p => (p.1, ρ p.2)) = vs
  | [], vs, hv => by cases hv; rfl
  | (i, x) :: xs, vs, hv => by
    simp only [evps] at hv
    cases h1 : ev F x with
    | none => rw [h1] at hv; cases hv
    | some v =>
      cases h2 : evps F xs with
      | none => rw [h1, h2] at hv; cases hv
      | some us =>
        rw [h1, h2] at hv
        simp only [Option.some.injEq] at hv
        subst hv
        simp [h x v h1, evps_map h xs us h2]
/-- Where a struct's fields lie, and how many cells they have. -/
class SI (P : Program) (fs : Array Field) (places : outParam (List (Nat × Nat))) : Prop where
  run : ∀ w, (fs.mapM fun f => do pure (f.offset, ← sizeOf f.type) : Sem (Array (Nat × Nat))).run P w = .ok places.toArray w
theorem y_build {t : TypeId} {parts : List (Nat × Operand)} {fs : Array Field} {z : List Value} {s b0 : Nat} [ti : TI P t (.struct fs) (.agg z.toArray) s b0] {places : List (Nat × Nat)} [si : SI P fs places] {vs : List (Nat × Value)} (hp : evps F parts = some vs)
    {cells : List Value} [hf : FillTo (fun i => places[i]?) z vs cells] :
    Yld P (.build t parts.toArray) ty F M L (.agg cells.toArray) := fun w ρ hs hρ => by
  obtain ⟨j, hj, hz, _, _⟩ := ti.parts
  have h1 : (zeroValue t).run P w = .ok (.agg z.toArray) w := by simp [zeroValue, typeInfo, hj, hz]
  have h2 := evps_map hρ _ _ hp
  have hf : Instr.fill (places.toArray[·]?) z.toArray vs = some cells.toArray := by simpa using hf.fill
  have hpl := si.run
  simp only [execOp, Instr.build, Sem.run_bind, h1, Result.andThen_ok, run_underlying ti.und, Sem.run_pure, List.map_toArray, h2, Value.cells]
  have h3 := hpl w
  rw [h3]
  simp only [Result.andThen_ok, hf, Sem.run_pure]
theorem y_makeFunc {fn : Fn} {fs cs : List Operand} {vf vc : List Value} (hf : evs F fs = some vf) (hc : evs F cs = some vc) : Yld P (.makeFunc fn fs.toArray cs.toArray) ty F M L (.func fn vf.toArray vc.toArray) := fun w ρ hs hρ => by
  simp [execOp, Instr.makeFunc, evs_map hρ _ _ hf, evs_map hρ _ _ hc]
theorem y_makeIface {x : Operand} {t : TypeId} {d' : TypeDesc} {z : Value} {s b0 : Nat} [ti : TI P t d' z s b0] {v : Value} (hx : ev F x = some v) (hd : ∀ ms, d' ≠ .interface ms) : Yld P (.makeInterface t x) ty F M L (.iface t v) := fun w ρ hs hρ => by
  cases d' <;> first | (exact absurd rfl (hd _)) | simp [execOp, hρ _ _ hx, Instr.makeInterface, run_underlying ti.und]
end
end Go.Eng
