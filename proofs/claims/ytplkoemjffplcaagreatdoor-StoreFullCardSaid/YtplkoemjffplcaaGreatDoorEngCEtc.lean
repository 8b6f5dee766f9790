/-
The walk engine: reads, numbers, parts. The walk engine: new blocks, stores. The walk engine: rows, appends.
-/
import Derived.Test.YtplkoemjffplcaaGreatDoorEngAEtc
import Derived.Laws.Cells
import Derived.Laws.Entries
import Derived.Laws.CopyRow
import Derived.Laws.AppendOwn
import Derived.Laws.MakeOwn
import Derived.IntWalk
import Derived.ArgAppend
import Derived.OwnWalk
import Derived.Laws.OwnMore
import Derived.Laws.CopyOwn
set_option linter.all false
namespace Go.Eng

class TI (P : Program) (t : TypeId) (d : outParam TypeDesc) (z : outParam Value) (size bytes : outParam Nat) : Prop where
 und : P.underlying t = some d
 info : (P.info? t).map (fun i => (i.zero, i.size, i.bytes)) = some (some z, size, bytes)
theorem TI.parts {P : Program} {t : TypeId} {d : TypeDesc} {z : Value} {size bytes : Nat} (h : TI P t d z size bytes) :
  ∃ i, P.info? t = some i ∧ i.zero = some z ∧ i.size = size ∧ i.bytes = bytes := by
 have hi := h.info
 cases hx : P.info? t with
 | none => rw [hx] at hi; cases hi
 | some i =>
  rw [hx] at hi
  simp only [Option.map_some, Option.some.injEq, Prod.mk.injEq] at hi
  exact ⟨i, rfl, hi.1, hi.2.1, hi.2.2⟩
def aggD : TypeDesc → Bool
 | .struct _ | .array _ _ => true
 | _ => false
class AddN (a b : Nat) (c : outParam Nat) : Prop where
 eq : a + b = c
instance (priority := 1200) {b : Nat} : AddN 0 b b := ⟨by omega⟩
instance (priority := 1100) {a : Nat} : AddN a 0 a := ⟨rfl⟩
instance {a b c : Nat} [h : AddN a (b + 1) c] : AddN (a + 1) b c := ⟨by have := h.eq; omega⟩
instance (priority := 900) {a b : Nat} : AddN a b (a + b) := ⟨rfl⟩
class FO (P : Program) (t : TypeId) (i : Nat) (off s : outParam Nat) (a : outParam Bool) : Prop where
 fld : ∃ fs f d z b, P.underlying t = some (.struct fs) ∧ fs[i]? = some f ∧ TI P f.type d z s b ∧ f.offset = off ∧ aggD d = a ∧ s ≠ 0
class GetAt (c : List Value) (i : Nat) (v : outParam Value) : Prop where
 get : c[i]? = some v
instance {x : Value} {xs : List Value} : GetAt (x :: xs) 0 x := ⟨rfl⟩
instance {x v : Value} {xs : List Value} {i : Nat} [h : GetAt xs i v] : GetAt (x :: xs) (i + 1) v := ⟨by simpa using h.get⟩
class SetAt (c : List Value) (i : Nat) (v : Value) (c' : outParam (List Value)) : Prop where
 set : c.set i v = c'
 lt : i < c.length
instance {x v : Value} {xs : List Value} : SetAt (x :: xs) 0 v (v :: xs) := ⟨rfl, by simp⟩
instance {x v : Value} {xs ys : List Value} {i : Nat} [h : SetAt xs i v ys] : SetAt (x :: xs) (i + 1) v (x :: ys) := ⟨by simp [h.set], by simpa using h.lt⟩
class CutAt (c : List Value) (i n : Nat) (vs : outParam (List Value)) : Prop where
 cut : ∀ j v, vs[j]? = some v → c[i + j]? = some v
 len : vs.length = n
instance {c : List Value} {i : Nat} : CutAt c i 0 [] := ⟨fun j v h => by simp at h, rfl⟩
instance {x : Value} {xs vs : List Value} {n : Nat} [h : CutAt xs 0 n vs] : CutAt (x :: xs) 0 (n + 1) (x :: vs) :=
 ⟨fun j v hj => by
  cases j with
  | zero => simpa using hj
  | succ j => have := h.cut j v (by simpa using hj); simpa using this, by simp [h.len]⟩
instance {x : Value} {xs vs : List Value} {i n : Nat} [h : CutAt xs i n vs] : CutAt (x :: xs) (i + 1) n vs :=
 ⟨fun j v hj => by have := h.cut j v hj; rw [show i + 1 + j = (i + j) + 1 by omega, List.getElem?_cons_succ]; exact this, h.len⟩
class PutAt (c : List Value) (i : Nat) (vs : List Value) (c' : outParam (List Value)) : Prop where
 put : c' = c.take i ++ (vs ++ c.drop (i + vs.length))
 le : i + vs.length ≤ c.length
instance {c : List Value} : PutAt c 0 [] c := ⟨by simp, by simp⟩
instance {x v : Value} {xs vs ys : List Value} [h : PutAt xs 0 vs ys] : PutAt (x :: xs) 0 (v :: vs) (v :: ys) :=
 ⟨by have := h.put; simp at this; simp [this], by have := h.le; simp at this ⊢; omega⟩
instance {x : Value} {xs vs ys : List Value} {i : Nat} [h : PutAt xs i vs ys] : PutAt (x :: xs) (i + 1) vs (x :: ys) :=
 ⟨by have := h.put; rw [show i + 1 + vs.length = (i + vs.length) + 1 by omega]; simp [this], by have := h.le; simp; omega⟩

class CellsOf (v : Value) (cs : outParam (List Value)) : Prop where
 eq : v.cells = cs.toArray
instance {b : Bool} : CellsOf (.bool b) [.bool b] := ⟨rfl⟩
instance {k : IntKind} {n : Int} : CellsOf (.int k n) [.int k n] := ⟨rfl⟩
instance {s : ByteArray} : CellsOf (.string s) [.string s] := ⟨rfl⟩
instance {a : Option Addr} : CellsOf (.pointer a) [.pointer a] := ⟨rfl⟩
instance {a : Option Addr} {l c : Nat} : CellsOf (.slice a l c) [.slice a l c] := ⟨rfl⟩
instance {r : Option Nat} : CellsOf (.map r) [.map r] := ⟨rfl⟩
instance {f : Fn} {a b : Array Value} : CellsOf (.func f a b) [.func f a b] := ⟨rfl⟩
instance : CellsOf .nilFunc [.nilFunc] := ⟨rfl⟩
instance : CellsOf .nilIface [.nilIface] := ⟨rfl⟩
instance {t : TypeId} {v : Value} : CellsOf (.iface t v) [.iface t v] := ⟨rfl⟩
instance {cs : List Value} : CellsOf (.agg cs.toArray) cs := ⟨rfl⟩
class LenN (c : List Value) (n : Nat) : Prop where
 len : c.length = n
instance : LenN [] 0 := ⟨rfl⟩
instance {x : Value} {xs : List Value} {n : Nat} [h : LenN xs n] : LenN (x :: xs) (n + 1) := ⟨by simp [h.len]⟩
class MulN (a b : Nat) (c : outParam Nat) : Prop where
 eq : a * b = c
instance (priority := 1200) {a : Nat} : MulN a 1 a := ⟨by omega⟩
instance (priority := 1100) {b : Nat} : MulN 0 b 0 := ⟨by simp⟩
instance {a b c c' : Nat} [h : MulN a b c] [k : AddN c b c'] : MulN (a + 1) b c' := ⟨by rw [Nat.add_mul, Nat.one_mul, h.eq, k.eq]⟩
class PlAt (ps : List (Nat × Nat)) (i : Nat) (o n : outParam Nat) : Prop where
 get : ps[i]? = some (o, n)
instance {o n : Nat} {ps : List (Nat × Nat)} : PlAt ((o, n) :: ps) 0 o n := ⟨rfl⟩
instance {x : Nat × Nat} {o n i : Nat} {ps : List (Nat × Nat)} [h : PlAt ps i o n] : PlAt (x :: ps) (i + 1) o n := ⟨by simpa using h.get⟩
class PlaceAt (pl : Nat → Option (Nat × Nat)) (i : Nat) (o n : outParam Nat) : Prop where
 get : pl i = some (o, n)
instance {ps : List (Nat × Nat)} {i o n : Nat} [h : PlAt ps i o n] : PlaceAt (fun i => ps[i]?) i o n := ⟨h.get⟩
instance {s i o : Nat} [h : MulN i s o] : PlaceAt (fun i => some (i * s, s)) i o s := ⟨by simp [h.eq]⟩
class FillTo (pl : Nat → Option (Nat × Nat)) (z : List Value) (vs : List (Nat × Value)) (out : outParam (List Value)) : Prop where
 fill : Instr.fill pl z.toArray vs = some out.toArray
instance {pl : Nat → Option (Nat × Nat)} {z : List Value} : FillTo pl z [] z := ⟨rfl⟩
theorem foldPut : ∀ (cs : List Value) (k o : Nat) (z : List Value), o + k + cs.length ≤ z.length →
  (cs.zipIdx k).foldl (fun a (c, j) => a.setIfInBounds (o + j) c) z.toArray = (z.take (o + k) ++ (cs ++ z.drop (o + k + cs.length))).toArray
 | [], k, o, z, _ => by simp
 | c :: cs, k, o, z, h => by
  simp only [List.length_cons] at h
  rw [List.zipIdx_cons, List.foldl_cons]
  show List.foldl _ (z.toArray.setIfInBounds (o + k) c) _ = _
  rw [List.setIfInBounds_toArray, foldPut cs (k + 1) o (z.set (o + k) c) (by simp; omega)]
  have hlt : o + k < z.length := by omega
  congr 1
  rw [← Nat.add_assoc, List.take_add_one, List.take_set_of_le (Nat.le_refl _), List.drop_set_of_lt (by omega)]
  rw [List.getElem?_set_self hlt]
  simp [Nat.add_assoc, Nat.add_comm 1]
instance {pl : Nat → Option (Nat × Nat)} {z z1 out cs : List Value} {i o n : Nat} {v : Value} {vs : List (Nat × Value)} [hp : PlaceAt pl i o n] [hc : CellsOf v cs] [hl : LenN cs n] [hq : PutAt z o cs z1] [hr : FillTo pl z1 vs out] : FillTo pl z ((i, v) :: vs) out := ⟨by
 have h1 := hq.le
 have h2 : ¬ ((decide (cs.toArray.size ≠ n) || decide (o + cs.toArray.size > z.toArray.size)) = true) := by simp [hl.len]; have := hl.len; omega
 have h3 := foldPut cs 0 o z (by omega)
 simp only [Instr.fill, hp.get, hc.eq]
 rw [if_neg h2, ← Array.foldl_toList, Array.toList_zipIdx, h3, Nat.add_zero, ← hq.put]
 exact hr.fill⟩
class AppL (a b : List Value) (c : outParam (List Value)) : Prop where
 eq : a ++ b = c
instance {b : List Value} : AppL [] b b := ⟨rfl⟩
instance {x : Value} {a b c : List Value} [h : AppL a b c] : AppL (x :: a) b (x :: c) := ⟨by simp [h.eq]⟩
class RepL (m : Nat) (z : List Value) (c : outParam (List Value)) : Prop where
 eq : (List.replicate m z).flatten = c
instance {z : List Value} : RepL 0 z [] := ⟨rfl⟩
instance {m : Nat} {z c c' : List Value} [h : RepL m z c] [k : AppL z c c'] : RepL (m + 1) z c' := ⟨by rw [List.replicate_succ, List.flatten_cons, h.eq, k.eq]⟩
theorem flatten_get (z : List Value) (hz : 0 < z.length) : ∀ (m i : Nat), i < m * z.length → (List.replicate m z).flatten[i]? = z[i % z.length]?
 | 0, i, h => by simp at h
 | m + 1, i, h => by
  rw [List.replicate_succ, List.flatten_cons]
  rcases Nat.lt_or_ge i z.length with hl | hl
  ·
   rw [List.getElem?_append_left hl, Nat.mod_eq_of_lt hl]
  rw [List.getElem?_append_right hl, flatten_get z hz m (i - z.length) (by rw [Nat.add_mul] at h; omega), Nat.mod_eq_sub_mod hl]
theorem RepL.range {m : Nat} {z c : List Value} (h : RepL m z c) (hz : 0 < z.length) : (Array.range (m * z.length)).map (z.toArray[· % z.toArray.size]!) = c.toArray := by
 rw [← h.eq]
 apply Array.ext
 ·
  simp
 intro i h1 h2
 have h3 : i < m * z.length := by simpa using h1
 have h4 := flatten_get z hz m i h3
 have h5 : i % z.length < z.length := Nat.mod_lt _ hz
 rw [List.getElem?_eq_getElem (by simpa using h2), List.getElem?_eq_getElem h5] at h4
 simp only [Option.some.injEq] at h4
 simp [h4, h5]
def CellAt (M : Mem) (L : Own) (ad : Addr) (v : Value) : Prop := ∀ w, Sees M L w → w.cell? ad = some v
def CellsAt (M : Mem) (L : Own) (ad : Addr) (vs : List Value) : Prop := ∀ w, Sees M L w → ∀ j v, vs[j]? = some v → w.cell? (ad.add j) = some v
theorem cell_of {w : World} {b o : Nat} {c : Array Value} {T : TypeId} {fr : Nat × Nat} {v : Value} (h : w.heap[b]? = some (.cells c T fr)) (hv : c[o]? = some v) : w.cell? ⟨b, o, none⟩ = some v := by
 simp [World.cell?, h, hv]
theorem add_plain (b o j : Nat) : (⟨b, o, none⟩ : Addr).add j = ⟨b, o + j, none⟩ := by unfold Addr.add; split <;> simp_all
theorem CellAt.own {M : Mem} {L : Own} {b i : Nat} {c : List Value} {T : TypeId} {fr : Nat × Nat} {v : Value} (hh : Has L b (.cells c.toArray T fr)) (hg : GetAt c i v) : CellAt M L ⟨b, i, none⟩ v := fun w hw =>
 cell_of (hw.own _ hh.mem) (by simpa using hg.get)
theorem CellAt.ownAt {M : Mem} {L : Own} {b i : Nat} {c : List Value} {T : TypeId} {fr : Nat × Nat} {v : Value} (hh : Has L b (.cells c.toArray T fr)) (hg : c[i]? = some v) : CellAt M L ⟨b, i, none⟩ v := fun w hw =>
 cell_of (hw.own _ hh.mem) (by simpa using hg)
theorem CellAt.ro {M : Mem} {L : Own} {b i : Nat} {c : Array Value} {T : TypeId} {fr : Nat × Nat} {v : Value} (hM : M b = some (.cells c T fr)) (hg : c[i]? = some v) : CellAt M L ⟨b, i, none⟩ v := fun w hw =>
 cell_of (hw.ro _ _ hM) hg
theorem CellAt.at_ {M : Mem} {L : Own} {b o o' : Nat} {v : Value} (h : CellAt M L ⟨b, o', none⟩ v) (e : o' = o) : CellAt M L ⟨b, o, none⟩ v := e ▸ h
theorem CellsAt.at_ {M : Mem} {L : Own} {b o o' : Nat} {v : List Value} (h : CellsAt M L ⟨b, o', none⟩ v) (e : o' = o) : CellsAt M L ⟨b, o, none⟩ v := e ▸ h
theorem CellsAt.own {M : Mem} {L : Own} {b i n : Nat} {c vs : List Value} {T : TypeId} {fr : Nat × Nat} (hh : Has L b (.cells c.toArray T fr)) (hg : CutAt c i n vs) : CellsAt M L ⟨b, i, none⟩ vs := fun w hw j v hj => by
 rw [add_plain]; exact cell_of (hw.own _ hh.mem) (by simpa using hg.cut j v hj)
theorem CellsAt.ro {M : Mem} {L : Own} {b i n : Nat} {c vs : List Value} {T : TypeId} {fr : Nat × Nat} (hM : M b = some (.cells c.toArray T fr)) (hg : CutAt c i n vs) : CellsAt M L ⟨b, i, none⟩ vs := fun w hw j v hj => by
 rw [add_plain]; exact cell_of (hw.ro _ _ hM) (by simpa using hg.cut j v hj)

def CellsN (M : Mem) (L : Own) (ad : Addr) (n : Nat) (vs : List Value) : Prop := CellsAt M L ad vs ∧ vs.length = n
theorem CellsN.own {M : Mem} {L : Own} {b i n : Nat} {c vs : List Value} {T : TypeId} {fr : Nat × Nat} (hh : Has L b (.cells c.toArray T fr)) (hg : CutAt c i n vs) : CellsN M L ⟨b, i, none⟩ n vs := ⟨.own hh hg, hg.len⟩
section
variable {P : Program} {ty : TypeId} {F : Fr} {M : Mem} {L : Own}
theorem y_move {x : Operand} {v : Value} (hx : ev F x = some v) : Yld P (.move x) ty F M L v := fun w ρ hs hρ => by simp [execOp, hρ _ _ hx]
theorem y_assign {x : Operand} {v : Value} (hx : ev F x = some v) : Yld P (.assign x) ty F M L v := fun w ρ hs hρ => by simp [execOp, hρ _ _ hx]
theorem y_pickT {c a b : Operand} {v : Value} (hc : ev F c = some (.bool true)) (hx : ev F a = some v) : Yld P (.pick c a b) ty F M L v := fun w ρ hs hρ => by
 simp [execOp, hρ _ _ hc, hρ _ _ hx, asBool]
theorem y_pickF {c a b : Operand} {v : Value} (hc : ev F c = some (.bool false)) (hx : ev F b = some v) : Yld P (.pick c a b) ty F M L v := fun w ρ hs hρ => by
 simp [execOp, hρ _ _ hc, hρ _ _ hx, asBool]
theorem eqGuard_int {op : BinOp} {t : TypeId} {x y : Operand} {k k' : IntKind} {a b : Int} (w : World) : (eqGuard op t x y (.int k a) (.int k' b)).run P w = .ok () w := by
 unfold eqGuard; cases op <;> simp
theorem eqGuard_string {op : BinOp} {t : TypeId} {x y : Operand} {a b : ByteArray} (w : World) : (eqGuard op t x y (.string a) (.string b)).run P w = .ok () w := by
 unfold eqGuard; cases op <;> simp
theorem eqGuard_slice {op : BinOp} {t : TypeId} {x y : Operand} {a b : Option Addr} {l c l' c' : Nat} (w : World) : (eqGuard op t x y (.slice a l c) (.slice b l' c')).run P w = .ok () w := by
 unfold eqGuard; cases op <;> simp
theorem eqGuard_ptr {op : BinOp} {t : TypeId} {x y : Operand} {a b : Option Addr} (w : World) : (eqGuard op t x y (.pointer a) (.pointer b)).run P w = .ok () w := by
 unfold eqGuard; cases op <;> simp
section
variable {x y : Operand} {t t' : TypeId} {k : IntKind} {a b : Int}
theorem y_bin (op : BinOp) {v : Value} (hx : ev F x = some (.int k a)) (hy : ev F y = some (.int k b)) (hr : ∀ w, (binOp op t (.int k a) (.int k b)).run P w = .ok v w) : Yld P (.binOp op t x y t') ty F M L v := fun w ρ hs hρ => by
 simp only [execOp, hρ _ _ hx, hρ _ _ hy, Sem.run_bind, eqGuard_int, Result.andThen_ok, hr, Sem.run_pure]
theorem y_add (hx : ev F x = some (.int k a)) (hy : ev F y = some (.int k b)) : Yld P (.binOp .add t x y t') ty F M L (.int k (k.wrap (a + b))) := y_bin .add hx hy fun w => by simp [binOp, Op.intArith]
theorem y_sub (hx : ev F x = some (.int k a)) (hy : ev F y = some (.int k b)) : Yld P (.binOp .sub t x y t') ty F M L (.int k (k.wrap (a - b))) := y_bin .sub hx hy fun w => by simp [binOp, Op.intArith]
theorem y_mul (hx : ev F x = some (.int k a)) (hy : ev F y = some (.int k b)) : Yld P (.binOp .mul t x y t') ty F M L (.int k (k.wrap (a * b))) := y_bin .mul hx hy fun w => by simp [binOp, Op.intArith]
theorem y_addI (hx : ev F x = some (.int .i64 a)) (hy : ev F y = some (.int .i64 b)) (h : -9223372036854775808 ≤ a + b ∧ a + b ≤ 9223372036854775807) : Yld P (.binOp .add t x y t') ty F M L (.int .i64 (a + b)) := by
 have := y_add (P := P) (M := M) (L := L) (t := t) (t' := t') (ty := ty) hx hy; rwa [IntWalk.i64_in _ h] at this
theorem y_subI (hx : ev F x = some (.int .i64 a)) (hy : ev F y = some (.int .i64 b)) (h : -9223372036854775808 ≤ a - b ∧ a - b ≤ 9223372036854775807) : Yld P (.binOp .sub t x y t') ty F M L (.int .i64 (a - b)) := by
 have := y_sub (P := P) (M := M) (L := L) (t := t) (t' := t') (ty := ty) hx hy; rwa [IntWalk.i64_in _ h] at this
theorem y_mulI (hx : ev F x = some (.int .i64 a)) (hy : ev F y = some (.int .i64 b)) (h : -9223372036854775808 ≤ a * b ∧ a * b ≤ 9223372036854775807) : Yld P (.binOp .mul t x y t') ty F M L (.int .i64 (a * b)) := by
 have := y_mul (P := P) (M := M) (L := L) (t := t) (t' := t') (ty := ty) hx hy; rwa [IntWalk.i64_in _ h] at this
theorem y_quo (hx : ev F x = some (.int k a)) (hy : ev F y = some (.int k b)) (hb : b ≠ 0) : Yld P (.binOp .quo t x y t') ty F M L (.int k (k.wrap (a.tdiv b))) := y_bin .quo hx hy fun w => by simp [binOp, Op.intDiv, hb]
theorem y_rem (hx : ev F x = some (.int k a)) (hy : ev F y = some (.int k b)) (hb : b ≠ 0) : Yld P (.binOp .rem t x y t') ty F M L (.int k (a.tmod b)) := y_bin .rem hx hy fun w => by simp [binOp, Op.intDiv, hb]
theorem y_lss (hx : ev F x = some (.int k a)) (hy : ev F y = some (.int k b)) : Yld P (.binOp .lss t x y t') ty F M L (.bool (decide (a < b))) := y_bin .lss hx hy fun w => by simp [binOp, Op.intCmp]
theorem y_leq (hx : ev F x = some (.int k a)) (hy : ev F y = some (.int k b)) : Yld P (.binOp .leq t x y t') ty F M L (.bool (decide (a ≤ b))) := y_bin .leq hx hy fun w => by simp [binOp, Op.intCmp]
theorem y_gtr (hx : ev F x = some (.int k a)) (hy : ev F y = some (.int k b)) : Yld P (.binOp .gtr t x y t') ty F M L (.bool (decide (a > b))) := y_bin .gtr hx hy fun w => by simp [binOp, Op.intCmp]
theorem y_geq (hx : ev F x = some (.int k a)) (hy : ev F y = some (.int k b)) : Yld P (.binOp .geq t x y t') ty F M L (.bool (decide (a ≥ b))) := y_bin .geq hx hy fun w => by simp [binOp, Op.intCmp]
theorem y_eql (hx : ev F x = some (.int k a)) (hy : ev F y = some (.int k b)) : Yld P (.binOp .eql t x y t') ty F M L (.bool (decide (a = b))) := y_bin .eql hx hy fun w => by
 simp [binOp, Op.intCmp]; rfl
theorem y_neq (hx : ev F x = some (.int k a)) (hy : ev F y = some (.int k b)) : Yld P (.binOp .neq t x y t') ty F M L (.bool (decide (a ≠ b))) := y_bin .neq hx hy fun w => by
 simp only [binOp, Op.intCmp, ne_eq, not_true_eq_false, if_false, Sem.run_pure]; congr 2; by_cases h : a = b <;> simp [h]
theorem y_and (hx : ev F x = some (.int k a)) (hy : ev F y = some (.int k b)) : Yld P (.binOp .and t x y t') ty F M L (.int k (k.wrap (BitVec.ofInt k.bits a &&& BitVec.ofInt k.bits b).toNat)) := y_bin .and hx hy fun w => by simp [binOp, Op.intBits]
theorem y_or (hx : ev F x = some (.int k a)) (hy : ev F y = some (.int k b)) : Yld P (.binOp .or t x y t') ty F M L (.int k (k.wrap (BitVec.ofInt k.bits a ||| BitVec.ofInt k.bits b).toNat)) := y_bin .or hx hy fun w => by simp [binOp, Op.intBits]
theorem y_xor (hx : ev F x = some (.int k a)) (hy : ev F y = some (.int k b)) : Yld P (.binOp .xor t x y t') ty F M L (.int k (k.wrap (BitVec.ofInt k.bits a ^^^ BitVec.ofInt k.bits b).toNat)) := y_bin .xor hx hy fun w => by simp [binOp, Op.intBits]
theorem y_shl {k' : IntKind} (hx : ev F x = some (.int k a)) (hy : ev F y = some (.int k' b)) (hb : 0 ≤ b) : Yld P (.binOp .shl t x y t') ty F M L (.int k (k.wrap (a * 2 ^ (min b.toNat k.bits)))) := fun w ρ hs hρ => by
 have : ¬ b < 0 := by omega
 simp only [execOp, hρ _ _ hx, hρ _ _ hy, Sem.run_bind, eqGuard_int, Result.andThen_ok, binOp, Op.shift, if_neg this, Sem.run_pure]
theorem y_shr {k' : IntKind} (hx : ev F x = some (.int k a)) (hy : ev F y = some (.int k' b)) (hb : 0 ≤ b) : Yld P (.binOp .shr t x y t') ty F M L (.int k (a.fdiv (2 ^ (min b.toNat k.bits)))) := fun w ρ hs hρ => by
 have : ¬ b < 0 := by omega
 simp only [execOp, hρ _ _ hx, hρ _ _ hy, Sem.run_bind, eqGuard_int, Result.andThen_ok, binOp, Op.shift, if_neg this, Sem.run_pure]
theorem y_not {p : Bool} (hx : ev F x = some (.bool p)) : Yld P (.unOp .not t x) ty F M L (.bool (!p)) := fun w ρ hs hρ => by simp [execOp, hρ _ _ hx, Op.unary]
theorem y_notd {p : Prop} [Decidable p] (hx : ev F x = some (.bool (decide p))) : Yld P (.unOp .not t x) ty F M L (.bool (decide (¬ p))) := fun w ρ hs hρ => by simp [execOp, hρ _ _ hx, Op.unary]
theorem y_neg (hx : ev F x = some (.int k a)) : Yld P (.unOp .neg t x) ty F M L (.int k (k.wrap (0 - a))) := fun w ρ hs hρ => by simp [execOp, hρ _ _ hx, Op.unary, Op.intArith]
theorem y_com (hx : ev F x = some (.int k a)) : Yld P (.unOp .xor t x) ty F M L (.int k (k.wrap (BitVec.ofInt k.bits (if k.signed then -1 else k.max) ^^^ BitVec.ofInt k.bits a).toNat)) := fun w ρ hs hρ => by
 simp [execOp, hρ _ _ hx, Op.unary, Op.intBits]
theorem y_conv {z z' : Value} {s s' b0 b' : Nat} {d0 : TypeDesc} {kd : IntKind} [ti : TI P t d0 z s b0] [ti' : TI P t' (.int kd) z' s' b'] (hx : ev F x = some (.int k a)) : Yld P (.convert t t' x) ty F M L (.int kd (kd.wrap a)) := fun w ρ hs hρ => by
 simp [execOp, hρ _ _ hx, convert, run_underlying ti.und, run_underlying ti'.und, Conv.intToInt]
theorem run_eq_slice (w : World) (d : Nat) (t e : TypeId) (A : Option Addr) (l c l' c' : Nat) (h : P.underlying t = some (.slice e)) : (Op.equalIn (d + 1) t (.slice A l c) (.slice none l' c')).run P w = .ok A.isNone w := by
 cases A <;> simp [Op.equalIn, run_underlying h]
theorem run_eq_ptr (w : World) (d : Nat) (t e : TypeId) (A : Option Addr) (h : P.underlying t = some (.pointer e)) : (Op.equalIn (d + 1) t (.pointer A) (.pointer none)).run P w = .ok A.isNone w := by
 cases A <;> simp [Op.equalIn, run_underlying h]
theorem y_eqNilSlice {A : Option Addr} {l c l' c' : Nat} {e : TypeId} {z : Value} {s b0 : Nat} [ti : TI P t (.slice e) z s b0] (hx : ev F x = some (.slice A l c)) (hy : ev F y = some (.slice none l' c')) : Yld P (.binOp .eql t x y t') ty F M L (.bool A.isNone) := fun w ρ hs hρ => by
 have hr : (binOp .eql t (.slice A l c) (.slice none l' c')).run P w = .ok (.bool A.isNone) w := by
  simp only [binOp]; simp [Op.equal, Op.maxDepth, run_eq_slice w 9999 t e A l c l' c' ti.und]
 simp only [execOp, hρ _ _ hx, hρ _ _ hy, Sem.run_bind, eqGuard_slice, Result.andThen_ok, hr, Sem.run_pure]
theorem y_eqNilPtr {A : Option Addr} {e : TypeId} {z : Value} {s b0 : Nat} [ti : TI P t (.pointer e) z s b0] (hx : ev F x = some (.pointer A)) (hy : ev F y = some (.pointer none)) : Yld P (.binOp .eql t x y t') ty F M L (.bool A.isNone) := fun w ρ hs hρ => by
 have hr : (binOp .eql t (.pointer A) (.pointer none)).run P w = .ok (.bool A.isNone) w := by
  simp only [binOp]; simp [Op.equal, Op.maxDepth, run_eq_ptr w 9999 t e A ti.und]
 simp only [execOp, hρ _ _ hx, hρ _ _ hy, Sem.run_bind, eqGuard_ptr, Result.andThen_ok, hr, Sem.run_pure]
theorem y_min (hx : ev F x = some (.int k a)) (hy : ev F y = some (.int k b)) {ts : Array TypeId} : Yld P (.call ⟨.builtin .min, #[x, y], ts⟩) ty F M L (.int k (if b < a then b else a)) := fun w ρ hs hρ => by
 simp [execOp, resolve, invoke, builtin, Builtin.min_, Builtin.min2, hρ _ _ hx, hρ _ _ hy]
end
theorem y_nilCheck {x : Operand} {ad : Addr} (hx : ev F x = some (.pointer (some ad))) : Yld P (.nilCheck x) ty F M L (.pointer (some ad)) := fun w ρ hs hρ => by simp [execOp, hρ _ _ hx]
theorem run_isAgg {t : TypeId} {d : TypeDesc} (h : P.underlying t = some d) (w : World) : (isAgg t).run P w = .ok (aggD d) w := by
 unfold isAgg
 cases d <;> simp [run_underlying h, aggD]
theorem run_size {t : TypeId} {i : TypeInfo} (h : P.info? t = some i) (w : World) : (sizeOf t).run P w = .ok i.size w := by simp [sizeOf, typeInfo, h]
theorem y_fieldAddr {x : Operand} {i : Nat} {t : TypeId} {b o o' off s : Nat} {a : Bool} [fo : FO P t i off s a] (hx : ev F x = some (.pointer (some ⟨b, o, none⟩))) [ha : AddN o off o'] :
  Yld P (.fieldAddr t x i) ty F M L (.pointer (some ⟨b, o', none⟩)) := fun w ρ hs hρ => by
 obtain rfl := ha.eq
 obtain ⟨fs, f, d', z', b', hu, hf, tf, rfl, _, hs'⟩ := fo.fld
 obtain ⟨j, hj, _, hjs, _⟩ := tf.parts
 subst hjs
 simp [execOp, hρ _ _ hx, Instr.fieldAt, run_underlying hu, hf, Instr.sureAddr, fieldPlace, run_size hj, hs', add_plain]
theorem y_extract {x : Operand} {vs : List Value} {v : Value} {i : Nat} (hx : ev F x = some (.tuple vs.toArray)) [hv : GetAt vs i v] : Yld P (.extract x i) ty F M L v := fun w ρ hs hρ => by
 simp [execOp, hρ _ _ hx, Instr.extract, hv.get]
theorem y_fieldE {x : Operand} {i : Nat} {t : TypeId} {off s : Nat} [fo : FO P t i off s false] {cs : Array Value} (hx : ev F x = some (.agg cs)) {v : Value} (hv : cs[off]? = some v) :
  Yld P (.field t x i) ty F M L v := fun w ρ hs hρ => by
 obtain ⟨fs, f, d', z', b', hu, hf, tf, rfl, ha, hs'⟩ := fo.fld
 simp [execOp, hρ _ _ hx, Instr.field, run_underlying hu, hf, part, run_isAgg tf.und, ha, asAgg, hv]
theorem y_field {x : Operand} {i : Nat} {t : TypeId} {off s : Nat} [fo : FO P t i off s false] {cs : List Value} (hx : ev F x = some (.agg cs.toArray)) {v : Value} [hv : GetAt cs off v] :
  Yld P (.field t x i) ty F M L v := y_fieldE hx (by simpa using hv.get)
theorem y_load {x : Operand} {t : TypeId} {d' : TypeDesc} {z : Value} {s b0 : Nat} [ti : TI P t d' z s b0] (ha : aggD d' = false) {ad : Addr} {v : Value} (hx : ev F x = some (.pointer (some ad))) (hc : CellAt M L ad v) :
  Yld P (.load t x) ty F M L v := fun w ρ hs hρ => by
 simp [execOp, hρ _ _ hx, Instr.loadAt, Instr.sureAddr, loadVar, run_isAgg ti.und, ha, hc w hs]
theorem y_loadAgg {x : Operand} {t : TypeId} {d' : TypeDesc} {z : Value} {s b0 : Nat} [ti : TI P t d' z s b0] (ha : aggD d' = true) {ad : Addr} {vs : List Value} (hx : ev F x = some (.pointer (some ad))) (hc : CellsN M L ad s vs) :
  Yld P (.load t x) ty F M L (.agg vs.toArray) := fun w ρ hs hρ => by
 obtain ⟨hc, hl⟩ := hc
 obtain ⟨j, hj, _, hjs, _⟩ := ti.parts
 subst hjs
 have := run_loadCells_list (P := P) (w := w) ad vs (hc w hs)
 rw [hl] at this
 simp [execOp, hρ _ _ hx, Instr.loadAt, Instr.sureAddr, loadVar, run_isAgg ti.und, ha, run_size hj, this]
theorem y_indexAddr {x ix : Operand} {t e : TypeId} {z z' : Value} {s b0 s' b' : Nat} {d' : TypeDesc} [ti : TI P t (.slice e) z s b0] [te : TI P e d' z' s' b'] {b o l c : Nat} {k : IntKind} {i : Int}
  (hx : ev F x = some (.slice (some ⟨b, o, none⟩) l c)) (hi : ev F ix = some (.int k i)) (h : 0 ≤ i ∧ i < l) :
  Yld P (.indexAddr t x ix) ty F M L (.pointer (some ⟨b, o + i.toNat * s', none⟩)) := fun w ρ hs hρ => by
 obtain ⟨j, hj, _, hjs, _⟩ := te.parts
 subst hjs
 simp [execOp, hρ _ _ hx, hρ _ _ hi, Instr.indexAt, asIntOf, run_underlying ti.und, h, run_size hj, add_plain]
theorem y_indexArr {x ix : Operand} {t e : TypeId} {z z' : Value} {s b0 s' b' m : Nat} {d' : TypeDesc} [ti : TI P t (.array m e) z s b0] [te : TI P e d' z' s' b'] {b o : Nat} {k : IntKind} {i : Int}
  (hx : ev F x = some (.pointer (some ⟨b, o, none⟩))) (hi : ev F ix = some (.int k i)) (h : 0 ≤ i ∧ i < m) :
  Yld P (.indexAddr t x ix) ty F M L (.pointer (some ⟨b, o + i.toNat * s', none⟩)) := fun w ρ hs hρ => by
 obtain ⟨j, hj, _, hjs, _⟩ := te.parts
 subst hjs
 simp [execOp, hρ _ _ hx, hρ _ _ hi, Instr.indexAt, asIntOf, run_underlying ti.und, h, Instr.sureAddr, run_size hj, add_plain]
theorem y_index {x ix : Operand} {t e : TypeId} {z z' : Value} {s b0 s' b' m : Nat} {d' : TypeDesc} [ti : TI P t (.array m e) z s b0] [te : TI P e d' z' s' b'] {cs : Array Value} {k : IntKind} {i : Int} {v : Value}
  (hx : ev F x = some (.agg cs)) (hi : ev F ix = some (.int k i)) (h : 0 ≤ i ∧ i < m) (ha : aggD d' = false) (hv : cs[i.toNat * s']? = some v) :
  Yld P (.index t x ix) ty F M L v := fun w ρ hs hρ => by
 obtain ⟨j, hj, _, hjs, _⟩ := te.parts
 subst hjs
 simp [execOp, hρ _ _ hx, hρ _ _ hi, Instr.index, asIntOf, run_underlying ti.und, h, part, run_isAgg te.und, ha, run_size hj, hv]
theorem y_indexStr {x ix : Operand} {t : TypeId} {z : Value} {s0 b0 : Nat} [ti : TI P t .string z s0 b0] {s : ByteArray} {k : IntKind} {i : Int} {c : UInt8}
  (hx : ev F x = some (.string s)) (hi : ev F ix = some (.int k i)) (h : 0 ≤ i) (hv : s[i.toNat]? = some c) :
  Yld P (.index t x ix) ty F M L (.int .u8 c.toNat) := fun w ρ hs hρ => by
 simp [execOp, hρ _ _ hx, hρ _ _ hi, Instr.index, asIntOf, run_underlying ti.und, h, hv]
theorem y_len {x : Operand} {t : TypeId} {e : TypeId} {z : Value} {s b0 : Nat} [ti : TI P t (.slice e) z s b0] {A : Option Addr} {l c : Nat} (hx : ev F x = some (.slice A l c)) :
  Yld P (.call ⟨.builtin .len, #[x], #[t]⟩) ty F M L (.int .i64 l) := fun w ρ hs hρ => by
 simp [execOp, resolve, invoke, builtin, Builtin.len_, hρ _ _ hx, run_underlying ti.und, goInt]
theorem y_lenStr {x : Operand} {t : TypeId} {z : Value} {s b0 : Nat} [ti : TI P t .string z s b0] {v : ByteArray} (hx : ev F x = some (.string v)) :
  Yld P (.call ⟨.builtin .len, #[x], #[t]⟩) ty F M L (.int .i64 v.size) := fun w ρ hs hρ => by
 simp [execOp, resolve, invoke, builtin, Builtin.len_, hρ _ _ hx, run_underlying ti.und, goInt]
def sl (A : Option Addr) (l m s : Nat) : Option Addr := if m = l then A else A.map (·.add (l * s))
theorem run_sliceBound {k : IntKind} {i : Int} {y : Nat} {code : BoundsCode} (h : 0 ≤ i ∧ i ≤ y) (w : World) : (Instr.sliceBound (.int k i) y code).run P w = .ok i.toNat w := by
 simp [Instr.sliceBound, asIntOf, h]
section
variable {x xl xh xm : Operand} {t e : TypeId} {z z' : Value} {s b0 s' b' len cap : Nat} {d' : TypeDesc} {A : Option Addr} {kl kh km : IntKind} {l h m : Int}
theorem y_sliceLH [ti : TI P t (.slice e) z s b0] [te : TI P e d' z' s' b'] (hx : ev F x = some (.slice A len cap)) (hl : ev F xl = some (.int kl l)) (hh : ev F xh = some (.int kh h)) (h1 : 0 ≤ l ∧ l ≤ h) (h2 : h ≤ cap) :
  Yld P (.slice t x (some xl) (some xh) none) ty F M L (.slice (sl A l.toNat cap s') (h.toNat - l.toNat) (cap - l.toNat)) := fun w ρ hs hρ => by
 obtain ⟨j, hj, _, hjs, _⟩ := te.parts
 subst hjs
 have e1 : (Instr.sliceBound (.int kh h) cap .sliceAcap).run P w = .ok h.toNat w := run_sliceBound ⟨by omega, h2⟩ w
 have e2 : (Instr.sliceBound (.int kl l) h.toNat .sliceB).run P w = .ok l.toNat w := run_sliceBound ⟨h1.1, by omega⟩ w
 simp [execOp, hρ _ _ hx, hρ _ _ hl, hρ _ _ hh, Instr.sliceAt, Instr.slice, Instr.sliceBounds, run_underlying ti.und, e1, e2, run_size hj, sl]
theorem y_sliceH [ti : TI P t (.slice e) z s b0] [te : TI P e d' z' s' b'] (hx : ev F x = some (.slice A len cap)) (hh : ev F xh = some (.int kh h)) (h1 : 0 ≤ h) (h2 : h ≤ cap) :
  Yld P (.slice t x none (some xh) none) ty F M L (.slice (sl A 0 cap s') h.toNat cap) := fun w ρ hs hρ => by
 obtain ⟨j, hj, _, hjs, _⟩ := te.parts
 subst hjs
 have e1 : (Instr.sliceBound (.int kh h) cap .sliceAcap).run P w = .ok h.toNat w := run_sliceBound ⟨by omega, h2⟩ w
 simp [execOp, hρ _ _ hx, hρ _ _ hh, Instr.sliceAt, Instr.slice, Instr.sliceBounds, run_underlying ti.und, e1, run_size hj, sl]
theorem y_sliceL [ti : TI P t (.slice e) z s b0] [te : TI P e d' z' s' b'] (hx : ev F x = some (.slice A len cap)) (hl : ev F xl = some (.int kl l)) (h1 : 0 ≤ l ∧ l ≤ len) :
  Yld P (.slice t x (some xl) none none) ty F M L (.slice (sl A l.toNat cap s') (len - l.toNat) (cap - l.toNat)) := fun w ρ hs hρ => by
 obtain ⟨j, hj, _, hjs, _⟩ := te.parts
 subst hjs
 have e2 : (Instr.sliceBound (.int kl l) len .sliceB).run P w = .ok l.toNat w := run_sliceBound h1 w
 simp [execOp, hρ _ _ hx, hρ _ _ hl, Instr.sliceAt, Instr.slice, Instr.sliceBounds, run_underlying ti.und, e2, run_size hj, sl]
theorem y_slice3 [ti : TI P t (.slice e) z s b0] [te : TI P e d' z' s' b'] (hx : ev F x = some (.slice A len cap)) (hh : ev F xh = some (.int kh h)) (hm : ev F xm = some (.int km m)) (h1 : 0 ≤ h ∧ h ≤ m) (h2 : m ≤ cap) :
  Yld P (.slice t x none (some xh) (some xm)) ty F M L (.slice (sl A 0 m.toNat s') h.toNat m.toNat) := fun w ρ hs hρ => by
 obtain ⟨j, hj, _, hjs, _⟩ := te.parts
 subst hjs
 have e0 : (Instr.sliceBound (.int km m) cap .slice3Acap).run P w = .ok m.toNat w := run_sliceBound ⟨by omega, h2⟩ w
 have e1 : (Instr.sliceBound (.int kh h) m.toNat .slice3B).run P w = .ok h.toNat w := run_sliceBound ⟨by omega, by omega⟩ w
 simp [execOp, hρ _ _ hx, hρ _ _ hh, hρ _ _ hm, Instr.sliceAt, Instr.slice, Instr.sliceBounds, run_underlying ti.und, e0, e1, run_size hj, sl]
theorem y_slice3L [ti : TI P t (.slice e) z s b0] [te : TI P e d' z' s' b'] (hx : ev F x = some (.slice A len cap)) (hl : ev F xl = some (.int kl l)) (hh : ev F xh = some (.int kh h)) (hm : ev F xm = some (.int km m)) (h1 : 0 ≤ l ∧ l ≤ h ∧ h ≤ m) (h2 : m ≤ cap) :
  Yld P (.slice t x (some xl) (some xh) (some xm)) ty F M L (.slice (sl A l.toNat m.toNat s') (h.toNat - l.toNat) (m.toNat - l.toNat)) := fun w ρ hs hρ => by
 obtain ⟨j, hj, _, hjs, _⟩ := te.parts
 subst hjs
 have e0 : (Instr.sliceBound (.int km m) cap .slice3Acap).run P w = .ok m.toNat w := run_sliceBound ⟨by omega, h2⟩ w
 have e1 : (Instr.sliceBound (.int kh h) m.toNat .slice3B).run P w = .ok h.toNat w := run_sliceBound ⟨by omega, by omega⟩ w
 have e2 : (Instr.sliceBound (.int kl l) h.toNat .slice3C).run P w = .ok l.toNat w := run_sliceBound ⟨by omega, by omega⟩ w
 simp [execOp, hρ _ _ hx, hρ _ _ hl, hρ _ _ hh, hρ _ _ hm, Instr.sliceAt, Instr.slice, Instr.sliceBounds, run_underlying ti.und, e0, e1, e2, run_size hj, sl]
theorem y_sliceArr {n b o : Nat} [ti : TI P t (.array n e) z s b0] [te : TI P e d' z' s' b'] (hx : ev F x = some (.pointer (some ⟨b, o, none⟩))) :
  Yld P (.slice t x none none none) ty F M L (.slice (some ⟨b, o, none⟩) n n) := fun w ρ hs hρ => by
 obtain ⟨j, hj, _, hjs, _⟩ := te.parts
 subst hjs
 simp [execOp, hρ _ _ hx, Instr.sliceAt, Instr.sliceBounds, run_underlying ti.und, run_size hj, Instr.sureAddr, Addr.add]
theorem y_sliceArrLH {n b o : Nat} [ti : TI P t (.array n e) z s b0] [te : TI P e d' z' s' b'] (hx : ev F x = some (.pointer (some ⟨b, o, none⟩))) (hl : ev F xl = some (.int kl l)) (hh : ev F xh = some (.int kh h)) (h1 : 0 ≤ l ∧ l ≤ h) (h2 : h ≤ n) :
  Yld P (.slice t x (some xl) (some xh) none) ty F M L (.slice (sl (some ⟨b, o, none⟩) l.toNat n s') (h.toNat - l.toNat) (n - l.toNat)) := fun w ρ hs hρ => by
 obtain ⟨j, hj, _, hjs, _⟩ := te.parts
 subst hjs
 have e1 : (Instr.sliceBound (.int kh h) n .sliceAlen).run P w = .ok h.toNat w := run_sliceBound ⟨by omega, h2⟩ w
 have e2 : (Instr.sliceBound (.int kl l) h.toNat .sliceB).run P w = .ok l.toNat w := run_sliceBound ⟨h1.1, by omega⟩ w
 simp [execOp, hρ _ _ hx, hρ _ _ hl, hρ _ _ hh, Instr.sliceAt, Instr.sliceBounds, run_underlying ti.und, e1, e2, run_size hj, Instr.sureAddr, sl]
 by_cases hm : n = l.toNat <;> simp [hm]
end
def evps (F : Fr) : List (Nat × Operand) → Option (List (Nat × Value))
 | [] => some []
 | (i, x) :: xs => match ev F x, evps F xs with
  | some v, some vs => some ((i, v) :: vs)
  | _, _ => none
theorem evps_map {ρ : Operand → Value} (h : ∀ x u, ev F x = some u → ρ x = u) : ∀ (xs : List (Nat × Operand)) (vs : List (Nat × Value)), evps F xs = some vs → xs.map (fun p => (p.1, ρ p.2)) = vs
 | [], vs, hv => by cases hv; rfl
 | (i, x) :: xs, vs, hv => by
  simp only [evps] at hv
  cases h1 : ev F x with
  | none => rw [h1] at hv; cases hv
  | some v =>
   cases h2 : evps F xs with
   | none => rw [h1, h2] at hv; cases hv
   | some us =>
    rw [h1, h2] at hv
    simp only [Option.some.injEq] at hv
    subst hv
    simp [h x v h1, evps_map h xs us h2]
class SI (P : Program) (fs : Array Field) (places : outParam (List (Nat × Nat))) : Prop where
 run : ∀ w, (fs.mapM fun f => do pure (f.offset, ← sizeOf f.type) : Sem (Array (Nat × Nat))).run P w = .ok places.toArray w
theorem y_build {t : TypeId} {parts : List (Nat × Operand)} {fs : Array Field} {z : List Value} {s b0 : Nat} [ti : TI P t (.struct fs) (.agg z.toArray) s b0] {places : List (Nat × Nat)} [si : SI P fs places] {vs : List (Nat × Value)} (hp : evps F parts = some vs)
  {cells : List Value} [hf : FillTo (fun i => places[i]?) z vs cells] :
  Yld P (.build t parts.toArray) ty F M L (.agg cells.toArray) := fun w ρ hs hρ => by
 obtain ⟨j, hj, hz, _, _⟩ := ti.parts
 have h1 : (zeroValue t).run P w = .ok (.agg z.toArray) w := by simp [zeroValue, typeInfo, hj, hz]
 have h2 := evps_map hρ _ _ hp
 have hf : Instr.fill (places.toArray[·]?) z.toArray vs = some cells.toArray := by simpa using hf.fill
 have hpl := si.run
 simp only [execOp, Instr.build, Sem.run_bind, h1, Result.andThen_ok, run_underlying ti.und, Sem.run_pure, List.map_toArray, h2, Value.cells]
 have h3 := hpl w
 rw [h3]
 simp only [Result.andThen_ok, hf, Sem.run_pure]
theorem y_makeFunc {fn : Fn} {fs cs : List Operand} {vf vc : List Value} (hf : evs F fs = some vf) (hc : evs F cs = some vc) : Yld P (.makeFunc fn fs.toArray cs.toArray) ty F M L (.func fn vf.toArray vc.toArray) := fun w ρ hs hρ => by
 simp [execOp, Instr.makeFunc, evs_map hρ _ _ hf, evs_map hρ _ _ hc]
theorem y_makeIface {x : Operand} {t : TypeId} {d' : TypeDesc} {z : Value} {s b0 : Nat} [ti : TI P t d' z s b0] {v : Value} (hx : ev F x = some v) (hd : ∀ ms, d' ≠ .interface ms) : Yld P (.makeInterface t x) ty F M L (.iface t v) := fun w ρ hs hρ => by
 cases d' <;> first | (exact absurd rfl (hd _)) | simp [execOp, hρ _ _ hx, Instr.makeInterface, run_underlying ti.und]
end
end Go.Eng
namespace Go.Eng
instance {E R : Own} {b : Nat} {o : Obj} [h : Has R b o] : Has (E ++ R) b o := ⟨List.mem_append_right _ h.mem⟩
instance {E R R' : Own} {b : Nat} {o : Obj} [h : Sel R b o R'] : Sel (E ++ R) b o (E ++ R') := ⟨(h.perm.append_left E).trans List.perm_middle⟩
instance {E R R' : Own} {b : Nat} {o o' : Obj} [h : Upd R b o o' R'] : Upd (E ++ R) b o o' (E ++ R') := by
 obtain ⟨K, h1, h2⟩ := h.perm
 exact ⟨E ++ K, (h1.append_left E).trans List.perm_middle, (h2.append_left E).trans List.perm_middle⟩
def one (v : Value) : Bool := v.oneCell'
section
variable {P : Program} {n : Nat} {Q : Post} {F : Fr} {D : List Deferred} {G : World} {M : Mem} {L : Own} {d : Option Tmp} {ty : TypeId} {K : Fr → List Deferred → Mem → Own → Prop}
theorem tr_value {op : Op} (hnd : ∀ c, op ≠ .defer c) (h : ∀ w (ρ : Operand → Value), St G M L w → (∀ x u, ev F x = some u → ρ x = u) → ∃ v w' M' L', (execOp ρ ⟨none, op, ty, "", #[], none⟩).run P w = .ok (.value v) w' ∧ St G M' L' w' ∧ K (putF d v F) D M' L') :
  Tr P n d op ty Q F D G M L K := fun hok w a hw ha => by
 obtain ⟨v, w', M', L', hr, hs, hk⟩ := h w a.eval hw (fun x u hx => ha.eval hx)
 have hr' : (execOp a.eval ⟨d, op, ty, "", #[], none⟩).run P w = .ok (.value v) w' := hr
 refine ⟨fun _ _ => trivial, ?_⟩
 rw [Oper.semAt_eq _ _ _ hnd, hr']
 exact ⟨_, D, M', L', ha.putF hok v, hs, hk⟩
theorem tr_skip {op : Op} (hnd : ∀ c, op ≠ .defer c) (h : ∀ w (ρ : Operand → Value), St G M L w → (∀ x u, ev F x = some u → ρ x = u) → ∃ w' M' L', (execOp ρ ⟨none, op, ty, "", #[], none⟩).run P w = .ok .skip w' ∧ St G M' L' w' ∧ K F D M' L') :
  Tr P n none op ty Q F D G M L K := fun hok w a hw ha => by
 obtain ⟨w', M', L', hr, hs, hk⟩ := h w a.eval hw (fun x u hx => ha.eval hx)
 have hr' : (execOp a.eval ⟨none, op, ty, "", #[], none⟩).run P w = .ok .skip w' := hr
 refine ⟨fun _ _ => trivial, ?_⟩
 rw [Oper.semAt_eq _ _ _ hnd, hr']
 exact ⟨_, D, M', L', ha, hs, hk⟩
theorem St.push {w : World} (h : St G M L w) (o : Obj) : St G M ((w.heap.size, o) :: L) { w with heap := w.heap.push o } := h.alloc rfl rfl rfl rfl
theorem e_alloc {e : TypeId} {de : TypeDesc} {z : Value} {s b0 : Nat} {cs : List Value} [te : TI P e de z s b0] [tc : CellsOf z cs] (h : ∀ b, K (putF d (.pointer (some ⟨b, 0, none⟩)) F) D M ((b, .cells cs.toArray e (0, 0)) :: L)) :
  Tr P n d (.alloc e) ty Q F D G M L K := tr_value (fun c h => by cases h) fun w ρ hw hρ => by
 obtain ⟨j, hj, hz, _, _⟩ := te.parts
 refine ⟨_, _, M, _, ?_, hw.push (.cells cs.toArray e (0, 0)), h _⟩
 simp [execOp, Instr.alloc, zeroValue, typeInfo, hj, hz, newVar, newRow, tc.eq]
theorem e_box {e : TypeId} {x : Operand} {v : Value} {cs : List Value} (hx : ev F x = some v) [tc : CellsOf v cs] (h : ∀ b, K (putF d (.pointer (some ⟨b, 0, none⟩)) F) D M ((b, .cells cs.toArray e (0, 0)) :: L)) :
  Tr P n d (.box e x) ty Q F D G M L K := tr_value (fun c h => by cases h) fun w ρ hw hρ => by
 refine ⟨_, _, M, _, ?_, hw.push (.cells cs.toArray e (0, 0)), h _⟩
 simp [execOp, Instr.box, newVar, newRow, hρ _ _ hx, tc.eq]
theorem e_buildSlice {t e : TypeId} {m : Nat} {parts : List (Nat × Operand)} {z z' : Value} {s s' b0 b' : Nat} {de : TypeDesc} [ti : TI P t (.slice e) z s b0] [te : TI P e de z' s' b'] {zs z0 cells : List Value} [tc : CellsOf z' zs] [tl : LenN zs s'] [tr : RepL m zs z0] {vs : List (Nat × Value)} (hp : evps F parts = some vs)
  (hm : m * s' ≤ 16777216 ∧ m * s' ≠ 0) [hf : FillTo (fun i => some (i * s', s')) z0 vs cells]
  (h : ∀ b, K (putF d (.slice (some ⟨b, 0, none⟩) m m) F) D M ((b, .cells cells.toArray e (0, 0)) :: L)) :
  Tr P n d (.buildSlice t m parts.toArray) ty Q F D G M L K := tr_value (fun c h => by cases h) fun w ρ hw hρ => by
 obtain ⟨j, hj, hz, hjs, _⟩ := te.parts
 subst hjs
 refine ⟨_, _, M, _, ?_, hw.push (.cells cells.toArray e (0, 0)), h _⟩
 have h1 : ¬ (m * j.size > 2 ^ 24) := by have := hm.1; omega
 have hpos : 0 < zs.length := by
  rcases Nat.eq_zero_or_pos zs.length with h0 | h0
  ·
   exact absurd (by rw [← tl.len, h0, Nat.mul_zero]) hm.2
  exact h0
 have h2 := tr.range hpos
 rw [tl.len] at h2
 simp only [execOp, Instr.buildSlice, Sem.run_bind, run_underlying ti.und, Result.andThen_ok, run_size hj, if_neg h1, if_neg hm.2, List.map_toArray, evps_map hρ _ _ hp]
 have hz' : (zeroValue e).run P w = .ok z' w := by simp [zeroValue, typeInfo, hj, hz]
 have h3 : (Array.map (fun x => z'.cells[x % z'.cells.size]!) (Array.range (m * j.size))) = z0.toArray := by rw [tc.eq]; exact h2
 rw [hz']
 simp only [Result.andThen_ok, Sem.run_pure]
 rw [h3, hf.fill]
 simp [newRow]
theorem e_make {t e : TypeId} {xl xc : Operand} {z z' : Value} {s s' b0 b' : Nat} {de : TypeDesc} [ti : TI P t (.slice e) z s b0] [te : TI P e de z' s' b'] {kl kc : IntKind} {l c : Int} (hl : ev F xl = some (.int kl l)) (hc : ev F xc = some (.int kc c))
  (h0 : 0 ≤ l) (hlc : l ≤ c) (hb : (b' : Int) * c ≤ 281474976710656) (h63 : c ≤ 9223372036854775807)
  (h : ∀ b, K (putF d (.slice (some ⟨b, 0, none⟩) l.toNat c.toNat) F) D M ((b, .cells (madeCells z'.cells (c.toNat * s')) e (0, 0)) :: L)) :
  Tr P n d (.makeSlice t xl xc) ty Q F D G M L K := tr_value (fun c h => by cases h) fun w ρ hw hρ => by
 obtain ⟨j, hj, hz, hjs, hjb⟩ := te.parts
 subst hjs
 subst hjb
 refine ⟨_, _, M, _, ?_, hw.push (.cells (madeCells z'.cells (c.toNat * j.size)) e (0, 0)), h _⟩
 have := run_make (P := P) w t e j z' ti.und hj hz kl kc l c h0 hlc hb h63
 simp only [execOp, hρ _ _ hl, hρ _ _ hc, Sem.run_bind, this, Result.andThen_ok, Sem.run_pure]
 rfl
theorem made_one {z : Value} (h : z.cells = #[z]) (m : Nat) : madeCells z.cells m = (List.replicate m z).toArray := by
 rw [h]
 apply Array.ext
 ·
  simp [madeCells]
 intro i h1 h2; simp [madeCells, Nat.mod_one]
theorem run_storeVar {w : World} {t : TypeId} {ti : TypeInfo} (hi : P.info? t = some ti) {b o : Nat} {c : List Value} {T : TypeId} {v : Value} {cs c' : List Value} (hv : v.cells = cs.toArray) (hsz : cs.length = ti.size) (h1 : cs.all one = true)
  (hg : w.heap[b]? = some (.cells c.toArray T (0, 0))) (hp : PutAt c o cs c') : (storeVar t ⟨b, o, none⟩ v).run P w = .ok () (w.setRow b c'.toArray) := by
 have hst := run_storeCells_at P b o T cs 0 c.toArray w hg (by simpa using hp.le) (fun u hu => List.all_eq_true.1 h1 u hu)
 simp only [Nat.add_zero, List.append_assoc] at hst
 have : c'.toArray = (c.toArray.toList.take o ++ (cs ++ c.toArray.toList.drop (o + cs.length))).toArray := by rw [hp.put]
 rw [← this] at hst
 simp [storeVar, run_size hi, hv, hsz, hst]
theorem e_store {t : TypeId} {xa xv : Operand} {d' : TypeDesc} {z : Value} {s b0 : Nat} [ti : TI P t d' z s b0] {b o : Nat} {c c' cs : List Value} {T : TypeId} {v : Value} {L' : Own}
  (ha : ev F xa = some (.pointer (some ⟨b, o, none⟩))) (hv : ev F xv = some v) [tc : CellsOf v cs] (hsz : cs.length = s) (h1 : cs.all one = true)
  (hh : Has L b (.cells c.toArray T (0, 0))) (hp : PutAt c o cs c') (hu : Upd L b (.cells c.toArray T (0, 0)) (.cells c'.toArray T (0, 0)) L')
  (h : K F D M L') : Tr P n none (.store t xa xv) ty Q F D G M L K := tr_skip (fun c h => by cases h) fun w ρ hw hρ => by
 obtain ⟨j, hj, _, hjs, _⟩ := ti.parts
 have hg := (hw.own _ hh.mem).1
 refine ⟨w.setRow b c'.toArray, M, L', ?_, hw.upd hu rfl rfl rfl (setRow_heap w b _ _ T _ hg) (fun i hi => setRow_other w b i _ hi), h⟩
 have := run_storeVar (P := P) hj tc.eq (hsz.trans hjs.symm) h1 hg hp
 simp only [execOp, hρ _ _ ha, hρ _ _ hv, Instr.storeAt, Instr.sureAddr, Sem.run_bind, Sem.run_pure, Result.andThen_ok, this]
theorem e_storeAt {t : TypeId} {xa xv : Operand} {d' : TypeDesc} {z : Value} {b0 : Nat} [ti : TI P t d' z 1 b0] {b o : Nat} {c : List Value} {T : TypeId} {v : Value} {L' : Own}
  (ha : ev F xa = some (.pointer (some ⟨b, o, none⟩))) (hv : ev F xv = some v) [tc : CellsOf v [v]] (h1 : one v = true)
  (hh : Has L b (.cells c.toArray T (0, 0))) (ho : o < c.length) (hu : Upd L b (.cells c.toArray T (0, 0)) (.cells (c.set o v).toArray T (0, 0)) L')
  (h : K F D M L') : Tr P n none (.store t xa xv) ty Q F D G M L K :=
 e_store (cs := [v]) (c' := c.set o v) ha hv rfl (by simpa using h1) hh ⟨by
  rw [List.set_eq_take_append_cons_drop]; simp [ho], by simp; omega⟩ hu h
end
end Go.Eng
namespace Go.Eng
structure Row (M : Mem) (s : Nat) (A : Option Addr) (n cap : Nat) (vs : List Value) : Prop where
 len : vs.length = n * s
 le : n ≤ cap
 max : cap ≤ 9223372036854775807
 at_ : 0 < n → ∃ b o c T fr, A = some ⟨b, o, none⟩ ∧ M b = some (.cells c T fr) ∧ ∀ j v, vs[j]? = some v → c[o + j]? = some v
theorem Row.mono {M M' : Mem} {s n cap : Nat} {A : Option Addr} {vs : List Value} (h : Row M s A n cap vs) (hle : Le M M') : Row M' s A n cap vs :=
 ⟨h.len, h.le, h.max, fun hn => let ⟨b, o, c, T, fr, e, hm, hc⟩ := h.at_ hn; ⟨b, o, c, T, fr, e, hle _ _ hm, hc⟩⟩
theorem Row.nil (M : Mem) (s : Nat) : Row M s none 0 0 [] := ⟨by simp, Nat.le_refl _, by omega, fun h => by omega⟩
theorem Row.empty (M : Mem) (s : Nat) (A : Option Addr) {cap : Nat} (h : cap ≤ 9223372036854775807) : Row M s A 0 cap [] := ⟨by simp, Nat.zero_le _, h, fun h => by omega⟩
theorem Row.addr {M : Mem} {s n cap : Nat} {A : Option Addr} {vs : List Value} (h : Row M s A n cap vs) (hn : 0 < n) : ∃ b o, A = some ⟨b, o, none⟩ ∧ ∀ L j v, vs[j]? = some v → CellAt M L ⟨b, o + j, none⟩ v := by
 obtain ⟨b, o, c, T, fr, e, hm, hc⟩ := h.at_ hn
 exact ⟨b, o, e, fun L j v hj => CellAt.ro hm (hc j v hj)⟩
theorem Row.cells {M : Mem} {s n cap : Nat} {A : Option Addr} {vs : List Value} (h : Row M s A n cap vs) (hn : 0 < n) : ∃ b o, A = some ⟨b, o, none⟩ ∧ ∀ L, CellsAt M L ⟨b, o, none⟩ vs := by
 obtain ⟨b, o, c, T, fr, e, hm, hc⟩ := h.at_ hn
 exact ⟨b, o, e, fun L w hw j v hj => by rw [add_plain]; exact cell_of (hw.ro _ _ hm) (hc j v hj)⟩
theorem Row.slice {M : Mem} {s n cap l h m : Nat} {A : Option Addr} {vs : List Value} (r : Row M s A n cap vs) (h1 : l ≤ h) (h2 : h ≤ n) (h3 : h ≤ m) (h4 : m ≤ cap) :
  Row M s (sl A l m s) (h - l) (m - l) ((vs.drop (l * s)).take ((h - l) * s)) := by
 have hlen := r.len
 refine ⟨?_, by omega, by have := r.max; omega, fun hn => ?_⟩
 ·
  rw [List.length_take, List.length_drop, hlen]
  have : (h - l) * s ≤ n * s - l * s := by rw [← Nat.sub_mul]; exact Nat.mul_le_mul_right _ (by omega)
  omega
 obtain ⟨b, o, c, T, fr, e, hm, hc⟩ := r.at_ (by omega)
 refine ⟨b, o + l * s, c, T, fr, ?_, hm, fun j v hj => ?_⟩
 ·
  unfold sl
  rw [if_neg (by omega), e]
  simp [add_plain]
 rw [List.getElem?_take] at hj
 split at hj
 ·
  rw [List.getElem?_drop] at hj
  have := hc _ v hj
  rwa [← Nat.add_assoc] at this
 cases hj
inductive OwnRow (e : TypeId) (s : Nat) : Option Addr → Nat → Nat → List Value → Own → Prop
 | nil : OwnRow e s none 0 0 [] []
 | row {g n cap : Nat} {pre vs slack : List Value} : vs.length = n * s → (vs ++ slack).length = cap * s → n ≤ cap → cap ≤ 9223372036854775807 →
   OwnRow e s (some ⟨g, pre.length, none⟩) n cap vs [(g, .cells (pre ++ (vs ++ slack)).toArray e (0, 0))]
theorem OwnRow.le {e : TypeId} {s n cap : Nat} {A : Option Addr} {vs : List Value} {E : Own} (h : OwnRow e s A n cap vs E) : n ≤ cap := by cases h <;> omega
theorem OwnRow.len {e : TypeId} {s n cap : Nat} {A : Option Addr} {vs : List Value} {E : Own} (h : OwnRow e s A n cap vs E) : vs.length = n * s := by cases h <;> simp_all
theorem OwnRow.max {e : TypeId} {s n cap : Nat} {A : Option Addr} {vs : List Value} {E : Own} (h : OwnRow e s A n cap vs E) : cap ≤ 9223372036854775807 := by cases h <;> omega
theorem OwnRow.pub {G : World} {M : Mem} {R : Own} {w : World} {e : TypeId} {s n cap : Nat} {A : Option Addr} {vs : List Value} {E : Own} (h : OwnRow e s A n cap vs E) (hw : St G M (E ++ R) w) :
  ∃ M', Le M M' ∧ St G M' R w ∧ Row M' s A n cap vs := by
 cases h with
 | nil => exact ⟨M, Le.refl _, hw, Row.nil _ _⟩
 | @row g n cap pre vs slack h1 h2 h3 h4 =>
  obtain ⟨k1, k2, k3⟩ := St.publish hw
  refine ⟨_, k2, k1, h1, h3, h4, fun _ => ⟨g, pre.length, _, e, (0, 0), rfl, k3, fun j v hj => ?_⟩⟩
  rw [List.getElem?_toArray, List.getElem?_append_right (by omega), Nat.add_sub_cancel_left, List.getElem?_append_left (List.getElem?_eq_some_iff.1 hj).1]
  exact hj
theorem OwnRow.cell {M : Mem} {R : Own} {e : TypeId} {s n cap : Nat} {A : Option Addr} {vs : List Value} {E : Own} (h : OwnRow e s A n cap vs E) (hn : 0 < vs.length) : ∃ g o, A = some ⟨g, o, none⟩ ∧ ∀ j v, vs[j]? = some v → CellAt M (E ++ R) ⟨g, o + j, none⟩ v := by
 cases h with
 | nil => simp at hn
 | @row g n cap pre vs slack h1 h2 h3 h4 =>
  refine ⟨g, pre.length, rfl, fun j v hj => CellAt.ownAt (c := pre ++ (vs ++ slack)) ⟨List.mem_cons_self⟩ ?_⟩
  rw [List.getElem?_append_right (by omega), Nat.add_sub_cancel_left, List.getElem?_append_left (List.getElem?_eq_some_iff.1 hj).1]
  exact hj
theorem OwnRow.made {e : TypeId} {s n b : Nat} {vs : List Value} (h : vs.length = n * s) (h63 : n ≤ 9223372036854775807) : OwnRow e s (some ⟨b, 0, none⟩) n n vs [(b, .cells vs.toArray e (0, 0))] := by
 have := OwnRow.row (e := e) (s := s) (g := b) (n := n) (cap := n) (pre := []) (vs := vs) (slack := []) h (by simpa using h) (Nat.le_refl _) h63
 simpa using this
theorem OwnRow.made0 {e : TypeId} {s n b : Nat} {vs : List Value} (h : vs.length = n * s) (h63 : n ≤ 9223372036854775807) : OwnRow e s (some ⟨b, 0, none⟩) 0 n [] [(b, .cells vs.toArray e (0, 0))] := by
 have := OwnRow.row (e := e) (s := s) (g := b) (n := 0) (cap := n) (pre := []) (vs := []) (slack := vs) (by simp) (by simpa using h) (Nat.zero_le _) h63
 simpa using this
section
variable {P : Program} {n : Nat} {Q : Post} {F : Fr} {D : List Deferred} {G : World} {M : Mem} {L : Own} {d : Option Tmp} {ty : TypeId} {K : Fr → List Deferred → Mem → Own → Prop}
theorem run_firstCells {w : World} {s m : Nat} {A : Option Addr} {c : Nat} {vs : List Value} (hl : vs.length = m * s) (h : 0 < m * s → ∃ ad, A = some ad ∧ ∀ j v, vs[j]? = some v → w.cell? (ad.add j) = some v) :
  (Builtin.firstCells s m (.slice A m c)).run P w = .ok vs.toArray w := by
 cases A with
 | none =>
  have : vs = [] := by
   rcases Nat.eq_zero_or_pos (m * s) with h0 | h0
   ·
    exact List.eq_nil_of_length_eq_zero (by omega)
   obtain ⟨ad, e, _⟩ := h h0; cases e
  subst this
  simp [Builtin.firstCells]
 | some ad =>
  have hc : ∀ j v, vs[j]? = some v → w.cell? (ad.add j) = some v := by
   intro j v hj
   have : 0 < m * s := by have := (List.getElem?_eq_some_iff.1 hj).1; omega
   obtain ⟨ad', e, hh⟩ := h this
   cases e
   exact hh j v hj
  have := run_loadCells_list (P := P) (w := w) ad vs hc
  rw [hl] at this
  simp [Builtin.firstCells, this]
def Src (M : Mem) (L : Own) (s : Nat) (A : Option Addr) (m : Nat) (vs : List Value) : Prop := vs.length = m * s ∧ ∀ w, Sees M L w → 0 < m * s → ∃ ad, A = some ad ∧ ∀ j v, vs[j]? = some v → w.cell? (ad.add j) = some v
theorem Src.row {s m cap : Nat} {A : Option Addr} {vs : List Value} (h : Row M s A m cap vs) : Src M L s A m vs := ⟨h.len, fun w hw hm => by
 rcases Nat.eq_zero_or_pos m with h0 | h0
 ·
  subst h0; simp at hm
 obtain ⟨b, o, e, hc⟩ := h.cells h0
 exact ⟨_, e, hc L w hw⟩⟩
theorem Src.own {s m b : Nat} {vs : List Value} {T : TypeId} {fr : Nat × Nat} (hh : Has L b (.cells vs.toArray T fr)) (hl : vs.length = m * s) : Src M L s (some ⟨b, 0, none⟩) m vs := ⟨hl, fun w hw _ => ⟨_, rfl, fun j v hj => by
 rw [add_plain, Nat.zero_add]; exact cell_of (hw.own _ hh.mem) (by simpa using hj)⟩⟩
theorem Src.nil {s : Nat} {A : Option Addr} : Src M L s A 0 [] := ⟨by simp, fun w hw h => by simp at h⟩
theorem run_append {w : World} {t e : TypeId} {z : Value} {s b0 : Nat} {de : TypeDesc} {z0 : Value} {s0 b00 : Nat} (ti : TI P t (.slice e) z0 s0 b00) (te : TI P e de z s b0) (hz : z.cells.size = s) {E R : Own} {A B : Option Addr} {nn cap m c : Nat} {vs news : List Value} (ho : OwnRow e s A nn cap vs E) (hw : St G M (E ++ R) w)
  (hs : news.length = m * s ∧ (0 < m * s → ∃ ad, B = some ad ∧ ∀ j v, news[j]? = some v → w.cell? (ad.add j) = some v)) (hs0 : 0 < s) (h1 : news.all one = true) (h63 : nn + m ≤ 9223372036854775807) (hby : (nn + m) * b0 ≤ 140737488355328) :
  ∃ A' cap' E' w', (Builtin.append_ #[t, t] ty #[.slice A nn cap, .slice B m c]).run P w = .ok (.slice A' (nn + m) cap') w' ∧ OwnRow e s A' (nn + m) cap' (vs ++ news) E' ∧ St G M (E' ++ R) w' := by
 obtain ⟨j, hj, hjz, hjs, hjb⟩ := te.parts
 subst hjs
 subst hjb
 have hfirst : ∀ dr, (Builtin.firstCells j.size m (.slice B m c)).run P { w with drawn := dr } = .ok news.toArray { w with drawn := dr } := fun dr => run_firstCells hs.1 hs.2
 have holds : ∀ dr, (Builtin.firstCells j.size nn (.slice A nn cap)).run P { w with drawn := dr } = .ok vs.toArray { w with drawn := dr } := by
  intro dr
  refine run_firstCells ho.len fun hp => ?_
  cases ho with
  | nil => simp at hp
  | @row g _ _ pre _ slack k1 k2 k3 k4 =>
   refine ⟨_, rfl, fun i v hi => ?_⟩
   rw [add_plain]
   refine cell_of (w := { w with drawn := dr }) (hw.own _ List.mem_cons_self).1 ?_
   rw [List.getElem?_toArray, List.getElem?_append_right (by omega), Nat.add_sub_cancel_left, List.getElem?_append_left (List.getElem?_eq_some_iff.1 hi).1]
   exact hi
 by_cases hroom : nn + m ≤ cap
 ·
  cases ho with
  | nil =>
   obtain rfl : m = 0 := by omega
   have hn : news = [] := List.eq_nil_of_length_eq_zero (by simpa using hs.1)
   subst hn
   refine ⟨none, 0, [], w, ?_, by simpa using OwnRow.nil, hw⟩
   have := hfirst w.drawn
   simp [Builtin.append_, run_underlying ti.und, sizeOf, typeInfo, hj, Builtin.lenOf, this]
  | @row g _ _ pre _ slack k1 k2 k3 k4 =>
   have hg := (hw.own _ (show (g, Obj.cells (pre ++ (vs ++ slack)).toArray e (0, 0)) ∈ _ from List.mem_cons_self)).1
   simp only [List.length_append] at k2
   have hle : nn * j.size + m * j.size ≤ cap * j.size := by rw [← Nat.add_mul]; exact Nat.mul_le_mul_right _ hroom
   have hfit : pre.length + nn * j.size + 0 + news.length ≤ (pre ++ (vs ++ slack)).toArray.size := by simp [hs.1]; omega
   have hst := run_storeCells_at P g (pre.length + nn * j.size) e news 0 (pre ++ (vs ++ slack)).toArray w hg hfit (fun u hu => List.all_eq_true.1 h1 u hu)
   simp only [Nat.add_zero] at hst
   have hrow : ((pre ++ (vs ++ slack)).toArray.toList.take (pre.length + nn * j.size) ++ news ++ (pre ++ (vs ++ slack)).toArray.toList.drop (pre.length + nn * j.size + news.length)) = pre ++ ((vs ++ news) ++ slack.drop news.length) := by
    simp only []
    rw [List.take_append, List.take_of_length_le (by omega : pre.length ≤ _), Nat.add_sub_cancel_left, ← k1, List.take_left, Nat.add_assoc, List.drop_append, List.drop_of_length_le (by omega : pre.length ≤ _), Nat.add_sub_cancel_left, List.drop_append, List.drop_of_length_le (by omega : vs.length ≤ _), Nat.add_sub_cancel_left]
    simp
   rw [hrow] at hst
   refine ⟨some ⟨g, pre.length, none⟩, cap, [(g, .cells (pre ++ ((vs ++ news) ++ slack.drop news.length)).toArray e (0, 0))], w.setRow g (pre ++ ((vs ++ news) ++ slack.drop news.length)).toArray, ?_, ?_, ?_⟩
   ·
    have := hfirst w.drawn
    simp [Builtin.append_, run_underlying ti.und, sizeOf, typeInfo, hj, Builtin.lenOf, hroom, this, add_plain, hst]
   ·
    refine OwnRow.row (by simp [k1, hs.1, Nat.add_mul]) ?_ hroom k4
    simp [hs.1]; omega
   exact St.set hw rfl rfl rfl (setRow_heap w g _ _ e _ hg) (fun i hi => setRow_other w g i _ hi)
 have h63' : ¬ ((nn + m : Nat) : Int) > IntKind.i64.max := by simp [IntKind.max, IntKind.signed, IntKind.bits]; omega
 have hfit : ¬ (Builtin.nextslicecap (nn + m) cap * j.bytes > 2 ^ 48) := by
  have := growslice_fits (need := nn + m) (old := cap) (bytes := j.bytes) (by omega) hby
  omega
 have hcap := grownCap_ge w (nn + m) cap e
 have hcapm := grownCap_le_maxLen w (nn + m) cap e (by simp only [maxLen]; omega)
 simp only [maxLen] at hcapm
 refine ⟨some ⟨w.heap.size, 0, none⟩, grownCap w (nn + m) cap e, [(w.heap.size, .cells ([] ++ ((vs ++ news) ++ (Builtin.zeroCells z.cells (grownCap w (nn + m) cap e - (nn + m))).toList)).toArray e (0, 0))],
  { w with drawn := w.drawn + 1, heap := w.heap.push (.cells ([] ++ ((vs ++ news) ++ (Builtin.zeroCells z.cells (grownCap w (nn + m) cap e - (nn + m))).toList)).toArray e (0, 0)) }, ?_, ?_, ?_⟩
 ·
  have h1 : (Builtin.firstCells j.size m (.slice B m c)).run P w.drew = .ok news.toArray w.drew := hfirst (w.drawn + 1)
  have h2 : (Builtin.firstCells j.size nn (.slice A nn cap)).run P w.drew = .ok vs.toArray w.drew := holds (w.drawn + 1)
  have k1 : ¬ (9223372036854775807 < ((nn : Int) + (m : Int))) := by omega
  have k2 : ¬ (281474976710656 < Builtin.nextslicecap (nn + m) cap * j.bytes) := by omega
  simp [Builtin.append_, run_underlying ti.und, sizeOf, typeInfo, zeroValue, hj, hjz, Builtin.lenOf, hroom, k1, k2, Question.forced, h1, h2, newRow, grownCap]
  generalize Builtin.zeroCells z.cells _ = Z
  have hz' : vs.toArray ++ (news.toArray ++ Z) = vs.toArray ++ (news.toArray ++ Z.toList.toArray) := by simp
  have hz2 : vs.toArray ++ (news.toArray ++ Z) = (vs ++ (news ++ Z.toList)).toArray := by apply Array.ext'; simp
  first
   | (rw [hz2]; rfl)
   | (simp [World.alloc, World.drew]; done)
 ·
  have := OwnRow.row (e := e) (s := j.size) (g := w.heap.size) (n := nn + m) (cap := grownCap w (nn + m) cap e) (pre := []) (vs := vs ++ news) (slack := (Builtin.zeroCells z.cells (grownCap w (nn + m) cap e - (nn + m))).toList)
   (by simp [ho.len, hs.1, Nat.add_mul]) (by
    have : (Builtin.zeroCells z.cells (grownCap w (nn + m) cap e - (nn + m))).size = (grownCap w (nn + m) cap e - (nn + m)) * j.size := by rw [size_zeroCells, hz]
    simp only [List.length_append, ho.len, hs.1, Array.length_toList, this, ← Nat.add_mul]
    congr 1; omega) hcap (by omega)
  exact this
 have hd : St G M R w := hw.dropAll
 exact St.alloc hd rfl rfl rfl rfl
theorem e_append {t : TypeId} {e : TypeId} {x y : Operand} {z z0 : Value} {s b0 s0 b00 : Nat} {de : TypeDesc} [ti : TI P t (.slice e) z0 s0 b00] [te : TI P e de z s b0] (hz : z.cells.size = s ∧ 0 < s) {E R : Own} {A B : Option Addr} {nn cap m c : Nat} {vs news : List Value}
  (hx : ev F x = some (.slice A nn cap)) (hy : ev F y = some (.slice B m c)) (ho : OwnRow e s A nn cap vs E) (hs : Src M (E ++ R) s B m news) (h1 : news.all one = true) (h63 : nn + m ≤ 9223372036854775807) (hby : (nn + m) * b0 ≤ 140737488355328)
  (h : ∀ A' cap' E', OwnRow e s A' (nn + m) cap' (vs ++ news) E' → K (putF d (.slice A' (nn + m) cap') F) D M (E' ++ R)) :
  Tr P n d (.call ⟨.builtin .append, #[x, y], #[t, t]⟩) ty Q F D G M (E ++ R) K := tr_value (fun c h => by cases h) fun w ρ hw hρ => by
 obtain ⟨A', cap', E', w', hr, hO, hS⟩ := run_append (P := P) (ty := ty) ti te hz.1 ho hw (B := B) (m := m) (c := c) (news := news) ⟨hs.1, hs.2 w hw.sees⟩ hz.2 h1 h63 hby
 refine ⟨_, w', M, _, ?_, hS, h A' cap' E' hO⟩
 simp only [execOp, resolve, invoke, builtin, Sem.run_bind, Sem.run_pure, Result.andThen_ok, List.map_toArray, List.map_cons, List.map_nil, hρ _ _ hx, hρ _ _ hy, hr]
end
section
variable {P : Program} {n : Nat} {Q : Post} {F : Fr} {D : List Deferred} {G : World} {M : Mem} {R : Own} {ops : Array Oper} {rest : List Oper}
theorem T.pubRow {c : Code} {e : TypeId} {s nn cap : Nat} {A : Option Addr} {vs : List Value} {E : Own} (ho : OwnRow e s A nn cap vs E) (h : ∀ M', Le M M' → Row M' s A nn cap vs → T P n c Q F D G M' R) : T P n c Q F D G M (E ++ R) := fun hok w a hw ha =>
 let ⟨M', h1, h2, h3⟩ := ho.pub hw
 h M' h1 h3 hok w a h2 ha
theorem TL.pubRow {e : TypeId} {s nn cap : Nat} {A : Option Addr} {vs : List Value} {E : Own} (ho : OwnRow e s A nn cap vs E) (h : ∀ M', Le M M' → Row M' s A nn cap vs → TL P n ops rest Q F D G M' R) : TL P n ops rest Q F D G M (E ++ R) := fun hok w a hw ha =>
 let ⟨M', h1, h2, h3⟩ := ho.pub hw
 h M' h1 h3 hok w a h2 ha
theorem TQ.pubRow {x : Exit} {e : TypeId} {s nn cap : Nat} {A : Option Addr} {vs : List Value} {E : Own} (ho : OwnRow e s A nn cap vs E) (h : ∀ M', Le M M' → Row M' s A nn cap vs → TQ Q x F D G M' R) : TQ Q x F D G M (E ++ R) := fun w hw =>
 let ⟨M', h1, h2, h3⟩ := ho.pub hw
 h M' h1 h3 w h2
end
end Go.Eng
