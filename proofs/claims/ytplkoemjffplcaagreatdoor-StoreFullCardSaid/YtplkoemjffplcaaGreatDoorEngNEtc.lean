/-
Contracts of functions, each proved by a walk through its code.
-/
import Derived.Test.YtplkoemjffplcaaGreatDoorEngIEtc
import Derived.MapKept
import Derived.Test.YtplkoemjffplcaaGreatDoorSlotsPureEtc
import Derived.Test.YtplkoemjffplcaaGreatDoorHss14Etc
import Derived.Test.YtplkoemjffplcaaGreatDoorLaw11Etc
import Derived.Test.YtplkoemjffplcaaGreatDoorSlots4Etc
import Derived.Test.YtplkoemjffplcaaGreatDoorHss7Etc
import Derived.Test.YtplkoemjffplcaaGreatDoorTypes1Etc
import Derived.Test.YtplkoemjffplcaaGreatDoorShakeEtc
import Derived.Test.YtplkoemjffplcaaGreatDoorEngWEtc
set_option linter.all false
namespace Go.Eng
def mEnts : List (ByteArray × Value) → Nat → List MapEntry
 | [], _ => []
 | kv :: r, i => ⟨.string kv.1, kv.2, i⟩ :: mEnts r (i + 1)
def mapO (kvs : List (ByteArray × Value)) : Obj := .map (mEnts kvs 0).toArray kvs.length
def mFind : List (ByteArray × Value) → ByteArray → Nat → Option (Nat × Value)
 | [], _, _ => none
 | kv :: r, k, j => if kv.1 = k then some (j, kv.2) else mFind r k (j + 1)
def mSet : List (ByteArray × Value) → ByteArray → Value → List (ByteArray × Value)
 | [], k, v => [(k, v)]
 | kv :: r, k, v => if kv.1 = k then (k, v) :: r else kv :: mSet r k v
theorem mEnts_get : ∀ (kvs : List (ByteArray × Value)) (i j : Nat), (mEnts kvs i)[j]? = (kvs[j]?).map fun kv => ⟨.string kv.1, kv.2, i + j⟩
 | [], _, _ => rfl
 | kv :: r, i, 0 => by simp [mEnts]
 | kv :: r, i, j + 1 => by simp only [mEnts, List.getElem?_cons_succ, mEnts_get r (i + 1) j]; congr 2; funext x; congr 1; omega
theorem mEnts_mem {kvs : List (ByteArray × Value)} {i : Nat} {e : MapEntry} (h : e ∈ mEnts kvs i) : ∃ j kv, kvs[j]? = some kv ∧ e = ⟨.string kv.1, kv.2, i + j⟩ := by
 obtain ⟨j, hj, he⟩ := List.mem_iff_getElem.1 h
 have h1 : (mEnts kvs i)[j]? = some e := by rw [List.getElem?_eq_getElem hj, he]
 rw [mEnts_get] at h1
 cases hk : kvs[j]? with
 | none => rw [hk] at h1; cases h1
 | some kv => rw [hk] at h1; exact ⟨j, kv, hk, (Option.some.inj h1).symm⟩
theorem mEnts_app : ∀ (kvs : List (ByteArray × Value)) (r : List (ByteArray × Value)) (i : Nat), mEnts (kvs ++ r) i = mEnts kvs i ++ mEnts r (i + kvs.length)
 | [], r, i => by simp [mEnts]
 | kv :: l, r, i => by simp only [List.cons_append, mEnts, mEnts_app l r (i + 1), List.length_cons]; congr 3; omega
theorem findNow_eq (k : ByteArray) : ∀ (kvs : List (ByteArray × Value)) (i j : Nat), Instr.findNow .string (.string k) (mEnts kvs i) j = some (mFind kvs k j)
 | [], _, _ => rfl
 | kv :: r, i, j => by
  obtain ⟨q, hq, hiff⟩ := MapKept.sameNow_of_keys (d := .string) (a := .string k) (b := .string kv.1) trivial trivial
  have h2 : (.string k = Value.string kv.1) ↔ kv.1 = k := ⟨fun h => (Value.string.inj h).symm, fun h => by rw [h]⟩
  by_cases h : kv.1 = k
  ·
   have : q = true := hiff.2 (h2.2 h)
   subst this
   simp only [mEnts, Instr.findNow, hq, mFind, if_pos h]
  have : q = false := by
   cases q with
   | false => rfl
   | true => exact absurd (h2.1 (hiff.1 rfl)) h
  subst this
  simp only [mEnts, Instr.findNow, hq, mFind, if_neg h, findNow_eq k r]
theorem mSet_none {k : ByteArray} {v : Value} : ∀ {kvs : List (ByteArray × Value)} {j : Nat}, mFind kvs k j = none → mSet kvs k v = kvs ++ [(k, v)]
 | [], _, _ => rfl
 | kv :: r, j, h => by
  by_cases hk : kv.1 = k
  ·
   simp [mFind, hk] at h
  simp only [mFind, if_neg hk] at h
  simp [mSet, hk, mSet_none h]
theorem mSet_len {k : ByteArray} {v : Value} : ∀ {kvs : List (ByteArray × Value)} {j : Nat} {p : Nat × Value}, mFind kvs k j = some p → (mSet kvs k v).length = kvs.length
 | [], _, _, h => by cases h
 | kv :: r, j, p, h => by
  by_cases hk : kv.1 = k
  ·
   simp [mSet, hk]
  simp only [mFind, if_neg hk] at h
  simp [mSet, hk, mSet_len h]
theorem mEnts_modify {k : ByteArray} {v : Value} : ∀ {kvs : List (ByteArray × Value)} {j i b : Nat} {u : Value}, mFind kvs k j = some (i, u) → j ≤ i ∧ (mEnts kvs b).modify (i - j) (fun e => { e with key := .string k, val := v }) = mEnts (mSet kvs k v) b ∧ ((mEnts kvs b)[i - j]?).map (·.key) = some (.string k)
 | [], _, _, _, _, h => by cases h
 | kv :: r, j, i, b, u, h => by
  by_cases hk : kv.1 = k
  ·
   simp only [mFind, if_pos hk, Option.some.injEq, Prod.mk.injEq] at h
   obtain ⟨rfl, rfl⟩ := h
   refine ⟨Nat.le_refl _, ?_, ?_⟩
   ·
    simp [mEnts, mSet, hk]
   simp [mEnts, hk]
  simp only [mFind, if_neg hk] at h
  obtain ⟨h1, h2, h3⟩ := mEnts_modify (b := b + 1) h
  have e : i - j = (i - (j + 1)) + 1 := by omega
  refine ⟨by omega, ?_, ?_⟩
  ·
   rw [e, mEnts, mSet, if_neg hk, mEnts, List.modify_succ_cons, h2]
  rw [e, mEnts]; simpa using h3
section
variable {P : Program} {n : Nat} {Q : Post} {F : Fr} {D : List Deferred} {G : World} {M : Mem} {L L' : Own} {d : Option Tmp} {ty : TypeId} {K : Fr → List Deferred → Mem → Own → Prop}
theorem e_makeMap {t : TypeId} (h : ∀ b, K (putF d (.map (some b)) F) D M ((b, mapO []) :: L)) : Tr P n d (.makeMap t none) ty Q F D G M L K := tr_value (fun c h => by cases h) fun w ρ hw hρ => by
 refine ⟨_, _, M, _, ?_, hw.push (mapO []), h _⟩
 simp [execOp, Instr.makeMap, newObj, mapO, mEnts, Sem.run]
theorem y_lookupNo {t : TypeId} {kt et : TypeId} {z z0 zk : Value} {s0 b0 s b sk bk : Nat} {de : TypeDesc} [ti : TI P t (.map kt et) z0 s0 b0] [tk : TI P kt .string zk sk bk] [te : TI P et de z s b] {x y : Operand} {m : Nat} {k : ByteArray} {kvs : List (ByteArray × Value)}
  (hx : ev F x = some (.map (some m))) (hy : ev F y = some (.string k)) (hm : Has L m (mapO kvs)) (hfk : mFind kvs k 0 = none) :
  Yld P (.lookup t x y true) ty F M L (.tuple #[z, .bool false]) := fun w ρ hs hρ => by
 obtain ⟨j, hj, hz, _, _⟩ := te.parts
 have hb := hs.own _ hm.mem
 have hz' : (zeroValue et).run P w = .ok z w := by simp [zeroValue, typeInfo, hj, hz]
 have hg : (getObj m).run P w = .ok (.map (mEnts kvs 0).toArray kvs.length) w := MapKept.run_getObj_map hb
 have hc := MapKept.run_checkKey (P := P) tk.und (d := .string) (k := .string k) trivial (mEnts kvs 0).toArray.isEmpty 9999 (w := w)
 have hf := MapKept.run_findKey (P := P) tk.und (findNow_eq k kvs 0 0) (w := w)
 rw [hfk] at hf
 have hc' : (Instr.checkKey (mEnts kvs 0).isEmpty 10000 kt (.string k)).run P w = .ok () w := by simpa using hc
 simp [execOp, hρ _ _ hx, hρ _ _ hy, Instr.lookup, Sem.run_bind, run_underlying ti.und, hg, hc', hf, hz', Result.andThen]
theorem y_lookupYes {t : TypeId} {kt et : TypeId} {z z0 zk : Value} {s0 b0 s b sk bk : Nat} {de : TypeDesc} [ti : TI P t (.map kt et) z0 s0 b0] [tk : TI P kt .string zk sk bk] [te : TI P et de z s b] {x y : Operand} {m : Nat} {k : ByteArray} {kvs : List (ByteArray × Value)} {i : Nat} {u : Value}
  (hx : ev F x = some (.map (some m))) (hy : ev F y = some (.string k)) (hm : Has L m (mapO kvs)) (hfk : mFind kvs k 0 = some (i, u)) :
  Yld P (.lookup t x y true) ty F M L (.tuple #[u, .bool true]) := fun w ρ hs hρ => by
 have hb := hs.own _ hm.mem
 have hg : (getObj m).run P w = .ok (.map (mEnts kvs 0).toArray kvs.length) w := MapKept.run_getObj_map hb
 have hc := MapKept.run_checkKey (P := P) tk.und (d := .string) (k := .string k) trivial (mEnts kvs 0).toArray.isEmpty 9999 (w := w)
 have hf := MapKept.run_findKey (P := P) tk.und (findNow_eq k kvs 0 0) (w := w)
 rw [hfk] at hf
 have hc' : (Instr.checkKey (mEnts kvs 0).isEmpty 10000 kt (.string k)).run P w = .ok () w := by simpa using hc
 simp [execOp, hρ _ _ hx, hρ _ _ hy, Instr.lookup, Sem.run_bind, run_underlying ti.und, hg, hc', hf, Result.andThen]
theorem e_mapUpdate {t : TypeId} {kt et : TypeId} {z0 zk : Value} {s0 b0 sk bk : Nat} [ti : TI P t (.map kt et) z0 s0 b0] [tk : TI P kt .string zk sk bk] {x y v : Operand} {m : Nat} {k : ByteArray} {u : Value} {kvs : List (ByteArray × Value)}
  (hx : ev F x = some (.map (some m))) (hy : ev F y = some (.string k)) (hv : ev F v = some u) (hm : Has L m (mapO kvs)) (hu : Upd L m (mapO kvs) (mapO (mSet kvs k u)) L')
  (h : K F D M L') : Tr P n none (.mapUpdate t x y v) ty Q F D G M L K := tr_skip (fun c h => by cases h) fun w ρ hw hρ => by
 have hb := (hw.own _ hm.mem).1
 have hg : (getObj m).run P w = .ok (.map (mEnts kvs 0).toArray kvs.length) w := MapKept.run_getObj_map hb
 have hc := MapKept.run_checkKey (P := P) tk.und (d := .string) (k := .string k) trivial false 9999 (w := w)
 have hf := MapKept.run_findKey (P := P) tk.und (findNow_eq k kvs 0 0) (w := w)
 have hst := MapKept.run_keyThatStays (P := P) (w := w) (d := .string) (k := .string k) trivial
 obtain ⟨h1, h2⟩ := MapKept.heap_set (o' := mapO (mSet kvs k u)) hb
 refine ⟨{ w with heap := w.heap.setIfInBounds m (mapO (mSet kvs k u)) }, M, L', ?_, hw.upd hu rfl rfl rfl h1 h2, h⟩
 have hs : ∀ o, (setObj m o).run P w = .ok () { w with heap := w.heap.setIfInBounds m o } := fun o => MapKept.run_setObj_map o hb
 cases hfk : mFind kvs k 0 with
 | none =>
  rw [hfk] at hf
  have e : mapO (mSet kvs k u) = .map ((mEnts kvs 0).toArray.push ⟨.string k, u, kvs.length⟩) (kvs.length + 1) := by
   rw [mSet_none hfk, mapO, mEnts_app, List.length_append]; simp [mEnts]
  rw [e]
  simp [execOp, hρ _ _ hx, hρ _ _ hy, hρ _ _ hv, Instr.mapUpdate, Sem.run_bind, run_underlying ti.und, hg, hc, hf, hs, Result.andThen]
 | some p =>
  obtain ⟨i, u0⟩ := p
  rw [hfk] at hf
  obtain ⟨_, h3, h4⟩ := mEnts_modify (b := 0) (v := u) hfk
  rw [Nat.sub_zero] at h3 h4
  have e : mapO (mSet kvs k u) = .map ((mEnts kvs 0).toArray.modify i fun e => { e with key := .string k, val := u }) kvs.length := by
   rw [mapO, mSet_len hfk, ← h3]; simp
  rw [e]
  simp [execOp, hρ _ _ hx, hρ _ _ hy, hρ _ _ hv, Instr.mapUpdate, Sem.run_bind, run_underlying ti.und, hg, hc, hf, h4, hst, hs, Result.andThen]
def itO (m n : Nat) (seen : List Nat) : Obj := .mapIter (some m) n seen.toArray n
theorem e_range {t : TypeId} {kt et : TypeId} {z0 : Value} {s0 b0 : Nat} [ti : TI P t (.map kt et) z0 s0 b0] {x : Operand} {m : Nat} {kvs : List (ByteArray × Value)}
  (hx : ev F x = some (.map (some m))) (hm : Has L m (mapO kvs)) (h : ∀ b, K (putF d (.pointer (some ⟨b, 0, none⟩)) F) D M ((b, itO m kvs.length []) :: L)) :
  Tr P n d (.range t x) ty Q F D G M L K := tr_value (fun c h => by cases h) fun w ρ hw hρ => by
 have hb := (hw.own _ hm.mem).1
 have hg : (getObj m).run P w = .ok (.map (mEnts kvs 0).toArray kvs.length) w := MapKept.run_getObj_map hb
 refine ⟨_, _, M, _, ?_, hw.push (itO m kvs.length []), h _⟩
 simp [execOp, hρ _ _ hx, Instr.range, run_underlying ti.und, hg, Result.andThen, newObj, itO, Sem.run]
theorem y_entry {x : Operand} {m r : Nat} {kvs : List (ByteArray × Value)} {seen : List Nat} {i : Nat} {kv : ByteArray × Value} (hx : ev F x = some (.pointer (some ⟨r, 0, none⟩))) (hm : Has L m (mapO kvs)) (hr : Has L r (itO m kvs.length (seen ++ [i]))) (hi : kvs[i]? = some kv) :
  Yld P (.entry x) ty F M L (.tuple #[.string kv.1, kv.2]) := fun w ρ hs hρ => by
 have hb : w.heap[m]? = some (mapO kvs) := hs.own _ hm.mem
 have hrr : w.heap[r]? = some (itO m kvs.length (seen ++ [i])) := hs.own _ hr.mem
 have hf : (mEnts kvs 0).find? (fun e => e.born == i) = some ⟨.string kv.1, kv.2, i⟩ := by
  have h1 : (mEnts kvs 0)[i]? = some ⟨.string kv.1, kv.2, 0 + i⟩ := by rw [mEnts_get, hi]; rfl
  rw [Nat.zero_add] at h1
  rw [List.find?_eq_some_iff_getElem]
  refine ⟨by simp, i, (List.getElem?_eq_some_iff.1 h1).1, (List.getElem?_eq_some_iff.1 h1).2, fun j hj => ?_⟩
  have hj2 : j < (mEnts kvs 0).length := Nat.lt_trans hj (List.getElem?_eq_some_iff.1 h1).1
  obtain ⟨j', kv', h5, h6⟩ := mEnts_mem (List.getElem_mem hj2)
  have h7 : (mEnts kvs 0)[j]? = some (mEnts kvs 0)[j] := List.getElem?_eq_getElem hj2
  rw [mEnts_get] at h7
  cases hk : kvs[j]? with
  | none => rw [hk] at h7; cases h7
  | some kv2 =>
   rw [hk] at h7
   have : (mEnts kvs 0)[j].born = 0 + j := by rw [← Option.some.inj h7]
   simp [this]; omega
 have hg1 : (getObj r).run P w = .ok (itO m kvs.length (seen ++ [i])) w := by simp only [getObj, Sem.run, hrr]; rfl
 have hg2 : (getObj m).run P w = .ok (mapO kvs) w := by simp only [getObj, Sem.run, hb]; rfl
 have hf' : (mEnts kvs 0).toArray.find? (fun e => e.born == i) = some ⟨.string kv.1, kv.2, i⟩ := by rw [← Array.find?_toList]; exact hf
 simp [execOp, hρ _ _ hx, Instr.entry, hg1, hg2, itO, mapO, Result.andThen, hf', hf]
theorem e_next {x : Operand} {m r : Nat} {kvs : List (ByteArray × Value)} {seen : List Nat} (hx : ev F x = some (.pointer (some ⟨r, 0, none⟩))) (hm : Has L m (mapO kvs)) (hr : Has L r (itO m kvs.length seen))
  (h0 : (∀ i, i < kvs.length → i ∈ seen) → K (putF d (.tuple #[.bool false]) F) D M L)
  (h1 : ∀ i kv, i ∉ seen → kvs[i]? = some kv → ∃ L', Upd L r (itO m kvs.length seen) (itO m kvs.length (seen ++ [i])) L' ∧ K (putF d (.tuple #[.bool true, .string kv.1, kv.2]) F) D M L') :
  Tr P n d (.next x false) ty Q F D G M L K := tr_value (fun c h => by cases h) fun w ρ hw hρ => by
 have hb : w.heap[m]? = some (mapO kvs) := (hw.own _ hm.mem).1
 have hrr : w.heap[r]? = some (itO m kvs.length seen) := (hw.own _ hr.mem).1
 have hg1 : (getObj r).run P w = .ok (itO m kvs.length seen) w := by simp only [getObj, Sem.run, hrr]; rfl
 have hg2 : (getObj m).run P w = .ok (mapO kvs) w := by simp only [getObj, Sem.run, hb]; rfl
 have hborn : ∀ e ∈ mEnts kvs 0, e.born < kvs.length := fun e he => by
  obtain ⟨j, kv, h5, h6⟩ := mEnts_mem he
  have := (List.getElem?_eq_some_iff.1 h5).1
  rw [h6]; simp; exact this
 have ht : (!seen.toArray.isEmpty && !(mEnts kvs 0).toArray.isEmpty && (mEnts kvs 0).toArray.all (fun e => decide (e.born ≥ kvs.length))) = false := by
  cases hk : mEnts kvs 0 with
  | nil => simp
  | cons e l =>
   have := hborn e (by rw [hk]; exact List.mem_cons_self)
   simp; intro _ h; omega
 have hl1 : ((mEnts kvs 0).toArray.filter (fun e => !seen.toArray.contains e.born)).filter (fun e => decide (e.born < kvs.length)) = (mEnts kvs 0).toArray.filter (fun e => !seen.toArray.contains e.born) := Array.filter_eq_self.2 (fun e he => by simpa using hborn e (by simp at he; exact he.1))
 have hl2 : ((mEnts kvs 0).toArray.filter (fun e => !seen.toArray.contains e.born)).filter (fun e => decide (e.born ≥ kvs.length)) = #[] := by
  rw [Array.filter_eq_empty_iff]
  intro e he
  have := hborn e (by simp at he; exact he.1)
  simp; omega
 have hmem : ∀ e ∈ (mEnts kvs 0).toArray.filter (fun e => !seen.toArray.contains e.born), ∃ i kv, i ∉ seen ∧ kvs[i]? = some kv ∧ e = ⟨.string kv.1, kv.2, i⟩ := by
  intro e he
  simp at he
  obtain ⟨j, kv, h5, rfl⟩ := mEnts_mem he.1
  exact ⟨j, kv, by simpa using he.2, h5, by simp⟩
 have hall : (mEnts kvs 0).toArray.filter (fun e => !seen.toArray.contains e.born) = #[] → ∀ i, i < kvs.length → i ∈ seen := by
  intro he i hi
  rw [Array.filter_eq_empty_iff] at he
  have h5 : (mEnts kvs 0)[i]? = some ⟨.string kvs[i].1, kvs[i].2, 0 + i⟩ := by rw [mEnts_get, List.getElem?_eq_getElem hi]; rfl
  have := he _ (by simpa using List.mem_of_getElem? h5)
  simpa using this
 generalize hA : (mEnts kvs 0).toArray.filter (fun e => !seen.toArray.contains e.born) = A at hl1 hl2 hmem hall
 by_cases hz : A.size = 0
 ·
  have hA0 : A = #[] := Array.eq_empty_of_size_eq_zero hz
  refine ⟨_, w, M, L, ?_, hw, h0 (hall hA0)⟩
  subst hA0
  have hch : (choose (Question.mapNext 1)).run P w = .ok 0 w := by simp [choose, Sem.run, Question.forced]
  simp only [execOp, hρ _ _ hx, Instr.next, Sem.run_bind, hg1, hg2, itO, mapO, Result.andThen_ok, ht, hA, hl1, hl2, Bool.false_eq_true, if_false]
  simp [hch, Question.forced]
 have hch : ∃ (j : Nat) (w1 : World), j < A.size ∧ St G M L w1 ∧ w1.heap = w.heap ∧ (choose (Question.mapNext A.size)).run P w = .ok j w1 := by
  by_cases hf : A.size ≤ 1
  ·
   exact ⟨0, w, by omega, hw, rfl, by simp [choose, Sem.run, Question.forced, hf]⟩
  exact ⟨_, w.drew, Nat.mod_lt _ (by omega), hw.same rfl rfl rfl rfl, rfl, by
   simp only [choose, Sem.run, Question.forced, decide_eq_true_eq, hf, if_false, Question.cut]
   rfl⟩
 obtain ⟨j, w1, hj, hw1, hheap, hrun⟩ := hch
 obtain ⟨i, kv, hi1, hi2, hi3⟩ := hmem A[j] (Array.getElem_mem hj)
 obtain ⟨L', hup, hk⟩ := h1 i kv hi1 hi2
 have hrr1 : w1.heap[r]? = some (itO m kvs.length seen) := by rw [hheap]; exact hrr
 have hset : (setObj r (itO m kvs.length (seen ++ [i]))).run P w1 = .ok () { w1 with heap := w1.heap.setIfInBounds r (itO m kvs.length (seen ++ [i])) } := run_setObj hrr1 (fun c e f h => by cases h)
 obtain ⟨k1, k2⟩ := MapKept.heap_set (w := w1) (o' := itO m kvs.length (seen ++ [i])) hrr1
 refine ⟨_, { w1 with heap := w1.heap.setIfInBounds r (itO m kvs.length (seen ++ [i])) }, M, L', ?_, hw1.upd hup rfl rfl rfl k1 k2, hk⟩
 have hne : A.isEmpty = false := by simp [Array.isEmpty, hz]
 have hset' : (setObj r (.mapIter (some m) kvs.length (seen ++ [i]).toArray kvs.length)).run P w1 = .ok () { w1 with heap := w1.heap.setIfInBounds r (itO m kvs.length (seen ++ [i])) } := hset
 have hget : A[j]? = some A[j] := Array.getElem?_eq_getElem hj
 simp only [execOp, hρ _ _ hx, Instr.next, Sem.run_bind, hg1, hg2, itO, mapO, Result.andThen_ok, ht, hA, hl1, hl2, hne, Array.append_empty, Bool.false_eq_true, if_false, Array.empty_append, Array.size_map, hrun, Array.getElem?_map, hget, Option.map_some]
 rw [hi3]
 have e1 : (seen.toArray.push i) = (seen ++ [i]).toArray := by simp
 simp only [e1, hset', Result.andThen_ok, Sem.run_bind, Sem.run_pure]
 rfl
end
end Go.Eng
namespace Go.Proofs.YtplkoemjffplcaaGreatDoor
open Go Go.Eng
section
variable {G : World} {M : Mem} {L : Own}
instance (priority := 1150) {e : Nat × Obj} {L T : Own} [h : PermTo L T] : PermTo (e :: L) (e :: T) := ⟨h.perm.cons e⟩
def swrongv (e : Int) : Value := .iface 154 (.agg #[.int .i64 e])
def swrong (e : Int) : List PanicEntry := [{ v := swrongv e, recovered := false }]
theorem smust_spec (t : Bool) (e : Int) :
  Con Tryz.prog 30 #[.bool t, .int .i64 e] G M L (fun v M' L' => M = M' ∧ L = L' ∧ t = true) (fun ch M' L' => M = M' ∧ L = L' ∧ t = false ∧ ch = swrong e) := by
 refine zfn Tryz.func30 rfl 9 rfl <| zr <| mvB rfl <| tl_y rfl (y_not rfl) <| zq <| x_condb rfl (fun hc1 => ?_) (fun hc1 => ?_)
 ·
  refine x_region <| mvI rfl <| tl_y rfl (y_build rfl) <| tl_y rfl (y_makeIface rfl (by intro _ h; cases h)) <| tl_e rfl (e_panic rfl (.ret lR ⟨rfl, rfl, by simpa using hc1, rfl⟩))
 refine x_skip (end0 rfl lR ⟨rfl, rfl, by simpa using hc1⟩)
theorem swell_spec (e : Int) :
  Con Tryz.prog 38 #[.int .i64 e] G M L (fun v M' L' => M = M' ∧ L = L' ∧ e = 0) (fun ch M' L' => M = M' ∧ L = L' ∧ e ≠ 0 ∧ ch = swrong e) := by
 refine zfn Tryz.func38 rfl 6 rfl <| x_region <| mvI rfl <| tl_y rfl (y_eql rfl rfl) <| mvI rfl <| tl_e rfl (e_call rfl (smust_spec _ _) (by
  rintro _ _ _ _ ⟨rfl, rfl, ht, rfl⟩
  exact .retA rfl lR ⟨rfl, rfl, by simpa using ht, rfl⟩) ?_)
 rintro _ _ _ _ ⟨rfl, rfl, ht⟩
 refine tl_nil (end0 rfl lR ⟨rfl, rfl, by simpa using ht⟩)
theorem caughtSB1_ret {b c : Nat} {x : Int} {cs : List Value} : ConD Tryz.prog 97 #[.pointer (some ⟨b, 0, none⟩), .pointer (some ⟨c, 0, none⟩)] .returning G M ((c, .cells #[.int .i64 x] 25 (0, 0)) :: (b, .cells cs.toArray 22 (0, 0)) :: L) (fun u' M' L' => u' = .returning ∧ M' = M ∧ L' = (c, .cells #[.int .i64 x] 25 (0, 0)) :: (b, .cells cs.toArray 22 (0, 0)) :: L) := by
 refine enterRec (args := [_, _]) (fn := Tryz.f97) ⟨Tryz.func97, rfl, by kernel_rfl, by kernel_rfl⟩ 15 rfl rfl <| x_block <| zr <| tl_y rfl (y_eqNilIface rfl rfl) <| zq <| x_true rfl (rfl) <| x_region <| as0 rfl <| tl_nil (.block_normal (.rec_normal lR ⟨rfl, rfl, rfl⟩))
theorem caughtSB1_wrong {b c : Nat} {x e : Int} : ConD Tryz.prog 97 #[.pointer (some ⟨b, 0, none⟩), .pointer (some ⟨c, 0, none⟩)] (.panicking (swrong e)) G M ((c, .cells #[.int .i64 x] 25 (0, 0)) :: (b, .cells #[.slice none 0 0] 22 (0, 0)) :: L)
  (fun u' M' L' => u' = .panicking [{ v := swrongv e, recovered := true }] ∧ M' = M ∧ L' = (c, .cells #[.int .i64 e] 25 (0, 0)) :: (b, .cells #[.slice none 0 0] 22 (0, 0)) :: L) := by
 refine enterRec (args := [_, _]) (fn := Tryz.f97) ⟨Tryz.func97, rfl, by kernel_rfl, by kernel_rfl⟩ 15 rfl rfl <| x_block <| zr <| tl_y rfl (y_eqIfaceNil rfl rfl) <| zq <| x_false rfl (rfl) <| zr <| tl_y rfl (y_assertOk rfl (by intro _ h; cases h)) <| zx rfl <| zx rfl <| zq <| x_true rfl (rfl) <| zr <| tl_e rfl <| e_alloc <| fun b7 => tl_e rfl <| e_sT rfl rfl <| zq <| .s3 0 1 3 rfl rfl rfl <| zr <| as0 rfl <| zq <| x_draw0 4 ((b7, .cells #[.int .i64 e] 154 (0, 0)) :: []) Keeps.mem hmix rfl ?_
 refine pmS 0 rfl rfl <| pFa 1 rfl rfl <| pLd 2 rfl rfl rfl <| ze 3 rfl rfl <| e_sT rfl rfl <| kp ?_
 refine zt 4 rfl rfl <| e_sT rfl rfl <| zz (.block_normal (.dropTo ((c, .cells #[.int .i64 e] 25 (0, 0)) :: (b, .cells #[.slice none 0 0] 22 (0, 0)) :: L) iI (.rec_normal lR ⟨rfl, rfl, rfl⟩)))
theorem caughtSB_spec {wf : FuncId} {first cap : List Value} {K : Option Addr → Nat → Nat → Mem → Own → Prop} {Kp : Int → Mem → Own → Prop}
  (hw : ∀ p q, Con Tryz.prog wf (first ++ [] ++ cap).toArray G M (p :: q :: L) (fun v M' L' => ∃ L1, L' = p :: q :: L1 ∧ ∃ A n c, v = .slice A n c ∧ K A n c M' L1) (fun ch M' L' => ∃ L1, L' = p :: q :: L1 ∧ ∃ e, Kp e M' L1 ∧ ch = swrong e)) :
  Con Tryz.prog 42 #[.func (.func wf) first.toArray cap.toArray] G M L (fun v M' L' => (∃ A n c, v = .tuple #[.slice A n c, .int .i64 0] ∧ K A n c M' L') ∨ (∃ e, v = .tuple #[.slice none 0 0, .int .i64 e] ∧ Kp e M' L')) noPanic := by
 refine enterD (args := [_]) (fn := Tryz.f42) ⟨Tryz.func42, rfl, by kernel_rfl, by kernel_rfl⟩ 7 rfl <| zr <| tl_e rfl <| e_alloc <| fun b1 => tl_e rfl <| e_alloc <| fun b2 => zq <| zr <| tl_y rfl (y_makeFunc rfl rfl) <| tl_e rfl <| e_defer rfl rfl rfl <| zq <| zr <| mvF rfl <| tl_e rfl (e_callv rfl rfl (hw _ _) (by
  rintro _ M1 _ hM1 ⟨L1, rfl, e, hr, rfl⟩
  refine .retD (cap := [_, _]) (args := []) caughtSB1_wrong ?_
  rintro _ M2 _ hM2 ⟨rfl, rfl, rfl⟩
  exact .inl ⟨rfl, _, L1, rv2 rfl (rc_cell (by rfl) rfl (.own iI iI)) (rc_cell (by rfl) rfl (.own iI iI)), iI, hM1, .inr ⟨e, rfl, hr⟩⟩) ?_)
 rintro _ M1 _ hM1 ⟨L1, rfl, A, n, c, rfl, hk⟩
 refine tl_e rfl <| e_sT rfl rfl <| tl_e rfl <| e_sT rfl rfl <| zq <| .s2 2 3 rfl rfl <| x_ret <| .retD (cap := [_, _]) (args := []) (caughtSB1_ret (cs := [.slice A n c])) ?_
 rintro _ M2 _ hM2 ⟨rfl, rfl, rfl⟩
 exact .inl ⟨rfl, _, L1, rv2 rfl (rc_cell (by rfl) rfl (.own iI iI)) (rc_cell (by rfl) rfl (.own iI iI)), iI, hM1, .inl ⟨A, n, c, rfl, hk⟩⟩
theorem caughtST1_ret {b c : Nat} {x : Int} {cs : List Value} : ConD Tryz.prog 83 #[.pointer (some ⟨b, 0, none⟩), .pointer (some ⟨c, 0, none⟩)] .returning G M ((c, .cells #[.int .i64 x] 25 (0, 0)) :: (b, .cells cs.toArray 4 (0, 0)) :: L) (fun u' M' L' => u' = .returning ∧ M' = M ∧ L' = (c, .cells #[.int .i64 x] 25 (0, 0)) :: (b, .cells cs.toArray 4 (0, 0)) :: L) := by
 refine enterRec (args := [_, _]) (fn := Tryz.f83) ⟨Tryz.func83, rfl, by kernel_rfl, by kernel_rfl⟩ 15 rfl rfl <| x_block <| zr <| tl_y rfl (y_eqNilIface rfl rfl) <| zq <| x_true rfl (rfl) <| x_region <| as0 rfl <| tl_nil (.block_normal (.rec_normal lR ⟨rfl, rfl, rfl⟩))
theorem caughtST1_wrong {b c : Nat} {x e : Int} : ConD Tryz.prog 83 #[.pointer (some ⟨b, 0, none⟩), .pointer (some ⟨c, 0, none⟩)] (.panicking (swrong e)) G M ((c, .cells #[.int .i64 x] 25 (0, 0)) :: (b, .cells #[.bool false] 4 (0, 0)) :: L)
  (fun u' M' L' => u' = .panicking [{ v := swrongv e, recovered := true }] ∧ M' = M ∧ L' = (c, .cells #[.int .i64 e] 25 (0, 0)) :: (b, .cells #[.bool false] 4 (0, 0)) :: L) := by
 refine enterRec (args := [_, _]) (fn := Tryz.f83) ⟨Tryz.func83, rfl, by kernel_rfl, by kernel_rfl⟩ 15 rfl rfl <| x_block <| zr <| tl_y rfl (y_eqIfaceNil rfl rfl) <| zq <| x_false rfl (rfl) <| zr <| tl_y rfl (y_assertOk rfl (by intro _ h; cases h)) <| zx rfl <| zx rfl <| zq <| x_true rfl (rfl) <| zr <| tl_e rfl <| e_alloc <| fun b7 => tl_e rfl <| e_sT rfl rfl <| zq <| .s3 0 1 3 rfl rfl rfl <| zr <| as0 rfl <| zq <| x_draw0 4 ((b7, .cells #[.int .i64 e] 154 (0, 0)) :: []) Keeps.mem hmix rfl ?_
 refine pmB 0 rfl rfl <| pFa 1 rfl rfl <| pLd 2 rfl rfl rfl <| ze 3 rfl rfl <| e_sT rfl rfl <| kp ?_
 refine zt 4 rfl rfl <| e_sT rfl rfl <| zz (.block_normal (.dropTo ((c, .cells #[.int .i64 e] 25 (0, 0)) :: (b, .cells #[.bool false] 4 (0, 0)) :: L) iI (.rec_normal lR ⟨rfl, rfl, rfl⟩)))
theorem caughtST_spec {wf : FuncId} {first cap : List Value} {K : Bool → Mem → Own → Prop} {Kp : Int → Mem → Own → Prop}
  (hw : ∀ p q, Con Tryz.prog wf (first ++ [] ++ cap).toArray G M (p :: q :: L) (fun v M' L' => ∃ L1, L' = p :: q :: L1 ∧ ∃ t, v = .bool t ∧ K t M' L1) (fun ch M' L' => ∃ L1, L' = p :: q :: L1 ∧ ∃ e, Kp e M' L1 ∧ ch = swrong e)) :
  Con Tryz.prog 32 #[.func (.func wf) first.toArray cap.toArray] G M L (fun v M' L' => (∃ t, v = .tuple #[.bool t, .int .i64 0] ∧ K t M' L') ∨ (∃ e, v = .tuple #[.bool false, .int .i64 e] ∧ Kp e M' L')) noPanic := by
 refine enterD (args := [_]) (fn := Tryz.f32) ⟨Tryz.func32, rfl, by kernel_rfl, by kernel_rfl⟩ 7 rfl <| zr <| tl_e rfl <| e_alloc <| fun b1 => tl_e rfl <| e_alloc <| fun b2 => zq <| zr <| tl_y rfl (y_makeFunc rfl rfl) <| tl_e rfl <| e_defer rfl rfl rfl <| zq <| zr <| mvF rfl <| tl_e rfl (e_callv rfl rfl (hw _ _) (by
  rintro _ M1 _ hM1 ⟨L1, rfl, e, hr, rfl⟩
  refine .retD (cap := [_, _]) (args := []) caughtST1_wrong ?_
  rintro _ M2 _ hM2 ⟨rfl, rfl, rfl⟩
  exact .inl ⟨rfl, _, L1, rv2 rfl (rc_cell (by rfl) rfl (.own iI iI)) (rc_cell (by rfl) rfl (.own iI iI)), iI, hM1, .inr ⟨e, rfl, hr⟩⟩) ?_)
 rintro _ M1 _ hM1 ⟨L1, rfl, t, rfl, hk⟩
 refine tl_e rfl <| e_sT rfl rfl <| tl_e rfl <| e_sT rfl rfl <| zq <| .s2 2 3 rfl rfl <| x_ret <| .retD (cap := [_, _]) (args := []) (caughtST1_ret (cs := [.bool t])) ?_
 rintro _ M2 _ hM2 ⟨rfl, rfl, rfl⟩
 exact .inl ⟨rfl, _, L1, rv2 rfl (rc_cell (by rfl) rfl (.own iI iI)) (rc_cell (by rfl) rfl (.own iI iI)), iI, hM1, .inl ⟨t, rfl, hk⟩⟩
theorem caughtSP1_ret {b c : Nat} {x : Int} {cs : List Value} : ConD Tryz.prog 78 #[.pointer (some ⟨b, 0, none⟩), .pointer (some ⟨c, 0, none⟩)] .returning G M ((c, .cells #[.int .i64 x] 25 (0, 0)) :: (b, .cells cs.toArray 28 (0, 0)) :: L) (fun u' M' L' => u' = .returning ∧ M' = M ∧ L' = (c, .cells #[.int .i64 x] 25 (0, 0)) :: (b, .cells cs.toArray 28 (0, 0)) :: L) := by
 refine enterRec (args := [_, _]) (fn := Tryz.f78) ⟨Tryz.func78, rfl, by kernel_rfl, by kernel_rfl⟩ 15 rfl rfl <| x_block <| zr <| tl_y rfl (y_eqNilIface rfl rfl) <| zq <| x_true rfl (rfl) <| x_region <| as0 rfl <| tl_nil (.block_normal (.rec_normal lR ⟨rfl, rfl, rfl⟩))
theorem caughtSP1_wrong {b c : Nat} {x e : Int} : ConD Tryz.prog 78 #[.pointer (some ⟨b, 0, none⟩), .pointer (some ⟨c, 0, none⟩)] (.panicking (swrong e)) G M ((c, .cells #[.int .i64 x] 25 (0, 0)) :: (b, .cells #[.pointer none] 28 (0, 0)) :: L)
  (fun u' M' L' => u' = .panicking [{ v := swrongv e, recovered := true }] ∧ M' = M ∧ L' = (c, .cells #[.int .i64 e] 25 (0, 0)) :: (b, .cells #[.pointer none] 28 (0, 0)) :: L) := by
 refine enterRec (args := [_, _]) (fn := Tryz.f78) ⟨Tryz.func78, rfl, by kernel_rfl, by kernel_rfl⟩ 15 rfl rfl <| x_block <| zr <| tl_y rfl (y_eqIfaceNil rfl rfl) <| zq <| x_false rfl (rfl) <| zr <| tl_y rfl (y_assertOk rfl (by intro _ h; cases h)) <| zx rfl <| zx rfl <| zq <| x_true rfl (rfl) <| zr <| tl_e rfl <| e_alloc <| fun b7 => tl_e rfl <| e_sT rfl rfl <| zq <| .s3 0 1 3 rfl rfl rfl <| zr <| as0 rfl <| zq <| x_draw0 4 ((b7, .cells #[.int .i64 e] 154 (0, 0)) :: []) Keeps.mem hmix rfl ?_
 refine pmP 0 rfl rfl <| pFa 1 rfl rfl <| pLd 2 rfl rfl rfl <| ze 3 rfl rfl <| e_sT rfl rfl <| kp ?_
 refine zt 4 rfl rfl <| e_sT rfl rfl <| zz (.block_normal (.dropTo ((c, .cells #[.int .i64 e] 25 (0, 0)) :: (b, .cells #[.pointer none] 28 (0, 0)) :: L) iI (.rec_normal lR ⟨rfl, rfl, rfl⟩)))
theorem caughtSP_spec {wf : FuncId} {first cap : List Value} {K : Nat → Mem → Own → Prop} {Kp : Int → Mem → Own → Prop}
  (hw : ∀ p q, Con Tryz.prog wf (first ++ [] ++ cap).toArray G M (p :: q :: L) (fun v M' L' => ∃ L1, L' = p :: q :: L1 ∧ ∃ p, v = .pointer (some ⟨p, 0, none⟩) ∧ K p M' L1) (fun ch M' L' => ∃ L1, L' = p :: q :: L1 ∧ ∃ e, Kp e M' L1 ∧ ch = swrong e)) :
  Con Tryz.prog 28 #[.func (.func wf) first.toArray cap.toArray] G M L (fun v M' L' => (∃ p, v = .tuple #[.pointer (some ⟨p, 0, none⟩), .int .i64 0] ∧ K p M' L') ∨ (∃ e, v = .tuple #[.pointer none, .int .i64 e] ∧ Kp e M' L')) noPanic := by
 refine enterD (args := [_]) (fn := Tryz.f28) ⟨Tryz.func28, rfl, by kernel_rfl, by kernel_rfl⟩ 7 rfl <| zr <| tl_e rfl <| e_alloc <| fun b1 => tl_e rfl <| e_alloc <| fun b2 => zq <| zr <| tl_y rfl (y_makeFunc rfl rfl) <| tl_e rfl <| e_defer rfl rfl rfl <| zq <| zr <| mvF rfl <| tl_e rfl (e_callv rfl rfl (hw _ _) (by
  rintro _ M1 _ hM1 ⟨L1, rfl, e, hr, rfl⟩
  refine .retD (cap := [_, _]) (args := []) caughtSP1_wrong ?_
  rintro _ M2 _ hM2 ⟨rfl, rfl, rfl⟩
  exact .inl ⟨rfl, _, L1, rv2 rfl (rc_cell (by rfl) rfl (.own iI iI)) (rc_cell (by rfl) rfl (.own iI iI)), iI, hM1, .inr ⟨e, rfl, hr⟩⟩) ?_)
 rintro _ M1 _ hM1 ⟨L1, rfl, p, rfl, hk⟩
 refine tl_e rfl <| e_sT rfl rfl <| tl_e rfl <| e_sT rfl rfl <| zq <| .s2 2 3 rfl rfl <| x_ret <| .retD (cap := [_, _]) (args := []) (caughtSP1_ret (cs := [.pointer (some ⟨p, 0, none⟩)])) ?_
 rintro _ M2 _ hM2 ⟨rfl, rfl, rfl⟩
 exact .inl ⟨rfl, _, L1, rv2 rfl (rc_cell (by rfl) rfl (.own iI iI)) (rc_cell (by rfl) rfl (.own iI iI)), iI, hM1, .inl ⟨p, rfl, hk⟩⟩
abbrev parsC (nm : List UInt8) (x y z : SlV) : List Value := [.string (sB nm), x.v, y.v, z.v]
theorem caughtSQ1_ret {b c : Nat} {x : Int} {cs : List Value} : ConD Tryz.prog 114 #[.pointer (some ⟨b, 0, none⟩), .pointer (some ⟨c, 0, none⟩)] .returning G M ((c, .cells #[.int .i64 x] 25 (0, 0)) :: (b, .cells cs.toArray 97 (0, 0)) :: L) (fun u' M' L' => u' = .returning ∧ M' = M ∧ L' = (c, .cells #[.int .i64 x] 25 (0, 0)) :: (b, .cells cs.toArray 97 (0, 0)) :: L) := by
 refine enterRec (args := [_, _]) (fn := Tryz.f114) ⟨Tryz.func114, rfl, by kernel_rfl, by kernel_rfl⟩ 15 rfl rfl <| x_block <| zr <| tl_y rfl (y_eqNilIface rfl rfl) <| zq <| x_true rfl (rfl) <| x_region <| as0 rfl <| tl_nil (.block_normal (.rec_normal lR ⟨rfl, rfl, rfl⟩))
theorem caughtSQ1_wrong {b c : Nat} {x e : Int} : ConD Tryz.prog 114 #[.pointer (some ⟨b, 0, none⟩), .pointer (some ⟨c, 0, none⟩)] (.panicking (swrong e)) G M ((c, .cells #[.int .i64 x] 25 (0, 0)) :: (b, .cells #[.string ⟨#[]⟩, .slice none 0 0, .slice none 0 0, .slice none 0 0] 97 (0, 0)) :: L)
  (fun u' M' L' => u' = .panicking [{ v := swrongv e, recovered := true }] ∧ M' = M ∧ L' = (c, .cells #[.int .i64 e] 25 (0, 0)) :: (b, .cells #[.string ⟨#[]⟩, .slice none 0 0, .slice none 0 0, .slice none 0 0] 97 (0, 0)) :: L) := by
 refine enterRec (args := [_, _]) (fn := Tryz.f114) ⟨Tryz.func114, rfl, by kernel_rfl, by kernel_rfl⟩ 15 rfl rfl <| x_block <| zr <| tl_y rfl (y_eqIfaceNil rfl rfl) <| zq <| x_false rfl (rfl) <| zr <| tl_y rfl (y_assertOk rfl (by intro _ h; cases h)) <| zx rfl <| zx rfl <| zq <| x_true rfl (rfl) <| zr <| tl_e rfl <| e_alloc <| fun b7 => tl_e rfl <| e_sT rfl rfl <| zq <| .s3 0 1 3 rfl rfl rfl <| zr <| tl_e rfl <| e_alloc <| fun b8 => zq <| x_draw0 4 ((b7, .cells #[.int .i64 e] 154 (0, 0)) :: (b8, .cells #[.string ⟨#[]⟩, .slice none 0 0, .slice none 0 0, .slice none 0 0] 97 (0, 0)) :: []) Keeps.mem hmix rfl ?_
 refine zy 0 rfl rfl (y_lg rfl rfl) <| pFa 1 rfl rfl <| pLd 2 rfl rfl rfl <| ze 3 rfl rfl <| e_sT rfl rfl <| kp ?_
 refine zt 4 rfl rfl <| e_sT rfl rfl <| zz (.block_normal (.dropTo ((c, .cells #[.int .i64 e] 25 (0, 0)) :: (b, .cells #[.string ⟨#[]⟩, .slice none 0 0, .slice none 0 0, .slice none 0 0] 97 (0, 0)) :: L) iI (.rec_normal lR ⟨rfl, rfl, rfl⟩)))
theorem caughtSQ_spec {wf : FuncId} {first cap : List Value} {K : List UInt8 → SlV → SlV → SlV → Mem → Own → Prop} {Kp : Int → Mem → Own → Prop}
  (hw : ∀ p q, Con Tryz.prog wf (first ++ [] ++ cap).toArray G M (p :: q :: L) (fun v M' L' => ∃ L1, L' = p :: q :: L1 ∧ ∃ nm x y z, v = .agg (List.toArray (parsC nm x y z)) ∧ K nm x y z M' L1) (fun ch M' L' => ∃ L1, L' = p :: q :: L1 ∧ ∃ e, Kp e M' L1 ∧ ch = swrong e)) :
  Con Tryz.prog 62 #[.func (.func wf) first.toArray cap.toArray] G M L (fun v M' L' => (∃ nm x y z, v = .tuple #[.agg (List.toArray (parsC nm x y z)), .int .i64 0] ∧ K nm x y z M' L') ∨ (∃ e, v = .tuple #[.agg #[.string ⟨#[]⟩, .slice none 0 0, .slice none 0 0, .slice none 0 0], .int .i64 e] ∧ Kp e M' L')) noPanic := by
 refine enterD (args := [_]) (fn := Tryz.f62) ⟨Tryz.func62, rfl, by kernel_rfl, by kernel_rfl⟩ 7 rfl <| zr <| tl_e rfl <| e_alloc <| fun b1 => tl_e rfl <| e_alloc <| fun b2 => zq <| zr <| tl_y rfl (y_makeFunc rfl rfl) <| tl_e rfl <| e_defer rfl rfl rfl <| zq <| zr <| mvF rfl <| tl_e rfl (e_callv rfl rfl (hw _ _) (by
  rintro _ M1 _ hM1 ⟨L1, rfl, e, hr, rfl⟩
  refine .retD (cap := [_, _]) (args := []) caughtSQ1_wrong ?_
  rintro _ M2 _ hM2 ⟨rfl, rfl, rfl⟩
  exact .inl ⟨rfl, _, L1, rv2 rfl (rc_cellAgg (by rfl) rfl (.own iI iI)) (rc_cell (by rfl) rfl (.own iI iI)), iI, hM1, .inr ⟨e, rfl, hr⟩⟩) ?_)
 rintro _ M1 _ hM1 ⟨L1, rfl, nm, x, y, z, rfl, hk⟩
 refine tl_e rfl <| e_sT rfl rfl <| tl_e rfl <| e_sT rfl rfl <| zq <| .s2 2 3 rfl rfl <| x_ret <| .retD (cap := [_, _]) (args := []) (caughtSQ1_ret (cs := (parsC nm x y z))) ?_
 rintro _ M2 _ hM2 ⟨rfl, rfl, rfl⟩
 exact .inl ⟨rfl, _, L1, rv2 rfl (rc_cellAgg (by rfl) rfl (.own iI iI)) (rc_cell (by rfl) rfl (.own iI iI)), iI, hM1, .inl ⟨nm, x, y, z, rfl, hk⟩⟩
end
abbrev bsL (b : Nat) (A : Option Addr) (n c : Nat) : Nat × Obj := (b, .cells #[.slice A n c] 22 (0, 0))
theorem totN_le (l : List PairV) : totN l ≤ 1152921504606846976 := by
 rw [totN]; split
 ·
  rename_i h; exact pw2_60 h.2.2
 omega
theorem totN_lt (l : List PairV) : totN l < 2 ^ 64 := by have := totN_le l; omega
section
variable {G : World} {M : Mem} {L R : Own}
theorem stake_spec {b : Nat} {A : Option Addr} {n c : Nat} {bs : List UInt8} (h : Bytes M A n c bs) (hn : n ≤ 1099511627776) (k : Nat) :
  Con Tryz.prog 92 #[.pointer (some ⟨b, 0, none⟩), .int .i64 (k : Int)] G M (bsL b A n c :: R) (fun v M' L' => k ≤ n ∧ ∃ A1 c1 A2 c2, v = .slice A1 k c1 ∧ Bytes M' A1 k c1 (bs.take k) ∧ Bytes M' A2 (n - k) c2 (bs.drop k) ∧ L' = bsL b A2 (n - k) c2 :: R) (fun ch M' L' => L' = bsL b A n c :: R ∧ n < k ∧ ch = swrong 3) := by
 have hsz := h.size
 have hle := h.le
 refine zfn Tryz.func92 rfl 27 rfl <| zr <| as0 rfl <| zq <| zr <| mvP rfl <| zc rfl <| tLd rfl rfl <| tLen rfl <| mvI rfl <| tl_y rfl (y_geq rfl rfl) <| tl_e rfl (e_call rfl (smust_spec _ _) (by
  rintro _ _ _ _ ⟨rfl, rfl, ht, rfl⟩
  exact .retA rfl lR ⟨rfl, by simp at ht; omega, rfl⟩) ?_)
 rintro _ _ _ _ ⟨rfl, rfl, ht⟩
 have hk : k ≤ n := by simp at ht; omega
 refine zq <| .s2 0 1 rfl rfl <| zr <| mvP rfl <| zc rfl <| tLd rfl rfl <| mvI rfl <| tl_y rfl (y_sliceH rfl rfl (by omega) (by omega)) ?_
 refine zca rfl (bytesClone_spec (Bytes.take h k hk) (by omega)) ?_
 rintro _ M1 _ hM1 ⟨rfl, A1, c1, rfl, h1⟩
 refine asS rfl <| zq <| .s3 0 1 5 rfl rfl rfl <| zr <| mvP rfl <| mvP rfl <| zc rfl <| tLd rfl rfl <| mvI rfl <| tl_y rfl (y_sliceL rfl rfl (by omega)) <| zc rfl <| tl_e rfl <| e_sT rfl rfl <| zq <| .s1 5 rfl <| zr <| mvS rfl <| asS rfl <| zq <| x_ret (ret1 rfl rfl hM1 ⟨hk, _, _, _, _, rfl, h1, Bytes.drop (h.mono hM1) k hk, rfl⟩)
theorem snumber_spec {b : Nat} {A : Option Addr} {n c : Nat} {bs : List UInt8} (h : Bytes M A n c bs) (hn : n ≤ 1099511627776) (k : Nat) (hk8 : k ≤ 8) :
  Con Tryz.prog 93 #[.pointer (some ⟨b, 0, none⟩), .int .i64 (k : Int)] G M (bsL b A n c :: R) (fun v M' L' => k ≤ n ∧ ∃ A2 c2, v = .int .u64 (getB (bs.take k) : Nat) ∧ Bytes M' A2 (n - k) c2 (bs.drop k) ∧ L' = bsL b A2 (n - k) c2 :: R) (fun ch M' L' => L' = bsL b A n c :: R ∧ n < k ∧ ch = swrong 3) := by
 have hsz := h.size
 refine zfn Tryz.func93 rfl 15 rfl <| zr <| as0 rfl <| zq <| zr <| mvP rfl <| mvI rfl <| tl_e rfl (e_call rfl (stake_spec h hn k) (by
  rintro _ M1 _ hM1 ⟨rfl, ht, rfl⟩
  exact .retA rfl hM1 ⟨rfl, ht, rfl⟩) ?_)
 rintro _ M1 _ hM1 ⟨hk, A1, c1, A2, c2, rfl, h1, h2, rfl⟩
 refine zca rfl (Get_spec h1) ?_
 rintro _ _ _ _ ⟨rfl, rfl, rfl⟩
 rw [if_pos hk8]
 refine mvU rfl <| zx rfl <| zx rfl <| asI rfl <| asB rfl <| zq <| .s1 5 rfl <| zr <| mvI rfl <| asI rfl <| zq <| x_ret (ret1 rfl rfl hM1 ⟨hk, _, _, rfl, h2, rfl⟩)
end
section
variable {G : World} {M : Mem} {L R : Own} {NA SA : Option Addr} {nl nc sl_ sc : Nat} {name sec : List UInt8}
theorem smakes_spec (hg : LmG M) {A : Option Addr} {n c : Nat} {l : List PairV} (h : Row M 2 A n c (prow l)) (hname : Bytes M NA nl nc name) (hsec : Bytes M SA sl_ sc sec) :
  Con Tryz.prog 111 #[.slice A n c, .agg (List.toArray (seedC NA nl nc SA sl_ sc))] G M L (fun v M' L' => L' = L ∧ v = .bool (decide (canE l nl sl_ = 0))) noPanic := by
 have hk : ∀ x : UInt64, (x.toNat = totN l) → (hsigE l nl sl_ x.toNat 0 = 9 ↔ canE l nl sl_ = 0) := fun x hx => by
  rw [hsigE]
  by_cases hc : canE l nl sl_ = 0
  ·
   rw [if_neg (fun h => h hc), if_neg (by omega), plE, if_pos (canE_zero hc).1, if_neg (by rw [hx, totN, if_pos (canE_zero hc).1]; omega)]
   simp [hc]
  rw [if_pos hc]
  have : canE l nl sl_ ≠ 9 := by unfold canE; split <;> (try split) <;> decide
  constructor <;> intro h
  ·
   exact absurd h this
  exact absurd h hc
 refine zfn Tryz.func111 rfl 17 rfl <| zr <| tl_e rfl <| e_box rfl <| fun b1 => as0 rfl <| zq <| x_seq ?_
 have he : Le M M := Le.refl _
 refine x_draw 10 hmix rfl <| pmS 0 rfl rfl <| zy 1 rfl rfl (y_lg rfl rfl) <| pmS 2 rfl rfl <| ze 3 rfl rfl <| e_call' rfl (Total_spec hg.hs h) ?_
 rintro _ M1 _ hM1 ⟨rfl, rfl⟩
 have hd := hM1
 obtain ⟨x, hx⟩ : ∃ x : UInt64, x.toNat = totN l := ⟨UInt64.ofNat (totN l), by rw [UInt64.toNat_ofNat', Nat.mod_eq_of_lt (totN_lt l)]⟩
 rw [← hx]
 refine kp ?_
 refine ze 4 rfl rfl <| e_call' rfl (Sign_hspec (hg.mono hd) (h.mono hd) (hname.mono hd) (hsec.mono hd) x (show Bytes _ none 0 0 [] from Row.nil _ _)) ?_
 rintro _ M2 _ hM2 ⟨rfl, A1, m1, c1, rfl, hr⟩
 replace hd := hd.trans hM2
 refine kp ?_
 refine pmU 5 rfl rfl <| zp 6 rfl rfl (y_extract rfl) <| zp 7 rfl rfl (y_extract rfl) <| paS 8 rfl rfl <| paI 9 rfl rfl <| zz <| .then_normal <| .s1 6 rfl <| zr <| mvI rfl <| tl_y rfl (y_eql rfl rfl) ?_
 refine asB rfl <| zq <| x_ret (.dropTo L iI (ret1 rfl rfl hd ⟨rfl, by rw [decide_eq_decide.mpr (hk x hx)]⟩))
end
section
variable {G : World} {M : Mem} {L R : Own} {NA SA : Option Addr} {nl nc sl_ sc : Nat} {sn ss nm : List UInt8}
theorem scan_spec (hg : LmG M) {A : Option Addr} {n c : Nat} {l : List PairV} (h : Row M 2 A n c (prow l)) (hname : Bytes M NA nl nc sn) (hsec : Bytes M SA sl_ sc ss) :
  Con Tryz.prog 58 #[.string (sB nm), .slice A n c, .agg (List.toArray (seedC NA nl nc SA sl_ sc))] G M L (fun v M' L' => L' = L ∧ v = .bool (decide (mayK nm.length l nl sl_))) noPanic := by
 refine zfn Tryz.func58 rfl 20 rfl <| zr <| tl_e rfl <| e_box rfl <| fun b1 => as0 rfl <| zq <| zr <| mvT rfl <| tl_y rfl (y_lenStr rfl) <| tl_y rfl (y_geq rfl rfl) <| mvB rfl <| tl_casesb (s := 10) rfl (fun hk1 => ?_) (fun hk1 => ?_)
 ·
  refine mvT rfl <| tl_y rfl (y_lenStr rfl) <| tl_y rfl (y_leq rfl rfl) <| tPt rfl rfl <| mvB rfl <| tl_casesb (s := 15) rfl (fun hk2 => ?_) (fun hk2 => ?_)
  ·
   refine mvS rfl <| tLg rfl rfl <| zca rfl (smakes_spec hg h hname hsec) ?_
   rintro _ M1 _ hM1 ⟨rfl, rfl⟩
   refine tPt rfl rfl <| asB rfl <| zq <| .s1 6 rfl <| x_ret (.dropTo L iI (ret1 rfl rfl hM1 ⟨rfl, by
    have h1 : 1 ≤ nm.length := by
     have : (1 : Int) ≤ ((sB nm).size : Int) := by simpa using hk1
     rw [sB_size] at this; omega
    have h2 : nm.length ≤ 16 := by
     have : ((sB nm).size : Int) ≤ 16 := by simpa using hk2
     rw [sB_size] at this; omega
    rw [decide_eq_decide.mpr (show canE l nl sl_ = 0 ↔ mayK nm.length l nl sl_ from ⟨fun h => ⟨h1, h2, h⟩, fun h => h.2.2⟩)]⟩))
  refine sk3 rfl rfl rfl <| tPf rfl rfl <| asB rfl <| zq <| .s1 6 rfl <| x_ret (.dropTo L iI (ret1 rfl rfl lR ⟨rfl, by
   have h2 : ¬ nm.length ≤ 16 := by
    have : (16 : Int) < ((sB nm).size : Int) := by simpa using hk2
    rw [sB_size] at this; omega
   rw [decide_eq_false (fun h : mayK nm.length l nl sl_ => h2 h.2.1)]⟩))
 refine sk3 rfl rfl rfl <| tPf rfl rfl <| mvB rfl <| sk3 rfl rfl rfl <| tPf rfl rfl <| asB rfl <| zq <| .s1 6 rfl <| x_ret (.dropTo L iI (ret1 rfl rfl lR ⟨rfl, by
  have h2 : ¬ 1 ≤ nm.length := by
   have : ((sB nm).size : Int) < 1 := by simpa using hk1
   rw [sB_size] at this; omega
  rw [decide_eq_false (fun h : mayK nm.length l nl sl_ => h2 h.1)]⟩))
def headV (nm : List UInt8) (l : List PairV) (sn ss : List UInt8) : List UInt8 := if mayK nm.length l sn.length ss.length then headB nm l sn ss else []
def headE (nm : List UInt8) (l : List PairV) (sn ss : List UInt8) : Int := if mayK nm.length l sn.length ss.length then 0 else 1
theorem shead_spec (hg : LmG M) {A : Option Addr} {n c : Nat} {l : List PairV} (h : Row M 2 A n c (prow l)) (hname : Bytes M NA nl nc sn) (hsec : Bytes M SA sl_ sc ss) :
  Con Tryz.prog 20 #[.string (sB nm), .slice A n c, .agg (List.toArray (seedC NA nl nc SA sl_ sc))] G M L (fun v M' L' => L' = L ∧ ∃ A1 c1, v = .tuple #[.slice A1 (headV nm l sn ss).length c1, .int .i64 (headE nm l sn ss)] ∧ Bytes M' A1 (headV nm l sn ss).length c1 (headV nm l sn ss)) noPanic := by
 have hns := hname.size
 have hss := hsec.size
 have hln : l.length = n := by have := h.len; rw [prow, flat_len pcl] at this; omega
 have hu : ∀ v : UInt32, (v.toUInt64).toNat = v.toNat := fun v => rfl
 refine zfn Tryz.func20 rfl 53 rfl <| zr <| tl_e rfl <| e_box rfl <| fun b1 => as0 rfl <| as0 rfl <| zq <| zr2 <| mvT rfl <| mvS rfl <| tLg rfl rfl <| zca rfl (scan_spec hg h hname hsec) ?_
 rintro _ M1 _ hM1 ⟨rfl, rfl⟩
 have hd := hM1
 refine tl_y rfl (y_not rfl) <| zq <| .s4 0 1 5 15 rfl rfl rfl rfl <| x_condb rfl (fun hc1 => ?_) (fun hc1 => ?_)
 ·
  refine zr <| as0 rfl <| as0 rfl <| zq <| .s2 6 7 rfl rfl <| x_ret (.then_ret (.dropTo L iI (ret2 rfl rfl rfl hd (by
   have e : ¬ mayK nm.length l sn.length ss.length := by rw [hns, hss]; simpa using hc1
   rw [headV, headE, if_neg e, if_neg e]
   exact ⟨rfl, none, 0, rfl, Row.nil _ _⟩))))
 have hmay : mayK nm.length l sn.length ss.length := by rw [hns, hss]; simpa using hc1
 obtain ⟨f1, f2, f3, f4, f5⟩ := mayK_facts hmay
 have f6 := hmay.2.1
 have hV : headV nm l sn ss = headB nm l sn ss := if_pos hmay
 have hE : headE nm l sn ss = 0 := if_pos hmay
 have hbl := headB_len nm l sn ss
 rw [hV, hE]
 refine x_skip <| .then_normal <| zr <| mvT rfl <| tl_y rfl (y_lenStr rfl) <| tl_y rfl (y_convN8 rfl (by rw [sB_size]; omega)) <| tl_e rfl <| e_buildSlice rfl (by decide) <| fun b2 => .pub b2 iI <| fun M2 hM2 hb2 => ?_
 replace hd := hd.trans hM2
 refine mvT rfl <| tl_e rfl <| e_toBytes rfl (by rw [sB_size]; omega) <| fun A3 c3 M3 hM3 hA3 => ?_
 replace hd := hd.trans hM3
 refine mvS rfl <| tLen rfl <| tl_y rfl (y_convN8 rfl (by omega)) <| tl_e rfl <| e_buildSlice rfl (by decide) <| fun b3 => .pub b3 iI <| fun M4 hM4 hb4 => ?_
 replace hd := hd.trans hM4
 refine tl_e rfl <| e_buildSlice rfl (by decide) <| fun b4 => .pub b4 iI <| fun M5 hM5 hb4x => ?_
 replace hd := hd.trans hM5
 have k2 : Bytes M5 (some ⟨b2, 0, none⟩) 1 1 [UInt8.ofNat nm.length] := by
  have e : (UInt8.ofNat nm.length).toNat = nm.length := by rw [UInt8.toNat_ofNat', Nat.mod_eq_of_lt (by omega)]
  have e2 : [UInt8.ofNat nm.length].map bv = [Value.int .u8 (nm.length : Int)] := by simp [bv, e]
  have := (Row.whole (s := 1) (m := 1) hb2 rfl (by omega)).mono (hM3.trans (hM4.trans hM5))
  show Row _ _ _ _ _ _
  rw [e2]; exact this
 have k4 : Bytes M5 (some ⟨b3, 0, none⟩) 1 1 [UInt8.ofNat l.length] := by
  have e : (UInt8.ofNat l.length).toNat = n := by rw [UInt8.toNat_ofNat', Nat.mod_eq_of_lt (by omega), hln]
  have e2 : [UInt8.ofNat l.length].map bv = [Value.int .u8 (n : Int)] := by simp [bv, e]
  have := (Row.whole (s := 1) (m := 1) hb4 rfl (by omega)).mono hM5
  show Row _ _ _ _ _ _
  rw [e2]; exact this
 have k3 : Bytes M5 A3 nm.length c3 nm := hA3.mono (hM4.trans hM5)
 have hfl : [[UInt8.ofNat nm.length], nm, [UInt8.ofNat l.length]].flatten = UInt8.ofNat nm.length :: (nm ++ [UInt8.ofNat l.length]) := by simp
 refine zca rfl (Cat_spec (Row.whole hb4x rfl (by omega)) (.cons k2 (.cons k3 (.cons k4 .nil))) (by rw [hfl]; simp; omega)) ?_
 rintro _ M6 _ hM6 ⟨rfl, A6, c6, rfl, hA6⟩
 rw [hfl] at hA6
 rw [hfl]
 replace hd := hd.trans hM6
 refine asS rfl <| zq <| .s3 1 5 8 rfl rfl rfl <| zr2 <| mvS rfl <| tLen rfl <| mv0 rfl <| zq <| x_block ?_
 refine x_loop (I := fun m' F D M7 L7 => ∃ (k : Nat) (A7 : Option Addr) (n7 c7 : Nat), m' = n - k ∧ k ≤ n ∧ Le M M7 ∧ Bytes M7 A7 n7 c7 (UInt8.ofNat nm.length :: (nm ++ UInt8.ofNat l.length :: codsB (l.take k))) ∧ D = [] ∧ L7 = (b1, .cells (List.toArray (seedC NA nl nc SA sl_ sc)) 33 (0, 0)) :: L ∧ F = [(5, .pointer (some ⟨b1, 0, none⟩)), (8, .slice A7 n7 c7), (28, .slice A n c), (29, .int .i64 n), (30, .int .i64 k)]) (n) (F0 := [(5, _), (8, _), (28, _), (29, _), (30, _)]) ?_ (cs5 rfl rfl rfl rfl rfl) ?_
 ·
  exact ⟨0, A6, _, c6, rfl, by omega, hd, hA6, rfl, rfl, rfl⟩
 rintro m _ _ M7 L7 ⟨k, A7, n7, c7, rfl, hk, hM7, hA7, rfl, rfl, rfl⟩
 refine zr <| tl_y rfl (y_lss rfl rfl) <| zq <| x_seq <| x_cond rfl (fun hc2 => ?_) (fun hc2 => ?_)
 ·
  have hkn : k < n := by omega
  obtain ⟨p, hp⟩ : ∃ p, l[k]? = some p := ⟨_, List.getElem?_eq_getElem (by omega)⟩
  have hpk : l.take (k + 1) = l.take k ++ [p] := by rw [List.take_add_one, hp]; rfl
  obtain ⟨g, o, rfl, hcell⟩ := (h.mono hM7).cellsN (by omega)
  have hc2 := fun L => hcell L (k * 2) 2 (by rw [prow, flat_len pcl]; omega)
  simp only [prow, flat_take pcl l k p hp] at hc2
  have hs7 := hA7.size
  have hcl := codsB_len (l.take k)
  have hck := List.length_take_le k l
  have hpt := p.t.toNat_lt
  have hpo := p.o.toNat_lt
  refine x_skip <| .then_normal <| x_seq <| x_block <| zr <| tl_y rfl (y_indexAddr rfl rfl (by omega)) <| tl_y rfl (y_loadAgg rfl rfl (.at_ (hc2 _) (by omega))) <| tl_e rfl <| e_alloc <| fun b5 => tl_e rfl <| e_sT rfl rfl <| zq ?_
  have he : Le M7 M7 := Le.refl _
  refine x_draw 12 hmix rfl <| pmS 0 rfl rfl <| pFa 1 rfl rfl <| pLd 2 rfl rfl rfl <| zp 3 rfl rfl (y_convN64 rfl (by omega)) <| pFa 5 rfl rfl <| pLd 6 rfl rfl rfl <| zp 7 rfl rfl (y_convN64 rfl (by omega)) ?_
  refine ze 4 rfl rfl <| e_call' rfl (Put_spec p.t.toUInt64 4) ?_
  rintro _ M8 _ hM8 ⟨rfl, hv⟩
  rw [if_pos (by omega)] at hv
  obtain ⟨A8, c8, rfl, hA8⟩ := hv
  replace he := he.trans hM8
  refine ⟨⟨he, Keeps.mem⟩, ?_⟩
  refine ze 8 rfl rfl <| e_call' rfl (Put_spec p.o.toUInt64 4) ?_
  rintro _ M9 _ hM9 ⟨rfl, hv⟩
  rw [if_pos (by omega)] at hv
  obtain ⟨A9, c9, rfl, hA9⟩ := hv
  replace he := he.trans hM9
  refine ⟨⟨he, Keeps.mem⟩, ?_⟩
  refine ze 9 rfl rfl <| e_buildSlice rfl (by decide) <| fun b6 => ⟨⟨he, Keeps.mem⟩, ?_⟩
  refine .pub b6 iI <| fun M10 hM10 hb10 => ?_
  replace he := he.trans hM10
  have hfl2 : [UInt8.ofNat nm.length :: (nm ++ UInt8.ofNat l.length :: codsB (l.take k)), putB p.t.toUInt64.toNat (Int.toNat 4), putB p.o.toUInt64.toNat (Int.toNat 4)].flatten = UInt8.ofNat nm.length :: (nm ++ UInt8.ofNat l.length :: codsB (l.take (k + 1))) := by rw [hpk, codsB_snoc]; simp [codB]
  have hfll : (UInt8.ofNat nm.length :: (nm ++ UInt8.ofNat l.length :: codsB (l.take (k + 1)))).length ≤ 1000 := by simp [codsB_len]; omega
  refine ze 10 rfl rfl <| e_call' rfl (Cat_spec (Row.whole hb10 rfl (by omega)) (.cons (hA7.mono he) (.cons (hA8.mono (hM9.trans hM10)) (.cons (hA9.mono hM10) .nil))) (by rw [hfl2]; omega)) ?_
  rintro _ M11 _ hM11 ⟨rfl, A11, c11, rfl, hA11⟩
  rw [hfl2] at hA11
  rw [hfl2]
  replace he := he.trans hM11
  refine ⟨⟨he, Keeps.mem⟩, ?_⟩
  refine paS 11 rfl rfl <| zz <| .block_normal <| .then_normal <| .s5 5 8 28 29 30 rfl rfl rfl rfl rfl <| x_region <| tl_y rfl (y_addI rfl rfl (by omega)) <| mvI rfl <| .dropTo ((b1, .cells (List.toArray (seedC NA nl nc SA sl_ sc)) 33 (0, 0)) :: L) iI <| tl_nil <| .loop_next (m' := n - (k + 1)) (by omega) (F' := [(5, _), (8, _), (28, _), (29, _), (30, _)]) (cs5 rfl rfl rfl rfl rfl) ?_
  exact ⟨k + 1, A11, _, c11, rfl, by omega, hM7.trans he, hA11, rfl, rfl, rfl⟩
 obtain rfl : k = n := by omega
 rw [List.take_of_length_le (by omega)] at hA7
 refine x_exit <| .then_exit <| .loop_exit <| .block_exit <| .then_normal <| .s2 5 8 rfl rfl <| zr <| mvS rfl <| tFa rfl <| tLd rfl rfl <| tFa rfl <| tLd rfl rfl <| tl_e rfl <| e_buildSlice rfl (by decide) <| fun b7 => .pub b7 iI <| fun M8 hM8 hb8 => ?_
 replace hd := hM7.trans hM8
 have hfl3 : [UInt8.ofNat nm.length :: (nm ++ UInt8.ofNat l.length :: codsB l), sn, ss].flatten = headB nm l sn ss := by simp [headB]
 refine zca rfl (Cat_spec (Row.whole hb8 rfl (by omega)) (.cons (hA7.mono hM8) (.cons (hname.mono hd) (.cons (hsec.mono hd) .nil))) (by rw [hfl3]; omega)) ?_
 rintro _ M9 _ hM9 ⟨rfl, A9, c9, rfl, hA9⟩
 rw [hfl3] at hA9
 rw [hfl3]
 replace hd := hd.trans hM9
 refine asS rfl <| as0 rfl <| zq <| .s2 6 7 rfl rfl <| x_ret (.dropTo L iI (ret2 rfl rfl rfl hd ⟨rfl, _, _, rfl, hA9⟩))
end
theorem getB_one {bs : List UInt8} (h : 1 ≤ bs.length) : getB (bs.take 1) = (bs.getD 0 0).toNat := by
 cases bs with
 | nil => simp at h
 | cons a t => simp [getB]
theorem getB_lt4 {bs : List UInt8} (k : Nat) (hk : k ≤ 4) : getB (bs.take k) < 4294967296 := by
 have h1 := getB_lt (bs.take k)
 have h2 : 256 ^ (bs.take k).length ≤ 256 ^ 4 := Nat.pow_le_pow_right (by omega) (by rw [List.length_take]; omega)
 have : (256 : Nat) ^ 4 = 4294967296 := rfl
 omega
theorem getD_drop0 {bs : List UInt8} (i : Nat) : (bs.drop i).getD 0 0 = bs.getD i 0 := by
 rw [List.getD_eq_getElem?_getD, List.getD_eq_getElem?_getD, List.getElem?_drop, Nat.add_zero]
abbrev parsL (b : Nat) (nm : List UInt8) (x y z : SlV) : Nat × Obj := (b, .cells (List.toArray (parsC nm x y z)) 97 (0, 0))
abbrev nilS : SlV := ⟨none, 0, 0⟩
section
variable {G : World} {M : Mem} {L R : Own}
theorem sparse_spec (hg : LmG M) {A : Option Addr} {n c : Nat} {bs : List UInt8} (h : Bytes M A n c bs) (hn : n ≤ 1099511627776) :
  Con Tryz.prog 39 #[.slice A n c] G M L (fun v M' L' => L' = L ∧ goodH bs ∧ ∃ x y z, v = .agg (List.toArray (parsC (nameH bs) x y z)) ∧ Row M' 2 x.a x.n x.c (prow (lH bs)) ∧ Bytes M' y.a y.n y.c (snH bs) ∧ Bytes M' z.a z.n z.c (ssH bs)) (fun ch M' L' => L' = L ∧ ¬ goodH bs ∧ ch = swrong 3) := by
 have hsz := h.size
 refine zfn Tryz.func39 rfl 55 rfl <| zr <| tl_e rfl <| e_alloc <| fun b1 => zq <| zr <| mvS rfl <| tl_e rfl <| e_alloc <| fun b2 => tl_e rfl <| e_sT rfl rfl <| zq <| zr <| tl_e rfl (e_call rfl (snumber_spec h hn 1 (by omega)) (by
  rintro _ M1 _ hM1 ⟨rfl, ht, rfl⟩
  exact TP.dropTo L iI (.retA rfl hM1 ⟨rfl, fun hg => by have := hg.1.1; omega, rfl⟩)) ?_)
 rintro _ M1 _ hM1 ⟨hn1, A1, c1, rfl, h1, rfl⟩
 have hd := hM1
 have e1 : getB (bs.take 1) = hdN bs := getB_one (by omega)
 rw [e1]
 have h256 : hdN bs < 256 := (bs.getD 0 0).toNat_lt
 refine tl_y rfl (y_convI rfl (by omega)) ?_
 refine tl_e rfl (e_call rfl (stake_spec h1 (by omega) (hdN bs)) (by
  rintro _ M2 _ hM2 ⟨rfl, ht, rfl⟩
  exact TP.dropTo L iI (.retA rfl (hd.trans hM2) ⟨rfl, fun hg => by have := hg.1.2.1; omega, rfl⟩)) ?_)
 rintro _ M2 _ hM2 ⟨hn2, A2, c2, A3, c3, rfl, h2, h3, rfl⟩
 replace hd := hd.trans hM2
 refine tl_y rfl (y_toStr rfl (.row h2)) <| tl_y rfl (y_build rfl) <| tl_e rfl <| e_alloc <| fun b3 => tl_e rfl <| e_sT rfl rfl <| zq <| .s4 0 2 3 4 rfl rfl rfl rfl <| zr2 <| tl_e rfl (e_call rfl (Con.bring b2 iI (snumber_spec h3 (by omega) 1 (by omega))) (by
  rintro _ M4 _ hM4 ⟨rfl, ht, rfl⟩
  exact TP.dropTo L iI (.retA rfl (hd.trans hM4) ⟨rfl, fun hg => by have := hg.1.2.1; omega, rfl⟩)) ?_)
 rintro _ M4 _ hM4 ⟨hn4, A4, c4, rfl, h4, rfl⟩
 replace hd := hd.trans hM4
 have e2 : getB (((bs.drop 1).drop (hdN bs)).take 1) = hdM bs := by
  rw [getB_one (by rw [List.length_drop, List.length_drop]; omega), List.drop_drop, getD_drop0, hdM]
 rw [e2]
 have h256m : hdM bs < 256 := (bs.getD (1 + hdN bs) 0).toNat_lt
 have e3 : (((bs.drop 1).drop (hdN bs)).drop 1) = bs.drop (2 + hdN bs) := by rw [List.drop_drop, List.drop_drop]; congr 1; omega
 rw [e3] at h4
 obtain ⟨r, hr⟩ : ∃ r, n - 1 - hdN bs - 1 = r := ⟨_, rfl⟩
 rw [hr] at h4
 rw [hr]
 have hrl : (bs.drop (2 + hdN bs)).length = r := by rw [List.length_drop]; omega
 obtain ⟨m, hm⟩ : ∃ m, hdM bs = m := ⟨_, rfl⟩
 rw [hm] at h256m
 rw [hm]
 have hnm : nameH bs = (bs.drop 1).take (hdN bs) := rfl
 rw [← hnm]
 have hno : ∀ hg : goodH bs, 8 * m + 16 ≤ r := fun hg => by have := hg.1.2.2; omega
 refine mv0 rfl <| zq <| x_block ?_
 refine x_loop (I := fun m' F D M7 L7 => ∃ (k r7 : Nat) (A7 : Option Addr) (c7 : Nat) (LA : Option Addr) (lc : Nat) (E : Own), m' = m - k ∧ k ≤ m ∧ Le M M7 ∧ r7 + 8 * k = r ∧ Bytes M7 A7 r7 c7 ((bs.drop (2 + hdN bs)).drop (8 * k)) ∧ OwnRow 63 2 LA k lc (prow (codesL (bs.drop (2 + hdN bs)) k)) E ∧ D = [] ∧ L7 = bsL b2 A7 r7 c7 :: parsL b3 (nameH bs) ⟨LA, k, lc⟩ nilS nilS :: (b1, .cells #[.string ⟨#[]⟩, .slice none 0 0, .slice none 0 0, .slice none 0 0] 97 (0, 0)) :: (E ++ L) ∧ F = [(0, .slice A n c), (2, .pointer (some ⟨b1, 0, none⟩)), (3, .pointer (some ⟨b2, 0, none⟩)), (4, .pointer (some ⟨b3, 0, none⟩)), (14, .int .u64 m), (15, .int .u64 k)]) (m) (F0 := [(0, _), (2, _), (3, _), (4, _), (14, _), (15, _)]) ?_ (cs6 rfl rfl rfl rfl rfl rfl) ?_
 ·
  exact ⟨0, r, A4, c4, none, 0, [], rfl, by omega, hd, by omega, h4, OwnRow.nil, rfl, rfl, rfl⟩
 rintro m _ _ M7 L7 ⟨k, r7, A7, c7, LA, lc, E, rfl, hk, hM7, hr7, h7, hE, rfl, rfl, rfl⟩
 refine zr <| tl_y rfl (y_lss rfl rfl) <| zq <| x_seq <| x_cond rfl (fun hc1 => ?_) (fun hc1 => ?_)
 ·
  have hkn : k < m := by omega
  refine x_skip <| .then_normal <| x_seq <| x_block <| zr <| tl_e rfl (e_call rfl (snumber_spec h7 (by omega) 4 (by omega)) (by
   rintro _ M8 _ hM8 ⟨rfl, ht, rfl⟩
   exact TP.dropTo L iI (.retA rfl (hM7.trans hM8) ⟨rfl, fun hg => by have := hno hg; omega, rfl⟩)) ?_)
  rintro _ M8 _ hM8 ⟨hn8, A8, c8, rfl, h8, rfl⟩
  have hd8 := hM7.trans hM8
  have ht4 : getB (((bs.drop (2 + hdN bs)).drop (8 * k)).take 4) < 4294967296 := getB_lt4 4 (by omega)
  have ho4 : getB ((((bs.drop (2 + hdN bs)).drop (8 * k)).drop 4).take 4) < 4294967296 := getB_lt4 4 (by omega)
  refine asI rfl <| zq ?_
  have he : Le M8 M8 := Le.refl _
  refine x_draw0 8 (parsL b3 (nameH bs) ⟨LA, k, lc⟩ nilS nilS :: []) Keeps.mem hmix rfl <| pFa 0 rfl rfl <| pLd 1 rfl rfl rfl <| pmI 2 rfl rfl <| zp 3 rfl rfl (y_convN32 rfl (by omega)) ?_
  refine to_e 4 rfl (by kernel_rfl) rfl (e_call rfl (snumber_spec h8 (by omega) 4 (by omega)) (by
   rintro _ M9 _ hM9 ⟨rfl, ht, rfl⟩
   exact TP.dropTo L iI (.retA rfl (hd8.trans hM9) ⟨rfl, fun hg => by have := hno hg; omega, rfl⟩)) ?_)
  rintro _ M9 _ hM9 ⟨hn9, A9, c9, rfl, h9, rfl⟩
  replace he := he.trans hM9
  obtain ⟨p, hp, hpt, hpo⟩ : ∃ p : PairV, pairC ((bs.drop (2 + hdN bs)).drop (8 * k)) = p ∧ getB (((bs.drop (2 + hdN bs)).drop (8 * k)).take 4) = p.t.toNat ∧ getB ((((bs.drop (2 + hdN bs)).drop (8 * k)).drop 4).take 4) = p.o.toNat := ⟨_, rfl, by
   show _ = (UInt32.ofNat (getB (((bs.drop (2 + hdN bs)).drop (8 * k)).take 4))).toNat
   rw [UInt32.toNat_ofNat', Nat.mod_eq_of_lt ht4], by
   show _ = (UInt32.ofNat (getB ((((bs.drop (2 + hdN bs)).drop (8 * k)).drop 4).take 4))).toNat
   rw [UInt32.toNat_ofNat', Nat.mod_eq_of_lt ho4]⟩
  rw [hpt, hpo]
  have hpt2 := p.t.toNat_lt
  have hpo2 := p.o.toNat_lt
  refine ⟨⟨he, Keeps.mem⟩, ?_⟩
  refine zp 5 rfl rfl (y_convN32 rfl (by omega)) <| zp 6 rfl rfl (y_build rfl) <| ze 7 rfl rfl <| e_buildSlice rfl (by decide) <| fun b4 => ⟨⟨he, Keeps.mem⟩, ?_⟩
  refine .pub b4 iI <| fun M10 hM10 hb10 => ?_
  replace he := he.trans hM10
  refine .to (E ++ (bsL b2 A9 (r7 - 4 - 4) c9 :: parsL b3 (nameH bs) ⟨LA, k, lc⟩ nilS nilS :: (b1, .cells #[.string ⟨#[]⟩, .slice none 0 0, .slice none 0 0, .slice none 0 0] 97 (0, 0)) :: L)) iI <| zt 8 rfl rfl <| e_append (by decide) rfl rfl hE (.row (Row.whole (s := 2) (vs := p.cells) hb10 rfl (by omega))) rfl (by show k + 1 ≤ _; omega) (by show (k + 1) * _ ≤ _; omega) <| fun A11 c11 E11 hE11 => pFa 9 rfl rfl ?_
  refine zt 10 rfl rfl <| e_sT rfl rfl <| zz <| .block_normal <| .then_normal <| .s6 0 2 3 4 14 15 rfl rfl rfl rfl rfl rfl <| x_region <| tl_y rfl (y_addN64 rfl rfl (by omega)) <| mvI rfl <| .to (bsL b2 A9 (r7 - 4 - 4) c9 :: parsL b3 (nameH bs) ⟨A11, k + 1, c11⟩ nilS nilS :: (b1, .cells #[.string ⟨#[]⟩, .slice none 0 0, .slice none 0 0, .slice none 0 0] 97 (0, 0)) :: (E11 ++ L)) iI <| tl_nil <| .loop_next (m' := m - (k + 1)) (by omega) (F' := [(0, _), (2, _), (3, _), (4, _), (14, _), (15, _)]) (cs6 rfl rfl rfl rfl rfl rfl) ?_
  exact ⟨k + 1, _, A9, c9, A11, c11, E11, rfl, by omega, hM7.trans (hM8.trans he), by omega, by
   have e : ((bs.drop (2 + hdN bs)).drop (8 * (k + 1))) = (((bs.drop (2 + hdN bs)).drop (8 * k)).drop 4).drop 4 := by rw [List.drop_drop (i := 4) (j := 4), List.drop_drop (j := 8 * k)]; congr 1
   rw [e]; exact h9.mono hM10, by
   have e : prow (codesL (bs.drop (2 + hdN bs)) (k + 1)) = prow (codesL (bs.drop (2 + hdN bs)) k) ++ p.cells := by rw [codesL, hp]; simp [prow]
   rw [e]; exact hE11, rfl, rfl, rfl⟩
 obtain rfl : k = m := by omega
 have hlH : lH bs = codesL (bs.drop (2 + hdN bs)) k := by rw [lH, hm]
 rw [← hlH] at hE
 refine x_exit <| .then_exit <| .loop_exit <| .block_exit <| .then_normal <| zr <| tl_e rfl (e_call rfl (stake_spec h7 (by omega) 16) (by
  rintro _ M8 _ hM8 ⟨rfl, ht, rfl⟩
  exact TP.dropTo L iI (.retA rfl (hM7.trans hM8) ⟨rfl, fun hg => by have := hno hg; omega, rfl⟩)) ?_)
 rintro _ M8 _ hM8 ⟨hn8, A8, c8, A9, c9, rfl, h8, h9, rfl⟩
 replace hd := hM7.trans hM8
 have hdd : (bs.drop (2 + hdN bs)).drop (8 * k) = bs.drop (2 + hdN bs + 8 * hdM bs) := by rw [List.drop_drop, hm]
 have hsn : (((bs.drop (2 + hdN bs)).drop (8 * k)).take 16) = snH bs := by rw [hdd, snH]
 have hss : (((bs.drop (2 + hdN bs)).drop (8 * k)).drop 16) = ssH bs := by rw [hdd, ssH, List.drop_drop]
 rw [hsn] at h8
 rw [hss] at h9
 have hokL : okLen bs := ⟨by omega, by omega, by omega⟩
 refine tFa rfl <| tFa rfl <| tl_e rfl <| e_sT rfl rfl <| zq <| .s4 0 2 3 4 rfl rfl rfl rfl <| zr <| tLd rfl rfl <| zca rfl (bytesClone_spec h9 (by omega)) ?_
 rintro _ M10 _ hM10 ⟨rfl, A10, c10, rfl, h10⟩
 replace hd := hd.trans hM10
 refine tFa rfl <| tFa rfl <| tl_e rfl <| e_sT rfl rfl <| .to (E ++ (bsL b2 A9 (r7 - 16) c9 :: parsL b3 (nameH bs) ⟨LA, k, lc⟩ ⟨A8, 16, c8⟩ ⟨A10, r7 - 16, c10⟩ :: (b1, .cells #[.string ⟨#[]⟩, .slice none 0 0, .slice none 0 0, .slice none 0 0] 97 (0, 0)) :: L)) iI <| .pubRow hE <| fun M11 hM11 hrow => ?_
 replace hd := hd.trans hM11
 have h8' := h8.mono (hM10.trans hM11)
 have h10' := h10.mono hM11
 refine zq <| .s3 0 2 4 rfl rfl rfl <| zr <| tFa rfl <| tLd rfl rfl <| tFa rfl <| tLd rfl rfl <| tFa rfl <| tLg rfl rfl <| zca rfl (shead_spec (nm := nameH bs) (hg.mono hd) hrow h8' h10') ?_
 rintro _ M12 _ hM12 ⟨rfl, A12, c12, rfl, h12⟩
 replace hd := hd.trans hM12
 have hmy : mayK (nameH bs).length (lH bs) (snH bs).length (ssH bs).length ↔ goodH bs := ⟨fun h => ⟨hokL, h⟩, fun h => h.2⟩
 refine mvU rfl <| zx rfl <| zx rfl <| asS rfl <| asI rfl <| zq <| .s5 0 2 4 6 7 rfl rfl rfl rfl rfl <| zr <| mvI rfl <| tl_y rfl (y_eql rfl rfl) <| mvB rfl <| tl_casesb (s := 48) rfl (fun hk1 => ?_) (fun hk1 => ?_)
 ·
  refine mvS rfl <| mvS rfl <| zca rfl (Same_spec h12 (h.mono hd)) ?_
  rintro _ _ _ _ ⟨rfl, rfl, rfl⟩
  refine tPt rfl rfl <| tl_e rfl (e_call rfl (smust_spec _ _) (by
   rintro _ _ _ _ ⟨rfl, rfl, ht, rfl⟩
   exact TP.dropTo L iI (.retA rfl hd ⟨rfl, fun hg => by
    have h1 : ¬ (headV (nameH bs) (lH bs) (snH bs) (ssH bs) = bs) := by simpa using ht
    exact h1 (by rw [headV, if_pos hg.2]; exact headB_parse hokL), rfl⟩)) ?_)
  rintro _ _ _ _ ⟨rfl, rfl, ht⟩
  have hgood : goodH bs := hmy.1 (by
   have h1 : headE (nameH bs) (lH bs) (snH bs) (ssH bs) = 0 := by simpa using hk1
   unfold headE at h1
   split at h1
   ·
    assumption
   cases h1)
  refine zq <| .s2 2 4 rfl rfl <| zr <| tLg rfl rfl <| tl_e rfl <| e_sT rfl rfl <| zq <| x_ret (retRV (L' := L) (rv1 rfl (rc_cellAgg (by rfl) rfl (.own iI iI))) iI hd ⟨rfl, hgood, ⟨LA, k, lc⟩, ⟨A8, 16, c8⟩, ⟨A10, r7 - 16, c10⟩, rfl, hrow.mono hM12, h8'.mono hM12, h10'.mono hM12⟩)
 refine sk3 rfl rfl rfl <| tPf rfl rfl <| tl_e rfl (e_call rfl (smust_spec _ _) (by
  rintro _ _ _ _ ⟨rfl, rfl, ht, rfl⟩
  exact TP.dropTo L iI (.retA rfl hd ⟨rfl, fun hg => by
   have h1 : headE (nameH bs) (lH bs) (snH bs) (ssH bs) ≠ 0 := by simpa using hk1
   exact h1 (by rw [headE, if_pos hg.2]), rfl⟩)) ?_)
 rintro _ _ _ _ ⟨rfl, rfl, ht⟩
 refine zq <| .s2 2 4 rfl rfl <| zr <| tLg rfl rfl <| tl_e rfl <| e_sT rfl rfl <| zq <| x_ret (absurd ht (by decide))
end
structure RRep where
 la : Option Addr
 ln : Nat
 lc : Nat
 sa : Option Addr
 sn : Nat
 sc : Nat
 sv : List Value
 E1 : Own
 wa : Option Addr
 wn : Nat
 wc : Nat
 E2 : Own
 ha : Option Addr
 hn : Nat
 hc : Nat
 hv : List Value
 E3 : Own
 fa : Option Addr
 fn : Nat
 fc : Nat
abbrev rcells (r : RRep) (S : DS) : List Value := [.slice r.la r.ln r.lc, .slice r.sa r.sn r.sc, .slice r.wa r.wn r.wc, .slice r.ha r.hn r.hc, .slice r.fa r.fn r.fc, .int .i64 S.stop, .int .i64 S.count, .bool S.down]
abbrev rL (q : Nat) (r : RRep) (S : DS) (R : Own) : Own := (q, .cells (List.toArray (rcells r S)) 393 (0, 0)) :: (r.E1 ++ (r.E2 ++ (r.E3 ++ R)))
abbrev wheres (ps : List (Int × List UInt8)) : List Value := ps.map fun q => .int .i64 q.1
structure IsRef (M : Mem) (r : RRep) (S : DS) : Prop where
 s : OwnRow 22 1 r.sa r.sn r.sc r.sv r.E1
 w : OwnRow 3 1 r.wa r.wn r.wc (wheres S.pend) r.E2
 h : OwnRow 22 1 r.ha r.hn r.hc r.hv r.E3
 sure : BRows M r.sv S.sure
 what : BRows M r.hv (S.pend.map Prod.snd)
 fail : Ints M r.fa r.fn r.fc S.fail
 sl : ∀ b ∈ S.sure, b.length = 64
 pl : ∀ q ∈ S.pend, q.2.length = 64 ∧ 0 ≤ q.1 ∧ q.1 < S.sure.length
 sz : S.sure.length ≤ 256
theorem IsRef.mono {M M' : Mem} {r : RRep} {S : DS} (h : IsRef M r S) (hle : Le M M') : IsRef M' r S := ⟨h.s, h.w, h.h, h.sure.mono hle, h.what.mono hle, h.fail.mono hle, h.sl, h.pl, h.sz⟩
theorem IsRef.sn {M : Mem} {r : RRep} {S : DS} (h : IsRef M r S) : r.sn = S.sure.length := by have := h.s.len; have := h.sure.len; omega
theorem IsRef.wn {M : Mem} {r : RRep} {S : DS} (h : IsRef M r S) : r.wn = S.pend.length := by have := h.w.len; simp at this; omega
theorem IsRef.hn {M : Mem} {r : RRep} {S : DS} (h : IsRef M r S) : r.hn = S.pend.length := by have := h.h.len; have := h.what.len; simp at this; omega
def RK (q : Nat) (la : Option Addr) (ln lc : Nat) (S : DS) (R : Own) (M' : Mem) (L' : Own) : Prop := ∃ r', IsRef M' r' S ∧ (L', r'.la, r'.ln, r'.lc) = (rL q r' S R, la, ln, lc)
theorem RK.out {q : Nat} {la : Option Addr} {ln lc : Nat} {S : DS} {R : Own} {M' : Mem} {L' : Own} (h : RK q la ln lc S R M' L') : ∃ r', IsRef M' r' S ∧ L' = rL q r' S R ∧ r'.la = la ∧ r'.ln = ln ∧ r'.lc = lc := by
 obtain ⟨r', h1, h2⟩ := h
 simp only [Prod.mk.injEq] at h2
 exact ⟨r', h1, h2⟩
section
variable {G : World} {M : Mem} {R : Own} {q : Nat} {r : RRep} {S : DS}
end
theorem fresh_len (n : Nat) : (fresh n).sure.length = n := by simp [fresh]
def s0 (first n : Nat) : SS := ⟨first, n, 0, 0, []⟩
theorem okS0 {S : DS} {first n : Nat} (hn : 1 ≤ n ∧ n ≤ 8) (h : first + 2 * n ≤ S.sure.length) : OkS S (s0 first n) := ⟨hn, h, Nat.zero_le _, by show 0 + 28 ≤ 64 * n; omega⟩
section
variable {G : World} {M : Mem} {L R : Own} {p d q : Nat} {r : DRep} {rr : RRep} {S : DS} {s : SS} {A0 : Option Addr} {l0 c0 : Nat}
theorem sNew_ok (h : IsDisk M r S) (first n : Nat) (hn : 1 ≤ n ∧ n ≤ 8) (hf : first + 2 * n ≤ S.sure.length) :
  Con Tryz.prog 87 #[.pointer (some ⟨d, 0, none⟩), .int .i64 (first : Int), .int .i64 (n : Int)] G M (dL d r S R)
   (fun v M' L' => ∃ p, v = .tuple #[.pointer (some ⟨p, 0, none⟩), .int .i64 0] ∧ SK p d S (s0 first n) R M' L') noPanic := by
 refine (sNew2_spec h first n).post fun v M' L' hM hv => ?_
 rw [if_pos (by omega)] at hv
 exact hv
end
theorem within_mono {S : DS} {B B' : Nat} (h : S.within B) (hb : B ≤ B') : S.within B' := by obtain ⟨h1, h2, h3⟩ := h; exact ⟨h1, by omega, by omega⟩
theorem loadRes_n (S : DS) (s : SS) : (loadRes S s).1.n = s.n ∧ (loadRes S s).1.first = s.first := by
 unfold loadRes loaded
 repeat' split
 all_goals exact ⟨rfl, rfl⟩
theorem newC_within {S : DS} {B : Nat} (h : S.within B) {s : SS} (hn : s.n ≤ 8) (head : List UInt8) (t b : UInt64) : (newC S s head t b).1.1.within (B + 9) := by
 unfold newC
 split
 ·
  exact within_mono h (by omega)
 split
 ·
  exact within_mono h (by omega)
 split
 ·
  exact saveRes_within h (by rw [(loadRes_n S s).1]; exact hn) _
 exact within_mono h (by omega)
theorem saveC_within {S : DS} {B : Nat} (h : S.within B) {s : SS} (hn : s.n ≤ 8) (x x' : Cn) (head : List UInt8) : (saveC S s x x' head).1.1.1.within (B + 9) := by
 unfold saveC
 split
 ·
  exact within_mono h (by omega)
 split
 ·
  exact within_mono h (by omega)
 split
 ·
  exact saveRes_within h hn _
 exact saveRes_within h hn _
theorem takeC_within {S : DS} {B : Nat} (h : S.within B) {s : SS} (hn : s.n ≤ 8) (x : Cn) (head : List UInt8) : (takeC S s x head).1.1.1.within (B + 9) := by
 unfold takeC
 split
 ·
  exact within_mono h (by omega)
 split
 ·
  exact within_mono h (by omega)
 split
 ·
  split
  ·
   exact saveC_within h hn _ _ _
  exact saveC_within h hn _ _ _
 exact within_mono h (by omega)
end Go.Proofs.YtplkoemjffplcaaGreatDoor
