/-
The walk engine: strings, copies.
-/
import Derived.Test.YtbgdjdhbejbhkaaDoorEngL
import Derived.Laws.Externs
import Derived.Laws.BytesString
import Derived.Laws.IdiomCopy
import Derived.Lib.MakeNoZero
import Derived.Lib.ConvBytes
set_option linter.unusedVariables false
set_option linter.unusedSimpArgs false
namespace Go.Eng
/-! ### Strings -/
def sB (bs : List UInt8) : ByteArray := ⟨bs.toArray⟩
theorem sB_data (bs : List UInt8) : (sB bs).data.toList = bs := rfl
theorem sB_size (bs : List UInt8) : (sB bs).size = bs.length := rfl
theorem toList_go (s : ByteArray) : ∀ (n i : Nat) (r : List UInt8), s.size - i = n → ByteArray.toList.loop s i r = r.reverse ++ s.data.toList.drop i
  | 0, i, r, h => by
    have hsz : s.size = s.data.toList.length := rfl
    unfold ByteArray.toList.loop
    have h1 : ¬ i < s.size := by omega
    rw [if_neg h1, List.drop_of_length_le (by omega), List.append_nil]
  | n + 1, i, r, h => by
    have hsz : s.size = s.data.toList.length := rfl
    unfold ByteArray.toList.loop
    have h1 : i < s.size := by omega
    rw [if_pos h1, toList_go s n (i + 1) _ (by omega)]
    have h2 : i < s.data.toList.length := by omega
    have h3 : s.get! i = s.data.toList[i] := by
      have h4 : i < s.data.size := h2
      show s.data[i]! = _
      rw [getElem!_pos s.data i h4]
      rfl
    rw [List.drop_eq_getElem_cons h2, List.reverse_cons, List.append_assoc, h3]
    rfl
theorem toList_sB (bs : List UInt8) : (sB bs).toList = bs := by
  unfold ByteArray.toList
  rw [toList_go _ _ 0 [] rfl]
  rfl
theorem toList_any (s : ByteArray) : s.toList = s.data.toList := by
  unfold ByteArray.toList
  rw [toList_go _ _ 0 [] rfl]
  rfl
theorem toList_inj {a b : ByteArray} : a.toList = b.toList ↔ a = b := by
  rw [toList_any, toList_any]
  constructor
  · intro h; cases a; cases b; simp at h; simp [h]
  · rintro rfl; rfl
theorem sB_inj {a b : List UInt8} : sB a = sB b ↔ a = b := by
  rw [← toList_inj, toList_sB, toList_sB]
theorem push_all : ∀ (bs : List UInt8) (s : ByteArray), (bs.map fun b => ((b.toNat : Nat) : Int)).foldl (fun r n => r.push (UInt8.ofNat n.toNat)) s = ⟨s.data ++ bs.toArray⟩
  | [], s => by simp
  | b :: bs, s => by
    rw [List.map_cons, List.foldl_cons, push_all bs]
    simp [ByteArray.push]
section
variable {P : Program} {ty : TypeId} {F : Fr} {M : Mem} {L : Own} {x y : Operand} {t t' : TypeId}
theorem y_toStr {e : TypeId} {z z0 z2 : Value} {s b0 b1 s2 b2 : Nat} [ti : TI P t (.slice e) z s b0] [te : TI P e (.int .u8) z0 1 b1] [ts : TI P t' .string z2 s2 b2] {A : Option Addr} {n c : Nat} {bs : List UInt8} (hx : ev F x = some (.slice A n c)) (h : Src M L 1 A n (bs.map bv)) :
    Yld P (.convert t t' x) ty F M L (.string (sB bs)) := fun w ρ hs hρ => by
  have hr : (convert t t' (.slice A n c)).run P w = .ok (.string (sB bs)) w := by
    rw [run_convert_bytes_string w t t' e A n c ti.und te.und ts.und]
    obtain ⟨hl, hh⟩ := h
    have hl : bs.length = n := by simpa using hl
    cases A with
    | none =>
      have : bs = [] := by
        rcases Nat.eq_zero_or_pos n with h0 | h0
        · exact List.eq_nil_of_length_eq_zero (by omega)
        · obtain ⟨ad, e, _⟩ := hh w hs (by omega); cases e
      subst this
      rfl
    | some ad =>
      have h1 := run_loadCells_list (P := P) (w := w) ad (bs.map bv) (fun j v hj => by
        have : 0 < n * 1 := by have := (List.getElem?_eq_some_iff.1 hj).1; simp at this; omega
        obtain ⟨ad', e', k⟩ := hh w hs this
        cases e'
        exact k j v hj)
      have h2 := run_bytesToString (P := P) w ad n c (bs.map fun b => ((b.toNat : Nat) : Int)) (by
        rw [List.length_map, hl] at h1
        rw [h1, List.map_map]; rfl)
      rw [h2, push_all]
      have e0 : ByteArray.empty.data = #[] := rfl
      simp [sB, e0]
  simp only [execOp, hρ _ _ hx, Sem.run_bind, hr, Result.andThen_ok, Sem.run_pure]
theorem y_eqlStr {a b : ByteArray} (hx : ev F x = some (.string a)) (hy : ev F y = some (.string b)) : Yld P (.binOp .eql t x y t') ty F M L (.bool (decide (a = b))) := fun w ρ hs hρ => by
  have hb : (a.toList == b.toList) = decide (a = b) := by
    rw [Bool.eq_iff_iff]; simp [toList_inj]
  have hr : (binOp .eql t (.string a) (.string b)).run P w = .ok (.bool (decide (a = b))) w := by
    simp only [binOp, Op.stringOp, Sem.run_pure, hb]
  simp only [execOp, hρ _ _ hx, hρ _ _ hy, Sem.run_bind, eqGuard_string, Result.andThen_ok, hr, Sem.run_pure]
theorem y_neqStr {a b : ByteArray} (hx : ev F x = some (.string a)) (hy : ev F y = some (.string b)) : Yld P (.binOp .neq t x y t') ty F M L (.bool (decide (a ≠ b))) := fun w ρ hs hρ => by
  have hb : (!(a.toList == b.toList)) = decide (a ≠ b) := by
    rw [Bool.eq_iff_iff]; simp [toList_inj]
  have hr : (binOp .neq t (.string a) (.string b)).run P w = .ok (.bool (decide (a ≠ b))) w := by
    simp only [binOp, Op.stringOp, Sem.run_pure, hb]
  simp only [execOp, hρ _ _ hx, hρ _ _ hy, Sem.run_bind, eqGuard_string, Result.andThen_ok, hr, Sem.run_pure]
end
/-! ### copy, strings as bytes, a function without a body -/
section
variable {P : Program} {n : Nat} {Q : Post} {F : Fr} {D : List Deferred} {G : World} {M : Mem} {L L' : Own} {d : Option Tmp} {ty : TypeId} {K : Fr → List Deferred → Mem → Own → Prop}
theorem Src.take {s m k : Nat} {A : Option Addr} {vs : List Value} (h : Src M L s A m vs) (hk : k ≤ m) : Src M L s A k (vs.take (k * s)) := ⟨by
  have := h.1
  have h2 : k * s ≤ m * s := Nat.mul_le_mul_right _ hk
  rw [List.length_take]; omega, fun w hw h0 => by
  have h2 : k * s ≤ m * s := Nat.mul_le_mul_right _ hk
  obtain ⟨ad, e, hc⟩ := h.2 w hw (by omega)
  refine ⟨ad, e, fun j v hj => hc j v ?_⟩
  rw [List.getElem?_take] at hj
  split at hj
  · exact hj
  · cases hj⟩
/-- 'copy(dst, src)' into an owned block: 'cs' go over. -/
theorem e_copy {t t2 e : TypeId} {xd xs : Operand} {z z0 : Value} {s0 b0 b1 : Nat} {de : TypeDesc} [ti : TI P t (.slice e) z0 s0 b0] [te : TI P e de z 1 b1] {dp sp : Option Addr} {dl dc sl sc b o : Nat} {c cs : List Value} {T : TypeId}
    (hd : ev F xd = some (.slice dp dl dc)) (hs : ev F xs = some (.slice sp sl sc)) (hn : cs.length = min sl dl) (hdp : 0 < cs.length → dp = some ⟨b, o, none⟩) (hsrc : Src M L 1 sp cs.length cs)
    (hh : Has L b (.cells c.toArray T (0, 0))) (hfit : o + cs.length ≤ c.length) (h1 : cs.all one = true) (hu : Upd L b (.cells c.toArray T (0, 0)) (.cells (c.take o ++ (cs ++ c.drop (o + cs.length))).toArray T (0, 0)) L')
    (h : K (putF d (.int .i64 cs.length) F) D M L') : Tr P n d (.call ⟨.builtin .copy, #[xd, xs], #[t, t2]⟩) ty Q F D G M L K := tr_value (fun c h => by cases h) fun w ρ hw hρ => by
  have hg := (hw.own _ hh.mem).1
  have hsz : (P.info? e).map (·.size) = some 1 := by obtain ⟨j, hj, _, hjs, _⟩ := te.parts; simp [hj, hjs]
  refine ⟨.int .i64 cs.length, w.setRow b (c.take o ++ (cs ++ c.drop (o + cs.length))).toArray, M, L', ?_, hw.upd hu rfl rfl rfl (setRow_heap w b _ _ T _ hg) (fun i hi => setRow_other w b i _ hi), h⟩
  have hrun : (Builtin.copy_ #[t, t2] ty #[.slice dp dl dc, .slice sp sl sc]).run P w = .ok (.int .i64 cs.length) (w.setRow b (c.take o ++ (cs ++ c.drop (o + cs.length))).toArray) := by
    rcases Nat.eq_zero_or_pos cs.length with h0 | h0
    · have e0 : cs = [] := List.eq_nil_of_length_eq_zero h0
      subst e0
      have h2 := run_copy_none (P := P) w t t2 ty e dp sp dl dc sl sc ti.und hsz (by simpa [Nat.min_def] using hn.symm)
      rw [h2]
      simp only [List.length_nil, Nat.add_zero, List.nil_append, List.take_append_drop]
      rw [setRow_self w b _ T (0, 0) hg]
      rfl
    · obtain ⟨ad, rfl, hc⟩ := hsrc.2 w hw.sees (by omega)
      obtain rfl := hdp h0
      have h2 := run_copy_row P w t t2 ty e b o dl dc ad sl sc c.toArray T cs ti.und hsz hg hn hc (by simpa using hfit) (fun v hv => List.all_eq_true.1 h1 v hv)
      rw [h2, List.append_assoc]
      rfl
  simp only [execOp, resolve, invoke, builtin, Sem.run_bind, Sem.run_pure, Result.andThen_ok, List.map_toArray, List.map_cons, List.map_nil, hρ _ _ hd, hρ _ _ hs, hrun]
/-- 'bytealg.MakeNoZero'. -/
theorem e_noZero {f : FuncId} {fn : Func} {t e : TypeId} {z z0 : Value} {s0 b0 b1 s1 : Nat} {de : TypeDesc} [ti : TI P t (.slice e) z0 s0 b0] [te : TI P e de z s1 b1] {ps : Array TypeId} {x : Operand} {tys : Array TypeId} {m : Int} (hf : P.funcs[f]? = some fn) (hname : (fn.name == "runtime.NumGoroutine") = false)
    (hb : fn.body.isNone = true) (hn : Extern.findNext fn = none) (he : Extern.find fn = some (Extern.BytealgMakeNoZero.makeNoZero ps #[t])) (hx : ev F x = some (.int .i64 m)) (hm : 0 ≤ m ∧ m ≤ 281474976710656)
    (h : ∀ b cs, m.toNat ≤ cs.length → cs.length ≤ 9223372036854775807 → K (putF d (.slice (some ⟨b, 0, none⟩) m.toNat cs.length) F) D M ((b, .cells (List.toArray cs) e (0, 0)) :: L)) :
    Tr P n d (.call ⟨.value (.func f), #[x], tys⟩) ty Q F D G M L K := tr_value (fun c h => by cases h) fun w ρ hw hρ => by
  obtain ⟨k, rfl⟩ : ∃ k : Nat, m = k := ⟨m.toNat, by omega⟩
  simp only [Int.toNat_natCast] at *
  obtain ⟨cs, hr, h1, h2⟩ := Lib.run_makeNoZero (P := P) w ps t e ti.und k (by omega)
  refine ⟨.slice (some ⟨w.heap.size, 0, none⟩) k cs.size, w.drew.drew.alloc (.cells cs e), M, _, ?_, ?_, h w.heap.size cs.toList (by simpa using h1) (by have := h2 (by simp only [maxLen]; omega); simp only [maxLen] at this; simpa using this)⟩
  · have h3 := run_callFunc_extern hf hname hb hn he #[.int .i64 k] w
    rw [hr] at h3
    have e1 : ρ (.func f) = .func (.func f) #[] #[] := hρ _ _ rfl
    simp only [execOp, resolve, e1, Deferred.ofValue, Sem.run_bind, Sem.run_pure, Result.andThen_ok, invoke, List.map_toArray, List.map_cons, List.map_nil, hρ _ _ hx]
    simpa using h3
  · exact St.alloc hw rfl rfl rfl rfl
/-- A string as bytes: they are only read. -/
theorem e_toBytes {t t' e : TypeId} {x : Operand} {z z0 z2 : Value} {s b0 s0 b1 s2 b2 : Nat} [ts : TI P t .string z s b0] [ti : TI P t' (.slice e) z0 s0 b1] [te : TI P e (.int .u8) z2 s2 b2] {v : ByteArray} (hx : ev F x = some (.string v)) (hv : v.size ≤ 9223372036854775807)
    (h : ∀ A c M', Le M M' → Bytes M' A v.size c v.data.toList → K (putF d (.slice A v.size c) F) D M' L) :
    Tr P n d (.convert t t' x) ty Q F D G M L K := tr_value (fun c h => by cases h) fun w ρ hw hρ => by
  have hr := Lib.run_convert_string_bytes (P := P) w t t' e v ts.und ti.und te.und
  have hcap := grownCap_le_maxLen w v.size 0 e (by simp only [maxLen]; omega)
  have hge := grownCap_ge w v.size 0 e
  simp only [maxLen] at hcap
  have hst : St G M ((w.heap.size, Obj.cells (Lib.bytesCells w e v) e ((Lib.bytesCells w e v).size, (Lib.bytesCells w e v).size + 1)) :: L) (Lib.bytesWorld w e v) := by
    have h0 := St.alloc (o := .cells (Lib.bytesCells w e v) e (0, 0)) (w' := w.drew.alloc (.cells (Lib.bytesCells w e v) e)) hw rfl rfl rfl rfl
    refine h0.set (w' := Lib.bytesWorld w e v) rfl rfl rfl (Lib.bytesWorld_at_new w e v) (fun i hi => ?_)
    show ((w.drew.alloc (.cells (Lib.bytesCells w e v) e)).heap.modify w.heap.size _)[i]? = _
    rw [Array.getElem?_modify, if_neg (Ne.symm hi)]
  obtain ⟨k1, k2, k3⟩ := hst.publish
  refine ⟨_, Lib.bytesWorld w e v, _, L, ?_, k1, h _ _ _ k2 ⟨by rw [List.length_map, Nat.mul_one]; rfl, hge, hcap, fun _ => ⟨w.heap.size, 0, _, e, _, rfl, k3, fun j u hj => ?_⟩⟩⟩
  · simp only [execOp, hρ _ _ hx, Sem.run_bind, hr, Result.andThen_ok, Sem.run_pure]
  · have hlt := (List.getElem?_eq_some_iff.1 hj).1
    rw [List.length_map] at hlt
    rw [Nat.zero_add]
    unfold Lib.bytesCells
    rw [Array.getElem?_append_left (by simpa using hlt), Array.getElem?_map, ← Array.getElem?_toList, ← hj, List.getElem?_map]
    rfl
end
end Go.Eng
