/-
The walk engine: more on arrays, panics, drawn regions.
-/
import Derived.Test.YtiimjodbaogjbaaGreatDoorEngIEtc
import Derived.Laws.StructEq
set_option linter.unusedVariables false
set_option linter.unusedSimpArgs false
namespace Go.Eng
instance (priority := 850) {E L0 L' L1 : Own} [h : SelE L' E L1] [k : Keeps L0 L'] : Keeps (E ++ L0) L' := ⟨fun p hp => by
  rcases List.mem_append.1 hp with hp | hp
  · exact h.perm.mem_iff.2 (List.mem_append_left _ hp)
  · exact k.mem p hp⟩
theorem y_buildArr {P : Program} {ty : TypeId} {F : Fr} {M : Mem} {L : Own} {t e : TypeId} {m : Nat} {parts : List (Nat × Operand)} {z cells : List Value} {z' : Value} {s b0 s' b' : Nat} {de : TypeDesc} [ti : TI P t (.array m e) (.agg z.toArray) s b0] [te : TI P e de z' s' b'] {vs : List (Nat × Value)} (hp : evps F parts = some vs)
    [hf : FillTo (fun i => some (i * s', s')) z vs cells] :
    Yld P (.build t parts.toArray) ty F M L (.agg cells.toArray) := fun w ρ hs hρ => by
  obtain ⟨j, hj, hz, _, _⟩ := ti.parts
  obtain ⟨j', hj', _, hjs, _⟩ := te.parts
  subst hjs
  have h1 : (zeroValue t).run P w = .ok (.agg z.toArray) w := by simp [zeroValue, typeInfo, hj, hz]
  have h2 := evps_map hρ _ _ hp
  have hf := hf.fill
  simp only [execOp, Instr.build, Sem.run_bind, h1, Result.andThen_ok, run_underlying ti.und, Sem.run_pure, List.map_toArray, h2, Value.cells, run_size hj', hf]
theorem copy_whole {c cs : List Value} (h : c.length = cs.length) : c.take 0 ++ (cs ++ c.drop (0 + cs.length)) = cs := by
  rw [List.take_zero, List.nil_append, Nat.zero_add, List.drop_of_length_le (by omega), List.append_nil]
theorem CellsN.whole {M : Mem} {L : Own} {b n : Nat} {c : List Value} {T : TypeId} {fr : Nat × Nat} (hh : Has L b (.cells c.toArray T fr)) (hl : c.length = n) : CellsN M L ⟨b, 0, none⟩ n c :=
  ⟨fun w hw j v hj => by rw [add_plain, Nat.zero_add]; exact cell_of (hw.own _ hh.mem) (by simpa using hj), hl⟩
theorem CellsN.wholeRo {M : Mem} {L : Own} {b n : Nat} {c : List Value} {T : TypeId} {fr : Nat × Nat} (hM : M b = some (.cells c.toArray T fr)) (hl : c.length = n) : CellsN M L ⟨b, 0, none⟩ n c :=
  ⟨fun w hw j v hj => by rw [add_plain, Nat.zero_add]; exact cell_of (hw.ro _ _ hM) (by simpa using hj), hl⟩
theorem PutAt.whole {c cs : List Value} (h : c.length = cs.length) : PutAt c 0 cs cs := ⟨by rw [List.take_zero, List.nil_append, Nat.zero_add, List.drop_of_length_le (by omega), List.append_nil], by omega⟩
theorem ofInt32 (n : Nat) : UInt32.ofInt (n : Int) = UInt32.ofNat n := by
  apply UInt32.toNat_inj.1
  show (UInt32.ofNat ((n : Int) % 4294967296).toNat).toNat = _
  rw [UInt32.toNat_ofNat', UInt32.toNat_ofNat']
  omega
theorem ofInt64 (n : Nat) : UInt64.ofInt (n : Int) = UInt64.ofNat n := by
  apply UInt64.toNat_inj.1
  show (UInt64.ofNat ((n : Int) % 18446744073709551616).toNat).toNat = _
  rw [UInt64.toNat_ofNat', UInt64.toNat_ofNat']
  omega
theorem get_u32 (w : List UInt32) (rest : List Value) (i : Nat) (h : i < w.length) : (w.map u32v ++ rest)[i]? = some (u32v (w.getD i 0)) := by
  rw [List.getElem?_append_left (by simpa using h), List.getElem?_map, List.getD_eq_getElem?_getD, List.getElem?_eq_getElem h]
  rfl
theorem set_u32 (w : List UInt32) (m : Nat) (v : UInt32) (h : w.length < m) : (w.map u32v ++ List.replicate (m - w.length) (u32v 0)).set w.length (u32v v) = (w ++ [v]).map u32v ++ List.replicate (m - (w.length + 1)) (u32v 0) := by
  obtain ⟨d, rfl⟩ : ∃ d, m = w.length + 1 + d := ⟨m - (w.length + 1), by omega⟩
  rw [show w.length + 1 + d - w.length = d + 1 by omega, show w.length + 1 + d - (w.length + 1) = d by omega, List.replicate_succ, List.set_append_right _ _ (by simp)]
  simp
theorem get_u32' (w : List UInt32) (i : Nat) (h : i < w.length) : (w.map u32v)[i]? = some (u32v (w.getD i 0)) := by
  have := get_u32 w [] i h
  rwa [List.append_nil] at this
theorem u32_one (w : List UInt32) : (w.map u32v).all one = true := by simp [one, Value.oneCell']
section
variable {P : Program} {n : Nat} {Q : Post} {F : Fr} {D : List Deferred} {G : World} {M M0 : Mem} {L L0 : Own} {ops : Array Oper} {τ f : Nat} {X : Array Bool}
theorem TP.retA {ch : List PanicEntry} {Kp : List PanicEntry → Mem → Own → Prop} (e : Q.pn = fun c a w => a.defers = [] ∧ ∃ M' L', Le M0 M' ∧ St G M' L' w ∧ Kp c M' L') (hle : Le M0 M) (h : Kp ch M L) : TP n Q ch F [] G M L := fun w a hw ha => by
  rw [e]; exact ⟨ha.defers, M, L, hle, hw, h⟩
theorem TP.dropTo {c : List PanicEntry} (T' : Own) (hd : DropTo L T') (h : TP n Q c F D G M T') : TP n Q c F D G M L := fun w a hw ha => h w a hw.dropTo ha
theorem x_meet {a b : Code} (I : Fr → List Deferred → Mem → Own → Prop)
    (hb : ∀ F' D' M' L', I F' D' M' L' → T P n b Q F' D' G M' L') (ha : (∀ F' D' M' L', I F' D' M' L' → T P n b Q F' D' G M' L') → T P n a (thenQ P n b Q) F D G M L) : T P n a (thenQ P n b Q) F D G M L := ha hb
end
end Go.Eng
set_option linter.unusedVariables false
set_option linter.unusedSimpArgs false
namespace Go.Eng
section
variable {P : Program} {ty : TypeId} {F : Fr} {M : Mem} {L : Own} {x y : Operand} {t t' : TypeId}
def EqF (P : Program) (fs : List Field) (xs ys : List Value) (r : Prop) [Decidable r] : Prop := ∀ (d : Nat) w, (Op.eqFields (d + 1) xs.toArray ys.toArray fs).run P w = .ok (decide r) w
theorem eqF_nil {xs ys : List Value} : EqF P [] xs ys True := fun d w => by simp [Op.eqFields]
theorem run_part {t : TypeId} {d : TypeDesc} {z : Value} {s b : Nat} [ti : TI P t d z s b] (ha : aggD d = false) {cs : List Value} {o : Nat} {v : Value} (h : cs[o]? = some v) (w : World) : (part t cs.toArray o).run P w = .ok v w := by
  simp [part, run_isAgg ti.und, ha, h]
theorem eqF_int {f : Field} {fs : List Field} {k : IntKind} {z : Value} {s b0 : Nat} [ti : TI P f.type (.int k) z s b0] {xs ys : List Value} {a b : Int} {r : Prop} [Decidable r] (hn : f.name ≠ "_") (hx : xs[f.offset]? = some (.int k a)) (hy : ys[f.offset]? = some (.int k b)) (h : EqF P fs xs ys r) :
    EqF P (f :: fs) xs ys (a = b ∧ r) := fun d w => by
  simp only [Op.eqFields, if_pos hn, Sem.run_bind, run_part (d := .int k) rfl hx, run_part (d := .int k) rfl hy, Result.andThen_ok, run_equalIn_int w d f.type k k a b ti.und]
  by_cases hab : a = b
  · subst hab
    simp [h d w]
  · simp [hab]
structure EqS (P : Program) (t : TypeId) (xs ys : List Value) (r : Prop) [Decidable r] : Prop where
  g : P.eqGuardType P.depth t = false
  run : ∀ w, (Op.equalIn 10000 t (.agg xs.toArray) (.agg ys.toArray)).run P w = .ok (decide r) w
theorem eqS_of {xs ys : List Value} {r : Prop} [Decidable r] (fs : Array Field) (hu : P.underlying t = some (.struct fs)) (hp : P.stoodInHeld t = false) (hg : P.eqGuardType P.depth t = false) (h : EqF P fs.toList xs ys r) : EqS P t xs ys r := by
  have hf : P.fieldsOf t = fs := by simp [Program.fieldsOf, hu]
  refine ⟨hg, fun w => ?_⟩
  rw [run_equalIn_struct w 9999 t xs.toArray ys.toArray (by rw [hf]; exact hu) hp, hf]
  exact h 9998 w
theorem y_eqlS {xs ys : List Value} {r : Prop} [Decidable r] (hx : ev F x = some (.agg xs.toArray)) (hy : ev F y = some (.agg ys.toArray)) (h : EqS P t xs ys r) : Yld P (.binOp .eql t x y t') ty F M L (.bool (decide r)) := fun w ρ hs hρ => by
  have hr : (binOp .eql t (.agg xs.toArray) (.agg ys.toArray)).run P w = .ok (.bool (decide r)) w := by rw [run_eql_struct, h.run w]; rfl
  simp only [execOp, hρ _ _ hx, hρ _ _ hy, Sem.run_bind, run_eqGuard_agg w .eql t x y _ _ h.g, Result.andThen_ok, hr, Sem.run_pure]
end
section
variable {P : Program} {F : Fr} {G : World} {M : Mem} {L L' : Own}
theorem rv3 {fn : Func} {r r' r'' : ResultVar} {v v' v'' : Value} (hr : fn.results = #[r, r', r'']) (h : RC P F M L r v) (h' : RC P F M L r' v') (h'' : RC P F M L r'' v'') : RV P fn F M L (.tuple #[v, v', v'']) := fun w tmps hs ht => by
  have h1 := h w tmps hs ht
  have h2 := h' w tmps hs ht
  have h3 := h'' w tmps hs ht
  simp only [results, hr, List.mapM_toArray, List.mapM_cons, List.mapM_nil, Sem.run_bind, Sem.run_map]
  cases r <;> cases r' <;> cases r'' <;> simp_all [Sem.run_bind]
theorem Con.bring {f : FuncId} {args : Array Value} {K : Value → Mem → Own → Prop} {Kp : List PanicEntry → Mem → Own → Prop} (b : Nat) {o : Obj} (hs : Sel L b o L') (h : Con P f args G M ((b, o) :: L') K Kp) : Con P f args G M L K Kp := h.perm hs.perm
end
end Go.Eng
set_option linter.unusedVariables false
set_option linter.unusedSimpArgs false
namespace Go.Proofs.YtiimjodbaogjbaaGreatDoor
open Go Go.Eng
theorem cutLeft {a b : List Value} {n : Nat} (h : a.length = n) : CutAt (a ++ b) 0 n a := ⟨fun j v hj => by
  have hlt : j < a.length := by
    rcases Nat.lt_or_ge j a.length with h1 | h1
    · exact h1
    · rw [List.getElem?_eq_none h1] at hj; cases hj
  rw [Nat.zero_add, List.getElem?_append_left hlt]; exact hj, h⟩
theorem putLeft {a b cs : List Value} (h : a.length = cs.length) : PutAt (a ++ b) 0 cs (cs ++ b) := ⟨by
  rw [List.take_zero, List.nil_append, Nat.zero_add, ← h, List.drop_left], by rw [List.length_append]; omega⟩
theorem putRight {a b cs b' : List Value} {n : Nat} (h : a.length = n) (hp : PutAt b 0 cs b') : PutAt (a ++ b) n cs (a ++ b') := by
  subst h
  have h1 := hp.put
  have h2 := hp.le
  rw [List.take_zero, List.nil_append, Nat.zero_add] at h1
  refine ⟨?_, by rw [List.length_append]; omega⟩
  rw [h1, List.take_left, List.drop_append, show a.drop (a.length + cs.length) = [] from List.drop_of_length_le (by omega), Nat.add_sub_cancel_left, List.nil_append]
theorem getRight {a b : List Value} {n i : Nat} (h : a.length = n) : (a ++ b)[n + i]? = b[i]? := by
  subst h; rw [List.getElem?_append_right (by omega), Nat.add_sub_cancel_left]
theorem get_mid {pre slack : List Value} {bs : List UInt8} {i : Nat} (h : i < bs.length) : (pre ++ (bs.map bv ++ slack))[pre.length + i]? = some (.int .u8 ((bs.getD i 0).toNat : Int)) := by
  rw [List.getElem?_append_right (by omega), Nat.add_sub_cancel_left, List.getElem?_append_left (by simpa using h), List.getElem?_map, List.getD_eq_getElem?_getD, List.getElem?_eq_getElem h]
  rfl
theorem set_zero {a : List UInt8} {m : Nat} {v : UInt8} (h : a.length < m) : (a.map bv ++ List.replicate (m - a.length) (Value.int .u8 0)).set a.length (.int .u8 (v.toNat : Int)) = (a ++ [v]).map bv ++ List.replicate (m - (a.length + 1)) (.int .u8 0) := by
  rw [List.set_append_right _ _ (by simp), List.length_map, Nat.sub_self, show m - a.length = (m - (a.length + 1)) + 1 by omega, List.replicate_succ, List.set_cons_zero, List.map_append, List.append_assoc]
  rfl
theorem Bytes.take3 {M : Mem} {A : Option Addr} {n c : Nat} {bs : List UInt8} (h : Bytes M A n c bs) (k m : Nat) (hk : k ≤ n) (h1 : k ≤ m) (h2 : m ≤ c) : Bytes M (sl A 0 m 1) k m (bs.take k) := by
  have := Row.slice h (l := 0) (h := k) (m := m) (by omega) hk h1 h2
  rw [Nat.sub_zero, Nat.sub_zero, Nat.zero_mul, List.drop_zero, Nat.mul_one, List.map_take.symm] at this
  exact this
theorem Bytes.sub3 {M : Mem} {A : Option Addr} {n c : Nat} {bs : List UInt8} (h : Bytes M A n c bs) (l m : Nat) (hk : l ≤ n) (h1 : n ≤ m) (h2 : m ≤ c) : Bytes M (sl A l m 1) (n - l) (m - l) (bs.drop l) := by
  have := Row.slice h (l := l) (h := n) (m := m) hk (Nat.le_refl _) h1 h2
  rw [Nat.mul_one, Nat.mul_one, ← List.map_drop, List.take_of_length_le (by rw [List.length_map, List.length_drop, h.size]; omega)] at this
  exact this
end Go.Proofs.YtiimjodbaogjbaaGreatDoor
