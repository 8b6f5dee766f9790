/-
The walk engine: ways that meet, more numbers.
-/
import Derived.Test.YtbgdjdhbejbhkaaDoorEngK
set_option linter.unusedVariables false
set_option linter.unusedSimpArgs false
namespace Go.Eng
section
variable {P : Program} {ty : TypeId} {F : Fr} {M : Mem} {L : Own} {x y : Operand}
theorem y_cap {t : TypeId} {e : TypeId} {z : Value} {s b0 : Nat} [ti : TI P t (.slice e) z s b0] {A : Option Addr} {l c : Nat} (hx : ev F x = some (.slice A l c)) :
    Yld P (.call ⟨.builtin .cap, #[x], #[t]⟩) ty F M L (.int .i64 c) := fun w ρ hs hρ => by
  simp [execOp, resolve, invoke, builtin, Builtin.cap_, hρ _ _ hx, run_underlying ti.und, goInt]
theorem y_max {k : IntKind} {a b : Int} (hx : ev F x = some (.int k a)) (hy : ev F y = some (.int k b)) {ts : Array TypeId} : Yld P (.call ⟨.builtin .max, #[x, y], ts⟩) ty F M L (.int k (if b > a then b else a)) := fun w ρ hs hρ => by
  simp [execOp, resolve, invoke, builtin, Builtin.max_, Builtin.max2, hρ _ _ hx, hρ _ _ hy]
end
theorem OwnRow.cut0 {e : TypeId} {s n cap : Nat} {A : Option Addr} {vs : List Value} {E : Own} (h : OwnRow e s A n cap vs E) : OwnRow e s (sl A 0 cap s) 0 cap [] E := by
  cases h with
  | nil => simpa [sl] using OwnRow.nil
  | @row g _ _ pre _ slack h1 h2 h3 h4 =>
    have e1 : sl (some (⟨g, pre.length, none⟩ : Addr)) 0 cap s = some ⟨g, pre.length, none⟩ := by
      unfold sl; split <;> simp [add_plain]
    rw [e1]
    have := OwnRow.row (e := e) (s := s) (g := g) (n := 0) (cap := cap) (pre := pre) (vs := []) (slack := vs ++ slack) (by simp) (by simpa using h2) (Nat.zero_le _) h4
    simpa using this
section
variable {P : Program} {n : Nat} {Q : Post} {F : Fr} {D : List Deferred} {G : World} {M : Mem} {L R : Own} {d : Option Tmp} {ty : TypeId} {K : Fr → List Deferred → Mem → Own → Prop}
theorem zeroCells_one {z : Value} (m : Nat) : Builtin.zeroCells #[z] m = (List.replicate m z).toArray := by
  apply Array.ext
  · simp [Builtin.zeroCells]
  · intro i h1 h2
    simp [Builtin.zeroCells, Nat.mod_one]
/-- 'append(nil, make(n)...)'. -/
theorem e_appendZ {t ti2 : TypeId} {e : TypeId} {x y : Operand} {z z0 z2 : Value} {b0 s0 b00 s2 b2 : Nat} {de : TypeDesc} [ti : TI P t (.slice e) z0 s0 b00] [te : TI P e de z 1 b0] [t2 : TI P ti2 (.int .i64) z2 s2 b2] [tc : CellsOf z [z]] {m : Int}
    (hx : ev F x = some (.slice none 0 0)) (hy : ev F y = some (.int .i64 m)) (hm : 0 < m ∧ m ≤ 140737488355328) (hby : m.toNat * b0 ≤ 140737488355328)
    (h : ∀ A' cap' E', OwnRow e 1 A' m.toNat cap' (List.replicate m.toNat z) E' → K (putF d (.slice A' m.toNat cap') F) D M (E' ++ L)) :
    Tr P n d (.call ⟨.builtin .append, #[x, y], #[t, ti2]⟩) ty Q F D G M L K := tr_value (fun c h => by cases h) fun w ρ hw hρ => by
  obtain ⟨j, hj, hjz, hjs, hjb⟩ := te.parts
  subst hjb
  obtain ⟨k, rfl⟩ : ∃ k : Nat, m = k := ⟨m.toNat, by omega⟩
  simp only [Int.toNat_natCast] at *
  have hk : 0 < k := by omega
  have hfit : ¬ (Builtin.nextslicecap k 0 * j.bytes > 2 ^ 48) := by
    have := growslice_fits (need := k) (old := 0) (bytes := j.bytes) (by omega) hby
    omega
  have hcap := grownCap_ge w k 0 e
  have hcapm := grownCap_le_maxLen w k 0 e (by simp only [maxLen]; omega)
  simp only [maxLen] at hcapm
  refine ⟨.slice (some ⟨w.heap.size, 0, none⟩) k (grownCap w k 0 e), { w with drawn := w.drawn + 1, heap := w.heap.push (.cells ([] ++ (List.replicate k z ++ List.replicate (grownCap w k 0 e - k) z)).toArray e (0, 0)) }, M,
    [(w.heap.size, .cells ([] ++ (List.replicate k z ++ List.replicate (grownCap w k 0 e - k) z)).toArray e (0, 0))] ++ L, ?_, ?_, h _ _ _ ?_⟩
  · have hwrap : IntKind.i64.wrap (k : Int) = k := IntWalk.i64_in _ (by omega)
    have k0 : ¬ ((k : Int) < 0) := by omega
    have kb : (k : Int) * (j.bytes : Int) = ((k * j.bytes : Nat) : Int) := by simp
    have k1 : ¬ (((k : Int) * (j.bytes : Int)) > 281474976710656) := by rw [kb]; omega
    have k2 : ¬ (k ≤ 0) := by omega
    have k3 : ¬ ((9223372036854775807 : Int) < (k : Int)) := by omega
    have k4 : ¬ (281474976710656 < Builtin.nextslicecap k 0 * j.bytes) := by omega
    have hfc : (Builtin.firstCells 1 0 (.slice none 0 0)).run P w.drew = .ok #[] w.drew := run_firstCells (vs := []) (by simp) (fun h => by omega)
    have kk : k ≠ 0 := by omega
    simp only [execOp, resolve, invoke, builtin, Sem.run_bind, Sem.run_pure, Result.andThen_ok, List.map_toArray, List.map_cons, List.map_nil, hρ _ _ hx, hρ _ _ hy]
    simp [Builtin.append_, run_underlying ti.und, run_underlying t2.und, sizeOf, typeInfo, zeroValue, hj, hjz, hjs, asInt, asIntOf, hwrap, k0, k1, k2, k3, k4, kk, Question.forced, hfc, newRow, grownCap, tc.eq, zeroCells_one]
    rfl
  · exact St.alloc hw rfl rfl rfl rfl
  · refine OwnRow.row (pre := []) (by simp) (by simp; omega) hcap (by omega)
end
/-! ### More numbers -/
section
variable {P : Program} {ty : TypeId} {F : Fr} {M : Mem} {L : Own} {x y : Operand} {t t' : TypeId}
theorem y_convE {z z' : Value} {s s' b0 b' : Nat} {d0 : TypeDesc} {kd k : IntKind} {a b : Int} [ti : TI P t d0 z s b0] [ti' : TI P t' (.int kd) z' s' b'] (hx : ev F x = some (.int k a)) (h : kd.wrap a = b) : Yld P (.convert t t' x) ty F M L (.int kd b) := h ▸ y_conv hx
/-- To 'int', of a number that has room. -/
theorem y_convI {z z' : Value} {s s' b0 b' : Nat} {d0 : TypeDesc} {k : IntKind} {a : Int} [ti : TI P t d0 z s b0] [ti' : TI P t' (.int .i64) z' s' b'] (hx : ev F x = some (.int k a)) (h : -9223372036854775808 ≤ a ∧ a ≤ 9223372036854775807) : Yld P (.convert t t' x) ty F M L (.int .i64 a) := y_convE hx (IntWalk.i64_in _ h)
theorem y_quoI {a b : Int} (hx : ev F x = some (.int .i64 a)) (hy : ev F y = some (.int .i64 b)) (h : 0 ≤ a ∧ 0 < b ∧ a ≤ 9223372036854775807) : Yld P (.binOp .quo t x y t') ty F M L (.int .i64 (a / b)) := by
  have h1 := y_quo (P := P) (M := M) (L := L) (t := t) (t' := t') (ty := ty) hx hy (by omega)
  have h2 : a / b ≤ a := Int.ediv_le_self _ h.1
  have h3 : 0 ≤ a / b := Int.ediv_nonneg h.1 (by omega)
  rwa [Int.tdiv_eq_ediv_of_nonneg h.1, IntWalk.i64_in _ (by omega)] at h1
theorem y_remI {k : IntKind} {a b : Int} (hx : ev F x = some (.int k a)) (hy : ev F y = some (.int k b)) (h : 0 ≤ a ∧ 0 < b) : Yld P (.binOp .rem t x y t') ty F M L (.int k (a % b)) := by
  have h1 := y_rem (P := P) (M := M) (L := L) (t := t) (t' := t') (ty := ty) hx hy (by omega)
  rwa [Int.tmod_eq_emod_of_nonneg h.1] at h1
end
/-! ### Parts of rows of bytes -/
theorem Bytes.take {M : Mem} {A : Option Addr} {n c : Nat} {bs : List UInt8} (h : Bytes M A n c bs) (k : Nat) (hk : k ≤ n) : Bytes M (sl A 0 c 1) k c (bs.take k) := by
  have h1 := Row.slice h (l := 0) (h := k) (m := c) (by omega) hk (by have := h.le; omega) (Nat.le_refl _)
  simpa [Bytes, List.map_take] using h1
theorem Bytes.drop {M : Mem} {A : Option Addr} {n c : Nat} {bs : List UInt8} (h : Bytes M A n c bs) (k : Nat) (hk : k ≤ n) : Bytes M (sl A k c 1) (n - k) (c - k) (bs.drop k) := by
  have h1 := Row.slice h (l := k) (h := n) (m := c) hk (Nat.le_refl _) h.le (Nat.le_refl _)
  have hs := h.size
  rw [Nat.mul_one, Nat.mul_one, ← List.map_drop, ← List.map_take, List.take_of_length_le (by simp; omega)] at h1
  exact h1
theorem Bytes.sub {M : Mem} {A : Option Addr} {n c : Nat} {bs : List UInt8} (h : Bytes M A n c bs) (l k : Nat) (hl : l ≤ k) (hk : k ≤ n) : Bytes M (sl A l c 1) (k - l) (c - l) ((bs.drop l).take (k - l)) := by
  have h1 := Row.slice h (l := l) (h := k) (m := c) hl hk (by have := h.le; omega) (Nat.le_refl _)
  rw [Nat.mul_one, Nat.mul_one, ← List.map_drop, ← List.map_take] at h1
  exact h1
theorem take_snoc {α : Type} (l : List α) (k : Nat) (d : α) (h : k < l.length) : l.take (k + 1) = l.take k ++ [l.getD k d] := by
  rw [List.take_add_one, List.getElem?_eq_getElem h, List.getD_eq_getElem?_getD, List.getElem?_eq_getElem h]; rfl
theorem getD_mem {α : Type} (l : List α) (k : Nat) (d : α) (h : k < l.length) : l.getD k d ∈ l := by
  rw [List.getD_eq_getElem?_getD, List.getElem?_eq_getElem h]; exact List.getElem_mem h
theorem flatten_take_le {α : Type} (l : List (List α)) (k : Nat) : (l.take k).flatten.length ≤ l.flatten.length := by
  conv => rhs; rw [← List.take_append_drop k l, List.flatten_append, List.length_append]
  omega
section
variable {P : Program} {n : Nat} {Q : Post} {F : Fr} {D : List Deferred} {G : World} {M : Mem} {L L' : Own} {ops : Array Oper} {rest : List Oper} {c : Code}
theorem TL.eqL (h : L = L') (k : TL P n ops rest Q F D G M L') : TL P n ops rest Q F D G M L := h ▸ k
theorem T.eqL (h : L = L') (k : T P n c Q F D G M L') : T P n c Q F D G M L := h ▸ k
/-- What a call leaves, with entries let go and in another order. -/
theorem Con.postD {f : FuncId} {args : Array Value} {K K' : Value → Mem → Own → Prop} {Kp : List PanicEntry → Mem → Own → Prop} (h : Con P f args G M L K noPanic)
    (hk : ∀ v M' L1, Le M M' → K v M' L1 → ∃ L2, DropTo L1 L2 ∧ K' v M' L2) : Con P f args G M L K' Kp :=
  ⟨h.enter, fun w hw => (h.calls w hw).mono fun e w' he => by
    cases e with
    | returned v => obtain ⟨M', L1, a, b, c⟩ := he; obtain ⟨L2, d, e⟩ := hk v M' L1 a c; exact ⟨M', L2, a, b.dropTo, e⟩
    | panicked v => obtain ⟨M', L', a, b, c⟩ := he; exact c.elim
    | outgrown => exact he⟩
/-- A range over a function; the loop's parts by name. -/
theorem x_rangeN {g : Operand} {ps : Array Tmp} {as bd : Code} {gf : FuncId} {first cap : List Value} (hro : Q.ro = none)
    (hg : ev F g = some (.func (.func gf) first.toArray cap.toArray))
    (hcall : ∀ (l r fn : Nat) (tm : Array Value) (ps' : Array Tmp) (as' bd' : Code), ps' = ps → as' = as → bd' = bd → Rel n { tmps := tm, defers := [] } F [] →
      Con P gf (first ++ [Value.func (.yield l) #[] #[]] ++ cap).toArray G M (lrec l .ready none fn tm ps' as' bd' r :: (r, .deferred (some [])) :: L)
      (fun v M' L' => ∃ st pd L2, st ≠ .busy ∧ L' = lrec l st pd fn tm ps' as' bd' r :: (r, .deferred (some [])) :: L2 ∧
        match pd with
        | none => TQ Q .normal F (mark r :: D) G M' (lrec l .exhausted pd fn tm ps' as' bd' r :: (r, .deferred (some [])) :: L2)
        | some c => okCode n c = true ∧ T P n c Q F (mark r :: D) G M' (lrec l .exhausted pd fn tm ps' as' bd' r :: (r, .deferred (some [])) :: L2))
      noPanic) :
    T P n (.rangeFunc g ps as bd) Q F D G M L := x_range (Kv := fun _ _ _ => True) (Kp := noPanic) hro hg fun l r fn tm h =>
  (hcall l r fn tm ps as bd rfl rfl rfl h).mono (fun v M' L' _ hk => hk) (fun _ _ _ _ h => h.elim)
end
section
variable {P : Program} {n : Nat} {F : Fr} {D : List Deferred} {G : World} {M M0 : Mem} {L R X : Own} {l r fn : Nat} {tm : Array Value} {ps : Array Tmp} {as_ bd : Code} {pd : Option Code} {Kt Kf : Mem → Own → Prop} {st : LoopState}
theorem TQ.eqL {Q : Post} {e : Exit} {L' : Own} (h : L = L') (k : TQ Q e F D G M L') : TQ Q e F D G M L := h ▸ k
theorem DropTo.selD {L L1 T : Own} {b : Nat} {o : Obj} (h : Sel L b o L1) (k : DropTo L1 T) : DropTo L ((b, o) :: T) := inferInstance
theorem TQ.on {L1 : Own} (Xn : Own) (hs : Sel L l (.loop (recOfLoop st pd fn tm ps as_ bd r)) L1) (hd : DropTo L1 Xn) (he : Xn = X ++ R) (hle : Le M0 M) (hk : Kt M (lrec l .ready none fn tm ps as_ bd r :: X)) :
    TQ (roundQ P l fun e w' => ∃ v M' X', e = .returned v ∧ Le M0 M' ∧ St G M' (R ++ X') w' ∧ ((v = .bool true ∧ Kt M' X') ∨ (v = .bool false ∧ Kf M' X'))) .normal F D G M L :=
  .dropTo _ (.selD hs hd) (.eqL (by rw [he]) (.round_on (st := st) (pd := pd) hle hk))
theorem TQ.off_ret {L1 : Own} (Xn : Own) (hs : Sel L l (.loop (recOfLoop st pd fn tm ps as_ bd r)) L1) (hd : DropTo L1 Xn) (he : Xn = X ++ R) (hle : Le M0 M) (hk : Kf M (lrec l .done (some .ret) fn tm ps as_ bd r :: X)) :
    TQ (roundQ P l fun e w' => ∃ v M' X', e = .returned v ∧ Le M0 M' ∧ St G M' (R ++ X') w' ∧ ((v = .bool true ∧ Kt M' X') ∨ (v = .bool false ∧ Kf M' X'))) .ret F D G M L :=
  .dropTo _ (.selD hs hd) (.eqL (by rw [he]) (.round_ret (st := st) (pd := pd) hle hk))
theorem TQ.off_exit {i : Nat} {L1 : Own} (Xn : Own) (hs : Sel L l (.loop (recOfLoop st pd fn tm ps as_ bd r)) L1) (hd : DropTo L1 Xn) (he : Xn = X ++ R) (hle : Le M0 M) (hk : Kf M (lrec l .done (some (.exit i)) fn tm ps as_ bd r :: X)) :
    TQ (roundQ P l fun e w' => ∃ v M' X', e = .returned v ∧ Le M0 M' ∧ St G M' (R ++ X') w' ∧ ((v = .bool true ∧ Kt M' X') ∨ (v = .bool false ∧ Kf M' X'))) (.exit i) F D G M L :=
  .dropTo _ (.selD hs hd) (.eqL (by rw [he]) (.round_exit (st := st) (pd := pd) hle hk))
end
/-- Ways that come together again: what holds there. -/
theorem x_join {P : Program} {n : Nat} {Q : Post} {F : Fr} {D : List Deferred} {G : World} {M : Mem} {L : Own} {a b : Code} (I : Fr → List Deferred → Mem → Own → Prop)
    (hb : ∀ F' D' M' L', I F' D' M' L' → T P n b Q F' D' G M' L') (ha : (∀ F' D' M' L', I F' D' M' L' → T P n b Q F' D' G M' L') → T P n a (thenQ P n b Q) F D G M L) : T P n (.seq a b) Q F D G M L := x_seq (ha hb)
instance {x : UInt8} : CellsOf (bv x) [bv x] := ⟨rfl⟩
section
variable {P : Program} {ty : TypeId} {F : Fr} {M : Mem} {L : Own}
/-- An element's address, the number known. -/
theorem y_indexArrK {x ix : Operand} {t e : TypeId} {z z' : Value} {s b0 s' b' m : Nat} {d' : TypeDesc} [ti : TI P t (.array m e) z s b0] [te : TI P e d' z' s' b'] {b o o' mm : Nat} {k : IntKind} (j : Nat)
    (hx : ev F x = some (.pointer (some ⟨b, o, none⟩))) (hi : ev F ix = some (.int k (j : Int))) (h : j < m) [hm : MulN j s' mm] [ha : AddN o mm o'] :
    Yld P (.indexAddr t x ix) ty F M L (.pointer (some ⟨b, o', none⟩)) := by
  have := y_indexArr (P := P) (M := M) (L := L) (ty := ty) (t := t) hx hi (by omega)
  rw [Int.toNat_natCast, hm.eq, ha.eq] at this
  exact this
theorem y_indexAddrK {x ix : Operand} {t e : TypeId} {z z' : Value} {s b0 s' b' : Nat} {d' : TypeDesc} [ti : TI P t (.slice e) z s b0] [te : TI P e d' z' s' b'] {b o l c o' mm : Nat} {k : IntKind} (j : Nat)
    (hx : ev F x = some (.slice (some ⟨b, o, none⟩) l c)) (hi : ev F ix = some (.int k (j : Int))) (h : j < l) [hm : MulN j s' mm] [ha : AddN o mm o'] :
    Yld P (.indexAddr t x ix) ty F M L (.pointer (some ⟨b, o', none⟩)) := by
  have := y_indexAddr (P := P) (M := M) (L := L) (ty := ty) (t := t) hx hi (by omega)
  rw [Int.toNat_natCast, hm.eq, ha.eq] at this
  exact this
end
section
variable {P : Program} {ty : TypeId} {F : Fr} {M : Mem} {L : Own} {x y : Operand} {t t' : TypeId}
theorem run_eq_bool (w : World) (d : Nat) (t : TypeId) (a b : Bool) (h : P.underlying t = some .bool) : (Op.equalIn (d + 1) t (.bool a) (.bool b)).run P w = .ok (a == b) w := by
  simp [Op.equalIn, run_underlying h]
theorem y_eqlBool {a b : Bool} {z : Value} {s b0 : Nat} [ti : TI P t .bool z s b0] (hx : ev F x = some (.bool a)) (hy : ev F y = some (.bool b)) : Yld P (.binOp .eql t x y t') ty F M L (.bool (a == b)) := fun w ρ hs hρ => by
  have hr : (binOp .eql t (.bool a) (.bool b)).run P w = .ok (.bool (a == b)) w := by
    simp only [binOp]; simp [Op.equal, Op.maxDepth, run_eq_bool w 9999 t a b ti.und]
  simp only [execOp, hρ _ _ hx, hρ _ _ hy, Sem.run_bind, eqGuard_bool, Result.andThen_ok, hr, Sem.run_pure]
theorem y_neqBool {a b : Bool} {z : Value} {s b0 : Nat} [ti : TI P t .bool z s b0] (hx : ev F x = some (.bool a)) (hy : ev F y = some (.bool b)) : Yld P (.binOp .neq t x y t') ty F M L (.bool (!(a == b))) := fun w ρ hs hρ => by
  have hr : (binOp .neq t (.bool a) (.bool b)).run P w = .ok (.bool (!(a == b))) w := by
    simp only [binOp]; simp [Op.equal, Op.maxDepth, run_eq_bool w 9999 t a b ti.und]
  simp only [execOp, hρ _ _ hx, hρ _ _ hy, Sem.run_bind, eqGuard_bool, Result.andThen_ok, hr, Sem.run_pure]
end
section
variable {P : Program} {n : Nat} {Q : Post} {F : Fr} {D : List Deferred} {G : World} {M M0 : Mem} {L L0 : Own} {ops : Array Oper} {rest : List Oper} {τ f : Nat} {X : Array Bool}
theorem TL.dropTo (T' : Own) (hd : DropTo L T') (h : TL P n ops rest Q F D G M T') : TL P n ops rest Q F D G M L := fun hok w a hw ha => h hok w a hw.dropTo ha
theorem TO.dropTo (T' : Own) (hd : DropTo L T') (h : TO P n ops τ M0 L0 f X Q F D G M T') : TO P n ops τ M0 L0 f X Q F D G M L := fun hok hkp w a hw ha hcl hs => h hok hkp w a hw.dropTo ha hcl hs
theorem TO.pubRow {R : Own} {e : TypeId} {s nn cap : Nat} {A : Option Addr} {vs : List Value} {E : Own} (ho : OwnRow e s A nn cap vs E) (h : ∀ M', Le M M' → Row M' s A nn cap vs → TO P n ops τ M0 L0 f X Q F D G M' R) : TO P n ops τ M0 L0 f X Q F D G M (E ++ R) := fun hok hkp w a hw ha hcl hs =>
  let ⟨M', h1, h2, h3⟩ := ho.pub hw
  h M' h1 h3 hok hkp w a h2 ha hcl hs
end
theorem Row.part {M : Mem} {b s n cap : Nat} {pre vs slack : List Value} {T : TypeId} {fr : Nat × Nat} (hM : M b = some (.cells (pre ++ (vs ++ slack)).toArray T fr)) (hl : vs.length = n * s) (hn : n ≤ cap) (h63 : cap ≤ 9223372036854775807) : Row M s (some ⟨b, pre.length, none⟩) n cap vs :=
  ⟨hl, hn, h63, fun _ => ⟨b, pre.length, _, T, fr, rfl, hM, fun j v hj => by
    rw [List.getElem?_toArray, List.getElem?_append_right (by omega), Nat.add_sub_cancel_left, List.getElem?_append_left (List.getElem?_eq_some_iff.1 hj).1]
    exact hj⟩⟩
theorem set_mid (pre vs slack : List Value) (j : Nat) (v : Value) (h : j < vs.length) : (pre ++ (vs ++ slack)).set (pre.length + j) v = pre ++ (vs.set j v ++ slack) := by
  rw [List.set_append_right _ _ (by omega), Nat.add_sub_cancel_left, List.set_append_left _ _ h]
theorem OwnRow.parts {e : TypeId} {s n cap : Nat} {A : Option Addr} {vs : List Value} {E : Own} (h : OwnRow e s A n cap vs E) (hn : 0 < n) : ∃ g pre slack, A = some ⟨g, pre.length, none⟩ ∧ E = [(g, .cells (pre ++ (vs ++ slack)).toArray e (0, 0))] := h.pos hn
/-! ### A drawn region's reads are anchored anew, behind the operation that changed what they look at -/
theorem wpAnyX_reset {P : Program} {ro : Option Nat} {ops : Array Oper} {Q : Exit → Act → World → Prop} {S S' : World → Prop} {τ τ' : Nat} : ∀ (f : Nat) (X : Array Bool) (a : Act) (w : World), X.getD τ false = true → wpAnyX P ro ops Q S' τ' f X a w → wpAnyX P ro ops Q S τ f X a w
  | 0, _, _, _, _, h => h
  | f + 1, X, a, w, hx, h => ⟨h.1, fun i hi => wpOpIn_mono (fun a' w' hh => by
      have hx' : (X.setIfInBounds i true).getD τ false = true := by
        by_cases hit : i = τ
        · subst hit
          have hlt : i < X.size := by
            rcases Nat.lt_or_ge i X.size with h' | h'
            · exact h'
            · simp [Array.getD_eq_getD_getElem?, Array.getElem?_eq_none h'] at hx
          simp [Array.getD_eq_getD_getElem?, hlt]
        · rw [getD_set_ne false hit]; exact hx
      exact ⟨(fun hd => by unfold Go.Eng.hd at hd; rw [hx'] at hd; cases hd), wpAnyX_reset f _ a' w' hx' hh.2⟩) (h.2 i hi)⟩
theorem TO.again {P : Program} {n : Nat} {Q : Post} {F : Fr} {D : List Deferred} {G : World} {M M0 : Mem} {L L0 : Own} {ops : Array Oper} {τ f : Nat} {X : Array Bool} (τ' : Nat) (hτ : X.getD τ false = true) (h : TO P n ops τ' M L f X Q F D G M L) : TO P n ops τ M0 L0 f X Q F D G M L :=
  fun hok hkp w a hw ha hcl _ => wpAnyX_reset f X a w hτ (h hok hkp w a hw ha hcl (fun _ => hw.sees))
theorem Row.cellsN {M : Mem} {s n cap : Nat} {A : Option Addr} {vs : List Value} (h : Row M s A n cap vs) (hn : 0 < n) : ∃ b o, A = some ⟨b, o, none⟩ ∧ ∀ L i m, i + m ≤ vs.length → CellsN M L ⟨b, o + i, none⟩ m ((vs.drop i).take m) := by
  obtain ⟨b, o, c, T, fr, e, hm, hc⟩ := h.at_ hn
  refine ⟨b, o, e, fun L i m hi => ⟨fun w hw j v hj => ?_, by simp; omega⟩⟩
  rw [add_plain, Nat.add_assoc]
  rw [List.getElem?_take] at hj
  split at hj
  · rw [List.getElem?_drop] at hj
    exact cell_of (hw.ro _ _ hm) (hc _ v hj)
  · cases hj
theorem CellsN.cell {M : Mem} {L : Own} {b o m : Nat} {vs : List Value} (h : CellsN M L ⟨b, o, none⟩ m vs) (j : Nat) {v : Value} (hj : vs[j]? = some v) : CellAt M L ⟨b, o + j, none⟩ v := fun w hw => by
  have := h.1 w hw j v hj
  rwa [add_plain] at this
end Go.Eng
