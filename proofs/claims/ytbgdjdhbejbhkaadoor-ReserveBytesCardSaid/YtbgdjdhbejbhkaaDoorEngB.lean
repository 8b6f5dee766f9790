/-
The walk engine: operations, contracts of functions.
-/
import Derived.Test.YtbgdjdhbejbhkaaDoorEngA
set_option linter.unusedVariables false
set_option linter.unusedSimpArgs false
namespace Go.Eng

/-! ### Operations -/
/-- Whether a guarded operation is carried out, as far as the frame tells. -/
def want (ops : Array Oper) (F : Fr) : Option (Nat × Bool) → Option Bool
  | none => some true
  | some (j, b) => match (ops[j]?).bind (·.dst) with
    | some s => match look F s with
      | some (.bool c) => some (c == b)
      | some (.tuple _) => some false
      | _ => none
    | none => none
theorem want_wanted {n : Nat} {a : Act} {F : Fr} {D : List Deferred} {ops : Array Oper} {o : Oper} {b : Bool} (h : want ops F o.guard = some b) (ha : Rel n a F D) : Region.wanted o (yielded ops a.tmps) = b := by
  unfold want at h
  unfold Region.wanted
  split at h
  · rename_i hg; rw [hg]; simpa using h
  · rename_i j c hg
    rw [hg]
    split at h
    · rename_i s hs
      split at h
      · rename_i d hd
        have h1 := ha.slot _ _ hd
        have : (a.tmps[s]?) = some (.bool d) := by
          rw [Array.getD_eq_getD_getElem?] at h1
          cases hx : a.tmps[s]? with
          | none => rw [hx] at h1; simp [undef] at h1
          | some u => rw [hx] at h1; simpa using h1
        simp only [yielded, hs, Option.bind_some, this]
        simp only [Option.some.injEq] at h
        rw [← h]
        cases d <;> cases c <;> rfl
      · rename_i d hd
        have h1 := ha.slot _ _ hd
        have hy : yielded ops a.tmps j = none := by
          simp only [yielded, hs, Option.bind_some]
          rw [Array.getD_eq_getD_getElem?] at h1
          cases hx : a.tmps[s]? with
          | none => rfl
          | some u => rw [hx] at h1; simp only [Option.getD_some] at h1; subst h1; rfl
        simp only [hy]
        simp only [Option.some.injEq] at h
        rw [← h]; rfl
      · cases h
    · cases h

/-- In whatever world shows these blocks the operation yields this value, and does nothing else. -/
def Yld (P : Program) (op : Op) (ty : TypeId) (F : Fr) (M : Mem) (L : Own) (v : Value) : Prop :=
  ∀ w (ρ : Operand → Value), Sees M L w → (∀ x u, ev F x = some u → ρ x = u) → (execOp ρ ⟨none, op, ty, "", #[], none⟩).run P w = .ok (.value v) w
/-- One operation that acts. -/
def Tr (P : Program) (n : Nat) (d : Option Tmp) (op : Op) (ty : TypeId) (Q : Post) (F : Fr) (D : List Deferred) (G : World) (M : Mem) (L : Own) (K : Fr → List Deferred → Mem → Own → Prop) : Prop :=
  okOp n ⟨d, op, ty, "", #[], none⟩ = true → ∀ w a, St G M L w → Rel n a F D →
    Oper.wpIn (fen Q.ro) 0 P ⟨d, op, ty, "", #[], none⟩ a w (fun a' w' => ∃ F' D' M' L', Rel n a' F' D' ∧ St G M' L' w' ∧ K F' D' M' L') (post n Q)
/-- A list of operations, in the order of the text. -/
def TL (P : Program) (n : Nat) (ops : Array Oper) (rest : List Oper) (Q : Post) (F : Fr) (D : List Deferred) (G : World) (M : Mem) (L : Own) : Prop :=
  rest.all (okOp n) = true → ∀ w a, St G M L w → Rel n a F D → wpListIn (fen Q.ro) 0 P ops (post n Q) rest a w
section
variable {P : Program} {n : Nat} {Q : Post} {F : Fr} {D : List Deferred} {G : World} {M : Mem} {L : Own} {ops : Array Oper} {rest : List Oper}
theorem x_region {id : Nat} {l : List Oper} (h : TL P n l.toArray l Q F D G M L) : T P n (.region id l.toArray false) Q F D G M L := fun hok w a hw ha =>
  wpIn_region_lit (h (by simpa [okCode] using hok) w a hw ha)
theorem tl_nil (h : TQ Q .normal F D G M L) : TL P n ops [] Q F D G M L := fun _ w a hw ha => ⟨F, D, ha, h w hw⟩
/-- The end of a list behind which a code stands. -/
theorem tl_then {c : Code} (h : T P n c Q F D G M L) : TL P n ops [] (thenQ P n c Q) F D G M L := tl_nil (.then_normal h)
theorem okOp_any {d : Option Tmp} {op op' : Op} {ty ty' : TypeId} {pos pos' : String} {aft aft' : Array Edge} {g g' : Option (Nat × Bool)} : okOp n ⟨d, op, ty, pos, aft, g⟩ = okOp n ⟨d, op', ty', pos', aft', g'⟩ := rfl
/-- What yields a value is no deferral. -/
theorem Yld.notDefer {op : Op} {ty : TypeId} {v : Value} (hy : Yld P op ty F M L v) {w : World} {ρ : Operand → Value} (hs : Sees M L w) (hρ : ∀ x u, ev F x = some u → ρ x = u) : ∀ c, op ≠ .defer c := by
  rintro c rfl
  have := hy w ρ hs hρ
  simp only [execOp, Sem.run_bind] at this
  cases hr : (resolve ρ c ty).run P w with
  | ok x w' => rw [hr] at this; simp at this
  | halt x w' => rw [hr] at this; simp at this
theorem Yld.wpIn {op : Op} {ty : TypeId} {v : Value} (hy : Yld P op ty F M L v) {w : World} {a : Act} (hs : Sees M L w) (hρ : ∀ x u, ev F x = some u → a.eval x = u)
    {d : Option Tmp} {pos : String} {aft : Array Edge} {g : Option (Nat × Bool)} {ro : Option Nat} {K : Act → World → Prop} {Q : Exit → Act → World → Prop} (h : K (a.put d v) w) : Oper.wpIn (fen ro) 0 P ⟨d, op, ty, pos, aft, g⟩ a w K Q := by
  refine ⟨fun _ _ => trivial, ?_⟩
  rw [Oper.semAt_eq _ _ _ (hy.notDefer hs hρ)]
  have hr : (execOp a.eval ⟨d, op, ty, pos, aft, g⟩).run P w = .ok (.value v) w := hy w a.eval hs hρ
  rw [hr]
  exact h
theorem tl_y {d : Tmp} {op : Op} {ty : TypeId} {pos : String} {aft : Array Edge} {g : Option (Nat × Bool)} {v : Value} (hg : want ops F g = some true) (hy : Yld P op ty F M L v)
    (h : TL P n ops rest Q ((d, v) :: F) D G M L) : TL P n ops (⟨some d, op, ty, pos, aft, g⟩ :: rest) Q F D G M L := fun hok w a hw ha => by
  simp only [List.all_cons, Bool.and_eq_true] at hok
  have hd : d < n := by have := hok.1; simp only [okOp, Nat.blt_eq] at this; exact this
  unfold wpListIn
  rw [if_pos (want_wanted (o := ⟨some d, op, ty, pos, aft, g⟩) hg ha)]
  exact hy.wpIn hw.sees (fun x u hx => ha.eval hx) (h hok.2 w _ hw (ha.put hd v))
theorem tl_e {d : Option Tmp} {op : Op} {ty : TypeId} {pos : String} {aft : Array Edge} {g : Option (Nat × Bool)} (hg : want ops F g = some true)
    (h : Tr P n d op ty Q F D G M L (fun F' D' M' L' => TL P n ops rest Q F' D' G M' L')) : TL P n ops (⟨d, op, ty, pos, aft, g⟩ :: rest) Q F D G M L := fun hok w a hw ha => by
  simp only [List.all_cons, Bool.and_eq_true] at hok
  unfold wpListIn
  rw [if_pos (want_wanted (o := ⟨d, op, ty, pos, aft, g⟩) hg ha)]
  have h1 := h hok.1 w a hw ha
  refine Oper.wpIn_mono (K := fun a' w' => ∃ F' D' M' L', Rel n a' F' D' ∧ St G M' L' w' ∧ TL P n ops rest Q F' D' G M' L') (fun a' w' ⟨F', D', M', L', hr, hs, hk⟩ => hk hok.2 w' a' hs hr) ?_
  exact h1
theorem tl_skip {d : Tmp} {op : Op} {ty : TypeId} {pos : String} {aft : Array Edge} {g : Option (Nat × Bool)} (hg : want ops F g = some false)
    (h : TL P n ops rest Q ((d, undef) :: F) D G M L) : TL P n ops (⟨some d, op, ty, pos, aft, g⟩ :: rest) Q F D G M L := fun hok w a hw ha => by
  simp only [List.all_cons, Bool.and_eq_true] at hok
  have hd : d < n := by have := hok.1; simp only [okOp, Nat.blt_eq] at this; exact this
  unfold wpListIn
  rw [if_neg (by rw [want_wanted (o := ⟨some d, op, ty, pos, aft, g⟩) hg ha]; simp)]
  exact ⟨fun _ _ => trivial, h hok.2 w _ hw (ha.put hd undef)⟩
theorem tl_skipNone {op : Op} {ty : TypeId} {pos : String} {aft : Array Edge} {g : Option (Nat × Bool)} (hg : want ops F g = some false)
    (h : TL P n ops rest Q F D G M L) : TL P n ops (⟨none, op, ty, pos, aft, g⟩ :: rest) Q F D G M L := fun hok w a hw ha => by
  simp only [List.all_cons, Bool.and_eq_true] at hok
  unfold wpListIn
  rw [if_neg (by rw [want_wanted (o := ⟨none, op, ty, pos, aft, g⟩) hg ha]; simp)]
  exact ⟨fun _ _ => trivial, h hok.2 w _ hw ha⟩
/-- A slot's bool is decided. -/
theorem tl_cases {s : Nat} {p : Prop} [Decidable p] (hs : look F s = some (.bool (decide p))) (ht : p → TL P n ops rest Q ((s, .bool true) :: F) D G M L)
    (hf : ¬ p → TL P n ops rest Q ((s, .bool false) :: F) D G M L) : TL P n ops rest Q F D G M L := fun hok w a hw ha => by
  by_cases hp : p
  · refine ht hp hok w a hw (ha.sub' ?_)
    simp only [hp, decide_true] at hs
    exact hs
  · refine hf hp hok w a hw (ha.sub' ?_)
    simp only [hp, decide_false] at hs
    exact hs
theorem tl_casesb {s : Nat} {t : Bool} (hs : look F s = some (.bool t)) (ht : t = true → TL P n ops rest Q ((s, .bool true) :: F) D G M L)
    (hf : t = false → TL P n ops rest Q ((s, .bool false) :: F) D G M L) : TL P n ops rest Q F D G M L := fun hok w a hw ha => by
  cases t with
  | true => exact ht rfl hok w a hw (ha.sub' hs)
  | false => exact hf rfl hok w a hw (ha.sub' hs)
theorem tl_set {s : Nat} {v u : Value} (hs : look F s = some v) (he : v = u) (h : TL P n ops rest Q ((s, u) :: F) D G M L) : TL P n ops rest Q F D G M L := fun hok w a hw ha =>
  h hok w a hw (ha.sub' (he ▸ hs))
theorem T.set {c : Code} {s : Nat} {v u : Value} (hs : look F s = some v) (he : v = u) (h : T P n c Q ((s, u) :: F) D G M L) : T P n c Q F D G M L := fun hok w a hw ha =>
  h hok w a hw (ha.sub' (he ▸ hs))
theorem TL.sub {F' : Fr} (hs : Sub F' F) (h : TL P n ops rest Q F' D G M L) : TL P n ops rest Q F D G M L := fun hok w a hw ha => h hok w a hw (ha.sub hs)
theorem T.perm {c : Code} {L' : Own} (hp : L.Perm L') (h : T P n c Q F D G M L') : T P n c Q F D G M L := fun hok w a hw ha => h hok w a (hw.perm hp) ha
theorem TL.perm {L' : Own} (hp : L.Perm L') (h : TL P n ops rest Q F D G M L') : TL P n ops rest Q F D G M L := fun hok w a hw ha => h hok w a (hw.perm hp) ha
theorem TQ.perm {e : Exit} {L' : Own} (hp : L.Perm L') (h : TQ Q e F D G M L') : TQ Q e F D G M L := fun w hw => h w (hw.perm hp)
theorem T.bring {c : Code} (b : Nat) {o : Obj} {L' : Own} (hs : Sel L b o L') (h : T P n c Q F D G M ((b, o) :: L')) : T P n c Q F D G M L := h.perm hs.perm
theorem TL.bring (b : Nat) {o : Obj} {L' : Own} (hs : Sel L b o L') (h : TL P n ops rest Q F D G M ((b, o) :: L')) : TL P n ops rest Q F D G M L := h.perm hs.perm
theorem T.pub {c : Code} (b : Nat) {o : Obj} {L' : Own} (hs : Sel L b o L') (h : ∀ M', Le M M' → M' b = some o → T P n c Q F D G M' L') : T P n c Q F D G M L := fun hok w a hw ha =>
  let ⟨h1, h2, h3⟩ := (hw.perm hs.perm).publish
  h _ h2 h3 hok w a h1 ha
theorem TL.pub (b : Nat) {o : Obj} {L' : Own} (hs : Sel L b o L') (h : ∀ M', Le M M' → M' b = some o → TL P n ops rest Q F D G M' L') : TL P n ops rest Q F D G M L := fun hok w a hw ha =>
  let ⟨h1, h2, h3⟩ := (hw.perm hs.perm).publish
  h _ h2 h3 hok w a h1 ha
theorem TQ.pub {e : Exit} (b : Nat) {o : Obj} {L' : Own} (hs : Sel L b o L') (h : ∀ M', Le M M' → M' b = some o → TQ Q e F D G M' L') : TQ Q e F D G M L := fun w hw =>
  let ⟨h1, h2, h3⟩ := (hw.perm hs.perm).publish
  h _ h2 h3 w h1
theorem T.drop {c : Code} (b : Nat) {o : Obj} {L' : Own} (hs : Sel L b o L') (h : T P n c Q F D G M L') : T P n c Q F D G M L := fun hok w a hw ha =>
  h hok w a (hw.perm hs.perm).drop ha
theorem TQ.drop {e : Exit} (b : Nat) {o : Obj} {L' : Own} (hs : Sel L b o L') (h : TQ Q e F D G M L') : TQ Q e F D G M L := fun w hw => h w (hw.perm hs.perm).drop
end

/-! ### A function's contract -/
/-- What a call does: 'K' of what it hands back and of the blocks then; 'Kp' where it panics. -/
structure Con (P : Program) (f : FuncId) (args : Array Value) (G : World) (M : Mem) (L : Own) (K : Value → Mem → Own → Prop) (Kp : List PanicEntry → Mem → Own → Prop) : Prop where
  enter : ∀ args w, (callFunc f args).run P w = .ok (.enter f args) w
  calls : ∀ w, St G M L w → Calls P f args w fun e w' => match e with
    | .returned v => ∃ M' L', Le M M' ∧ St G M' L' w' ∧ K v M' L'
    | .panicked c => ∃ M' L', Le M M' ∧ St G M' L' w' ∧ Kp c M' L'
    | .outgrown => False
def noPanic : List PanicEntry → Mem → Own → Prop := fun _ _ _ => False
def retQ (P : Program) (fn : Func) (G : World) (M : Mem) (K : Value → Mem → Own → Prop) (Kp : List PanicEntry → Mem → Own → Prop) : Post where
  ex := fun e F D w => match e with
    | .normal | .ret => D = [] ∧ ∃ v M' L', (∀ tmps, (∀ i u, look F i = some u → tmps.getD i undef = u) → (results fn tmps).run P w = .ok v w) ∧ Le M M' ∧ St G M' L' w ∧ K v M' L'
    | _ => False
  pn := fun c a w => a.defers = [] ∧ ∃ M' L', Le M M' ∧ St G M' L' w ∧ Kp c M' L'
  kp := []
  ro := none
  ins := fun _ _ _ _ _ _ h => h
def argsFr : Nat → List Value → Fr
  | _, [] => []
  | i, v :: vs => (i, v) :: argsFr (i + 1) vs
theorem look_argsFr : ∀ (vs : List Value) (k i : Nat) (v : Value), look (argsFr k vs) i = some v → k ≤ i ∧ vs[i - k]? = some v
  | [], _, _, _, h => by cases h
  | u :: us, k, i, v, h => by
    simp only [argsFr, look] at h
    by_cases hk : k = i
    · subst hk
      simp [Nat.beq_refl] at h
      simp [h]
    · have hb : Nat.beq k i = false := by rw [Bool.eq_false_iff]; exact fun hh => hk (Nat.eq_of_beq_eq_true hh)
      rw [hb] at h
      have := look_argsFr us (k + 1) i v h
      refine ⟨by omega, ?_⟩
      have he : i - k = (i - (k + 1)) + 1 := by omega
      rw [he, List.getElem?_cons_succ]
      exact this.2
theorem rel_enter (n : Nat) (args : List Value) : Rel n { tmps := args.toArray ++ Array.replicate (n - args.toArray.size) undef, defers := [] } (argsFr 0 args) [] := by
  refine ⟨by simp; omega, fun i v h => ?_, rfl⟩
  have := (look_argsFr args 0 i v h).2
  simp only [Nat.sub_zero] at this
  have hlt : i < args.length := (List.getElem?_eq_some_iff.1 this).1
  rw [Array.getD_eq_getD_getElem?, Array.getElem?_append_left (by simpa using hlt)]
  simp [this]
/-- A function, by its body. -/
structure Fun (P : Program) (f : FuncId) (fn : Func) (c : Code) : Prop where
  get : P.funcs[f]? = some fn
  body : fn.body = some c
  name : (fn.name == "runtime.NumGoroutine") = false
  ok : okCode fn.ntmps c = true
theorem Fun.enter {P : Program} {f : FuncId} {fn : Func} {c : Code} (h : Fun P f fn c) (args : Array Value) (w : World) : (callFunc f args).run P w = .ok (.enter f args) w := by
  unfold callFunc
  have := h.name
  simp only [beq_eq_false_iff_ne, ne_eq] at this
  simp [h.get, this, h.body]
section
variable {P : Program} {f : FuncId} {fn : Func} {c : Code} {args : List Value} {G : World} {M : Mem} {L : Own} {K : Value → Mem → Own → Prop} {Kp : List PanicEntry → Mem → Own → Prop}
theorem enter (hf : Fun P f fn c) (n : Nat) (hn : fn.ntmps = n) (h : T P n c (retQ P fn G M K Kp) (argsFr 0 args) [] G M L) : Con P f args.toArray G M L K Kp := by
  subst hn
  refine ⟨hf.enter, fun w hw => calls_of_wp hf.get hf.body (Code.wp_mono ?_ (wpIn_wide.1 (h hf.ok w _ hw (rel_enter _ _))))⟩
  intro e a w' hq
  cases e with
  | normal =>
    obtain ⟨F, D, hr, hD, v, M', L', hres, hle, hst, hK⟩ := hq
    exact ⟨hr.defers.trans hD, v, hres _ hr.slot, M', L', hle, hst, hK⟩
  | ret =>
    obtain ⟨F, D, hr, hD, v, M', L', hres, hle, hst, hK⟩ := hq
    exact ⟨hr.defers.trans hD, v, hres _ hr.slot, M', L', hle, hst, hK⟩
  | panic ch => exact ⟨hq.1, hq.2⟩
  | exit i => obtain ⟨F, D, hr, hq⟩ := hq; exact hq.elim
  | goto i => obtain ⟨F, D, hr, hq⟩ := hq; exact hq.elim
  | outgrown => exact hq.elim
end
section
variable {P : Program} {fn : Func} {G : World} {M M' : Mem} {L : Own} {K : Value → Mem → Own → Prop} {Kp : List PanicEntry → Mem → Own → Prop} {F : Fr}
theorem ret0 (hr : fn.results = #[]) (hle : Le M M') (hK : K (.tuple #[]) M' L) : TQ (retQ P fn G M K Kp) .ret F [] G M' L := fun w hw =>
  ⟨rfl, _, M', L, fun tmps _ => by simp [results, hr], hle, hw, hK⟩
theorem end0 (hr : fn.results = #[]) (hle : Le M M') (hK : K (.tuple #[]) M' L) : TQ (retQ P fn G M K Kp) .normal F [] G M' L := fun w hw =>
  ⟨rfl, _, M', L, fun tmps _ => by simp [results, hr], hle, hw, hK⟩
theorem ret1 {t : Tmp} {v : Value} (hr : fn.results = #[.tmp t]) (hv : look F t = some v) (hle : Le M M') (hK : K v M' L) : TQ (retQ P fn G M K Kp) .ret F [] G M' L := fun w hw =>
  ⟨rfl, v, M', L, fun tmps ht => by have h1 := ht t v hv; rw [Array.getD_eq_getD_getElem?] at h1; simp [results, hr, h1], hle, hw, hK⟩
theorem ret2 {t u : Tmp} {v v' : Value} (hr : fn.results = #[.tmp t, .tmp u]) (hv : look F t = some v) (hv' : look F u = some v') (hle : Le M M') (hK : K (.tuple #[v, v']) M' L) : TQ (retQ P fn G M K Kp) .ret F [] G M' L := fun w hw =>
  ⟨rfl, _, M', L, fun tmps ht => by have h1 := ht t v hv; have h2 := ht u v' hv'; rw [Array.getD_eq_getD_getElem?] at h1 h2; simp [results, hr, h1, h2], hle, hw, hK⟩
theorem ret3 {t u x : Tmp} {v v' v'' : Value} (hr : fn.results = #[.tmp t, .tmp u, .tmp x]) (hv : look F t = some v) (hv' : look F u = some v') (hv'' : look F x = some v'') (hle : Le M M') (hK : K (.tuple #[v, v', v'']) M' L) : TQ (retQ P fn G M K Kp) .ret F [] G M' L := fun w hw =>
  ⟨rfl, _, M', L, fun tmps ht => by have h1 := ht t v hv; have h2 := ht u v' hv'; have h3 := ht x v'' hv''; rw [Array.getD_eq_getD_getElem?] at h1 h2 h3; simp [results, hr, h1, h2, h3], hle, hw, hK⟩
theorem ret4 {t u x y : Tmp} {v v' v'' v3 : Value} (hr : fn.results = #[.tmp t, .tmp u, .tmp x, .tmp y]) (hv : look F t = some v) (hv' : look F u = some v') (hv'' : look F x = some v'') (hv3 : look F y = some v3) (hle : Le M M') (hK : K (.tuple #[v, v', v'', v3]) M' L) : TQ (retQ P fn G M K Kp) .ret F [] G M' L := fun w hw =>
  ⟨rfl, _, M', L, fun tmps ht => by have h1 := ht t v hv; have h2 := ht u v' hv'; have h3 := ht x v'' hv''; have h4 := ht y v3 hv3; rw [Array.getD_eq_getD_getElem?] at h1 h2 h3 h4; simp [results, hr, h1, h2, h3, h4], hle, hw, hK⟩
end
section
variable {P : Program} {n : Nat} {Q : Post} {F : Fr} {D : List Deferred} {G : World} {M : Mem} {L : Own} {d : Option Tmp} {ty : TypeId} {Kc : Fr → List Deferred → Mem → Own → Prop}
def putF (d : Option Tmp) (v : Value) (F : Fr) : Fr := match d with | some d => (d, v) :: F | none => F
theorem Rel.putF {a : Act} (h : Rel n a F D) {d : Option Tmp} {op : Op} {ty : TypeId} (hok : okOp n ⟨d, op, ty, "", #[], none⟩ = true) (v : Value) : Rel n (a.put d v) (putF d v F) D := by
  cases d with
  | none => exact h
  | some d => exact h.put (by simpa [okOp, Nat.blt_eq] using hok) v
/-- The arguments of a call, read off the frame. -/
def evs (F : Fr) : List Operand → Option (List Value)
  | [] => some []
  | x :: xs => match ev F x, evs F xs with
    | some v, some vs => some (v :: vs)
    | _, _ => none
theorem evs_map {ρ : Operand → Value} (h : ∀ x u, ev F x = some u → ρ x = u) : ∀ (xs : List Operand) (vs : List Value), evs F xs = some vs → xs.map ρ = vs
  | [], vs, hv => by cases hv; rfl
  | x :: xs, vs, hv => by
    simp only [evs] at hv
    cases h1 : ev F x with
    | none => rw [h1] at hv; cases hv
    | some v =>
      cases h2 : evs F xs with
      | none => rw [h1, h2] at hv; cases hv
      | some us =>
        rw [h1, h2] at hv
        simp only [Option.some.injEq] at hv
        subst hv
        simp [h x v h1, evs_map h xs us h2]
theorem e_callv {f : FuncId} {c : Operand} {xs : List Operand} {argTypes : Array TypeId} {first cap vs : List Value} {K : Value → Mem → Own → Prop} {Kp : List PanicEntry → Mem → Own → Prop}
    (hc : ev F c = some (.func (.func f) first.toArray cap.toArray)) (hxs : evs F xs = some vs) (hs : Con P f (first ++ vs ++ cap).toArray G M L K Kp)
    (hp : ∀ ch M' L', Le M M' → Kp ch M' L' → TP n Q ch F D G M' L')
    (h : ∀ v M' L', Le M M' → K v M' L' → Kc (putF d v F) D M' L') : Tr P n d (.call ⟨.value c, xs.toArray, argTypes⟩) ty Q F D G M L Kc := fun hok w a hw ha => by
  have hev : ∀ x u, ev F x = some u → a.eval x = u := fun x u hx => ha.eval hx
  have h1 : a.eval c = .func (.func f) first.toArray cap.toArray := hev _ _ hc
  have h2 : xs.map a.eval = vs := evs_map hev xs vs hxs
  have hrun : (execOp a.eval ⟨d, .call ⟨.value c, xs.toArray, argTypes⟩, ty, "", #[], none⟩).run P w = .ok (.enter f (first ++ vs ++ cap).toArray) w := by
    have he := hs.enter (first ++ vs ++ cap).toArray w
    simp only [execOp, resolve, h1, Deferred.ofValue, Sem.run_bind, Sem.run_pure, Result.andThen_ok, invoke, List.map_toArray, h2, List.append_toArray]
    exact he
  refine ⟨fun _ _ => trivial, ?_⟩
  rw [Oper.semAt_eq _ _ _ (fun c h => by cases h), hrun, Oper.uponIn_enter]
  refine ⟨fun h => (by cases h), callsIn_fen ((hs.calls w hw).mono ?_)⟩
  intro e w' hq
  cases e with
  | returned v =>
    obtain ⟨M', L', hle, hst, hK⟩ := hq
    exact ⟨_, _, M', L', ha.putF hok v, hst, h v M' L' hle hK⟩
  | panicked ch =>
    obtain ⟨M', L', hle, hst, hK⟩ := hq
    exact hp ch M' L' hle hK w' a hst ha
  | outgrown => exact hq.elim
theorem e_call {f : FuncId} {xs : List Operand} {argTypes : Array TypeId} {vs : List Value} {K : Value → Mem → Own → Prop} {Kp : List PanicEntry → Mem → Own → Prop}
    (hxs : evs F xs = some vs) (hs : Con P f vs.toArray G M L K Kp)
    (hp : ∀ ch M' L', Le M M' → Kp ch M' L' → TP n Q ch F D G M' L')
    (h : ∀ v M' L', Le M M' → K v M' L' → Kc (putF d v F) D M' L') : Tr P n d (.call ⟨.value (.func f), xs.toArray, argTypes⟩) ty Q F D G M L Kc :=
  e_callv (first := []) (cap := []) rfl hxs (by simpa using hs) hp h
theorem e_call' {f : FuncId} {xs : List Operand} {argTypes : Array TypeId} {vs : List Value} {K : Value → Mem → Own → Prop}
    (hxs : evs F xs = some vs) (hs : Con P f vs.toArray G M L K noPanic)
    (h : ∀ v M' L', Le M M' → K v M' L' → Kc (putF d v F) D M' L') : Tr P n d (.call ⟨.value (.func f), xs.toArray, argTypes⟩) ty Q F D G M L Kc :=
  e_call hxs hs (fun _ _ _ _ h => h.elim) h
/-- A call under a list of owned blocks that stands otherwise. -/
theorem Con.perm {f : FuncId} {args : Array Value} {L' : Own} {K : Value → Mem → Own → Prop} {Kp : List PanicEntry → Mem → Own → Prop} (hp : L.Perm L') (h : Con P f args G M L' K Kp) : Con P f args G M L K Kp :=
  ⟨h.enter, fun w hw => h.calls w (hw.perm hp)⟩
theorem Con.mono {f : FuncId} {args : Array Value} {K K' : Value → Mem → Own → Prop} {Kp Kp' : List PanicEntry → Mem → Own → Prop} (h : Con P f args G M L K Kp)
    (hk : ∀ v M' L', Le M M' → K v M' L' → K' v M' L') (hkp : ∀ v M' L', Le M M' → Kp v M' L' → Kp' v M' L') : Con P f args G M L K' Kp' :=
  ⟨h.enter, fun w hw => (h.calls w hw).mono fun e w' he => by
    cases e with
    | returned v => obtain ⟨M', L', a, b, c⟩ := he; exact ⟨M', L', a, b, hk _ _ _ a c⟩
    | panicked v => obtain ⟨M', L', a, b, c⟩ := he; exact ⟨M', L', a, b, hkp _ _ _ a c⟩
    | outgrown => exact he⟩
end
end Go.Eng
